import Derived.Test.YtohmmfimedgccaaQR2
/- FlatRight: what is right of a flat program is told alike by the program and its reference, its model's walk and the plain law behind it. PART 4 OF 8: G43 G10 PA PB PC PD G1049 G16 G53 G54 G55 -/
section
namespace Go.Proofs.Ytohmmfimedgccaa.E
set_option maxRecDepth 100000
set_option maxHeartbeats 4000000
set_option linter.unusedVariables false
set_option linter.unusedSimpArgs false
noncomputable def ZM (a0 : Expr) (f2 : Expr → Option Bool) : Int → Option (Int ⊕ (Bool ⊕ Unit))
 | v3 =>
  if (decide (v3 < ((List.length a0.args : Nat) : Int))) then
   ((qC a0.args v3).bind fun y9 =>
   (f2 y9).bind fun y11 =>
   if (!y11) then
    some (.inl false)
   else
    some (.inr ()) : Option (Bool ⊕ Unit)).bind fun x => match x with
   | .inl r => some (.inr (.inl r))
   | .inr _ =>
    some (.inl (IntKind.i64.wrap (v3 + (1 : Int))))
  else
   some (.inr (.inr ()))
noncomputable def B_ref04_Expr (f0 : ByteArray → Option Bool) (f1 : Int → Int → Int → Option Bool) (f2 : Expr → Option Bool) (a0 : Expr) : Option Bool :=
 (qy (ZM a0 f2) (0 : Int) : Option (Bool ⊕ Unit)).bind fun x => match x with
 | .inl r => some r
 | .inr _ =>
  (if (decide (a0.kind = (1 : Int))) then
   (f0 a0.name).bind fun y21 =>
   some (.inl ((y21 && (decide (((List.length a0.args : Nat) : Int) = (0 : Int)))) && ((decide (a0.n = (0 : Int))) && (decide (a0.d = (0 : Int))))))
  else
   if (decide (a0.kind = (2 : Int))) then
    (f0 a0.name).bind fun y26 =>
    some (.inl (((y26 && (decide ((1 : Int) ≤ ((List.length a0.args : Nat) : Int)))) && (decide (((List.length a0.args : Nat) : Int) ≤ (6 : Int)))) && ((decide (a0.n = (0 : Int))) && (decide (a0.d = (0 : Int))))))
   else
    some (.inr ()) : Option (Bool ⊕ Unit)).bind fun x => match x with
  | .inl r => some r
  | .inr _ =>
   if (((!decide (((List.length a0.args : Nat) : Int) = (1 : Int))) || (!decide (a0.name = (⟨#[]⟩ : ByteArray)))) || ((!decide (a0.d = (0 : Int))) && (!decide (a0.kind = (5 : Int))))) then
    some false
   else
    ((if (decide (a0.kind = (3 : Int))) then
     some (decide (a0.kind = (3 : Int)))
    else
     some (decide (a0.kind = (4 : Int))) : Option Bool).bind fun v39 =>
    if v39 then
     (f1 a0.n (1 : Int) (100 : Int)).bind fun y42 =>
     some (.inl y42)
    else
     if (decide (a0.kind = (5 : Int))) then
      (f1 a0.n (0 : Int) (100 : Int)).bind fun y45 =>
      (if y45 then
       (f1 a0.d (1 : Int) (100 : Int)).bind fun y47 =>
       some y47
      else
       some false).bind fun w49 =>
      some (.inl (y45 && w49))
     else
      (if (decide (a0.kind = (6 : Int))) then
       some (decide (a0.kind = (6 : Int)))
      else
       some (decide (a0.kind = (8 : Int))) : Option Bool).bind fun v54 =>
      if v54 then
       (f1 a0.n (-1000000000 : Int) (1000000000 : Int)).bind fun y57 =>
       some (.inl y57)
      else
       some (.inr ()) : Option (Bool ⊕ Unit)).bind fun x => match x with
    | .inl r => some r
    | .inr _ =>
     some ((decide (a0.kind = (7 : Int))) && (decide (a0.n = (0 : Int))))
theorem W_ref04_Expr (f0 f1 f2) (S0 : Sat_ref03_Right f0) (S1 : Sat_ref04_number f1) (S2 : Sat_ref04_Expr f2) : Sat_ref04_Expr (B_ref04_Expr f0 f1 f2) := by
 intro a0 r h σ K hK;refine qW Try.func43 rfl rfl (by kernel_rfl) ?_;unfold B_ref04_Expr at h;have hP := Pre.refl σ;have E0 : qz [(.ag (Expr.cl a0))] 0 = (.ag (Expr.cl a0)) := rfl;have TT := cj7 Expr.cle Expr.rlen T_2 T_3 T_37 T_39 T_9;refine qk (fun e s => ∃ i1 : Nat, Bx σ s i1 39 (Expr.cl a0) ∧ eP e 1 i1 ∧ Pre σ s) ?_ ?_
 ·refine w_x (cj2 E0 TT) ?_;exact qe ⟨σ.length, (Bx.new hP _ _), (xv (cj2 E0 TT)), (hP.app _)⟩
 rintro e s ⟨i1, X1, E1, hP⟩
 refine ql (qd (w_x Expr.rlen ?_));refine qf ?_;obtain ⟨x1, h2, h⟩ := qb h;refine qk (fun e s => .inr () = x1 ∧ Bx σ s i1 39 (Expr.cl a0) ∧ eP e 1 i1 ∧ Pre σ s) ?_ ?_
 ·refine qn (qH h2 (fun v e s => ∃ v3, v3 = v ∧ Bx σ s i1 39 (Expr.cl a0) ∧ eP e 1 i1 ∧ eI e 3 v3 ∧ Pre σ s) ⟨_, WkE.refl _, _, rfl, X1, E1, (xv TT), hP⟩ ?_)
  rintro v x4 e s hf5 ⟨v3, rfl, X1, E1, E3, hP⟩
  unfold ZM at hf5;(try dsimp only at hf5);refine ql (qd (w_x (cj4 E1 E3 X1.get TT) ?_));refine qf (qd ?_);rcases qi hf5 with ⟨hb6, hf5⟩ | ⟨hb6, hf5⟩
  ·refine xt hb6 (qm (qf ?_));obtain ⟨x7, h8, hf5⟩ := qb hf5;refine qk (fun e s => .inr () = x7 ∧ Bx σ s i1 39 (Expr.cl a0) ∧ eP e 1 i1 ∧ eI e 3 v3 ∧ Pre σ s) ?_ ?_
   ·refine qn (qd ?_);obtain ⟨y9, h10, h8⟩ := qb h8;obtain ⟨y11, h12, h8⟩ := qb h8;have R13 : (Expr.rows a0.args)[(v3).toNat]? = some (Expr.cl y9) := Expr.rget (qg h10).2;have q1 := cj6 E1 E3 X1.get R13 (qg h10).1 TT;refine w_x q1 ?_;refine S2 _ _ h12 _ _  ?_;refine w_y q1 ?_;refine qf ?_;rcases qi h8 with ⟨hb14, h8⟩ | ⟨hb14, h8⟩
    ·refine xt hb14 (qd (w_x Expr.rlen ?_));refine qf (qp (qw ?_));obtain rfl := qa h8;refine qB ?_;(try dsimp only at hf5);obtain rfl := qa hf5;refine zv rfl fun hr15 => ?_;obtain rfl := hr15;refine qw (qB ?_);(try dsimp only at h);obtain rfl := qa h;exact qt (fun _ => rfl) (xr (rs := #[.tmp 2]) TT) hP (.refl _) (.v _) hK
    ·refine xf hb14 (qm (qQ ?_));obtain rfl := qa h8;exact qe ⟨rfl, X1, E1, E3, hP⟩
   rintro e s ⟨rfl, X1, E1, E3, hP⟩
   (try dsimp only at hf5);refine w_x (cj2 E3 TT) ?_;obtain rfl := qa hf5;exact qZ rfl ⟨_, rfl, X1, E1, (xv (cj2 E3 TT)), hP⟩
  ·refine xf hb6 (qE (qM ?_));obtain rfl := qa hf5;refine qY rfl fun hr16 => ?_;obtain rfl := hr16;exact qK (qe ⟨rfl, X1, E1, hP⟩)
 rintro e s ⟨rfl, X1, E1, hP⟩
 (try dsimp only at h);refine qk (fun e s => Bx σ s i1 39 (Expr.cl a0) ∧ eP e 1 i1 ∧ eB e 4 ((decide (a0.n = (0 : Int))) && (decide (a0.d = (0 : Int)))) ∧ Pre σ s) ?_ ?_
 ·cases hb17 : (decide (a0.n = (0 : Int)))
  ·refine w_x (cj4 E1 X1.get hb17 TT) ?_;exact qe ⟨X1, E1, (xv (cj4 E1 X1.get hb17 TT)), hP⟩
  ·refine w_x (cj4 E1 X1.get hb17 TT) ?_;exact qe ⟨X1, E1, (xv (cj4 E1 X1.get hb17 TT)), hP⟩
 rintro e s ⟨X1, E1, E4, hP⟩
 refine ql (qd (w_x (cj3 E1 X1.get TT) ?_));refine qf ?_;obtain ⟨x18, h19, h⟩ := qb h;refine qk (fun e s => .inr () = x18 ∧ Bx σ s i1 39 (Expr.cl a0) ∧ eP e 1 i1 ∧ Pre σ s) ?_ ?_
 ·refine qn (qd (w_x TT ?_));refine qf ?_;rcases qi h19 with ⟨hb20, h19⟩ | ⟨hb20, h19⟩
  ·refine xt hb20 ?_;obtain ⟨y21, h22, h19⟩ := qb h19;refine qk (fun e s => eB e 2 ((y21 && (decide (((List.length a0.args : Nat) : Int) = (0 : Int)))) && ((decide (a0.n = (0 : Int))) && (decide (a0.d = (0 : Int))))) ∧ Pre σ s) ?_ ?_
   ·cases hb23 : y21
    ·have q2 := cj5 E1 E4 X1.get hb23 TT;refine w_x q2 ?_;refine S0 _ _ h22 _ _  ?_;refine w_y q2 ?_;exact qe ⟨(xv q2), hP⟩
    ·cases hb24 : (decide (((List.length a0.args : Nat) : Int) = (0 : Int)))
     ·have q3 := cj6 E1 E4 X1.get hb23 hb24 TT;refine w_x q3 ?_;refine S0 _ _ h22 _ _  ?_;refine w_y q3 ?_;exact qe ⟨(xv q3), hP⟩
     ·have q4 := cj6 E1 E4 X1.get hb23 hb24 TT;refine w_x q4 ?_;refine S0 _ _ h22 _ _  ?_;refine w_y q4 ?_;exact qe ⟨(xv q4), hP⟩
   rintro e s ⟨E2, hP⟩
   refine qp (qw ?_);obtain rfl := qa h19;refine qB ?_;(try dsimp only at h);obtain rfl := qa h;exact qt (fun _ => rfl) (xr (rs := #[.tmp 2]) (cj2 E2 TT)) hP (.refl _) (.v _) hK
  ·refine xf hb20 (qd (w_x TT ?_));refine qf ?_;rcases qi h19 with ⟨hb25, h19⟩ | ⟨hb25, h19⟩
   ·refine xt hb25 ?_;obtain ⟨y26, h27, h19⟩ := qb h19;refine qk (fun e s => eB e 2 (((y26 && (decide ((1 : Int) ≤ ((List.length a0.args : Nat) : Int)))) && (decide (((List.length a0.args : Nat) : Int) ≤ (6 : Int)))) && ((decide (a0.n = (0 : Int))) && (decide (a0.d = (0 : Int))))) ∧ Pre σ s) ?_ ?_
    ·cases hb28 : y26
     ·have q5 := cj5 E1 E4 X1.get hb28 TT;refine w_x q5 ?_;refine S0 _ _ h27 _ _  ?_;refine w_y q5 ?_;exact qe ⟨(xv q5), hP⟩
     ·cases hb29 : (decide ((1 : Int) ≤ ((List.length a0.args : Nat) : Int)))
      ·have q6 := cj6 E1 E4 X1.get hb28 hb29 TT;refine w_x q6 ?_;refine S0 _ _ h27 _ _  ?_;refine w_y q6 ?_;exact qe ⟨(xv q6), hP⟩
      ·cases hb30 : (decide (((List.length a0.args : Nat) : Int) ≤ (6 : Int)))
       ·have q7 := cj7 E1 E4 X1.get hb28 hb29 hb30 TT;refine w_x q7 ?_;refine S0 _ _ h27 _ _  ?_;refine w_y q7 ?_;exact qe ⟨(xv q7), hP⟩
       ·have q8 := cj7 E1 E4 X1.get hb28 hb29 hb30 TT;refine w_x q8 ?_;refine S0 _ _ h27 _ _  ?_;refine w_y q8 ?_;exact qe ⟨(xv q8), hP⟩
    rintro e s ⟨E2, hP⟩
    refine qp (qw ?_);obtain rfl := qa h19;refine qB ?_;(try dsimp only at h);obtain rfl := qa h;exact qt (fun _ => rfl) (xr (rs := #[.tmp 2]) (cj2 E2 TT)) hP (.refl _) (.v _) hK
   ·refine xf hb25 (qm (qQ ?_));obtain rfl := qa h19;exact qe ⟨rfl, X1, E1, hP⟩
 rintro e s ⟨rfl, X1, E1, hP⟩
 (try dsimp only at h);refine ql (qk (fun e s => Bx σ s i1 39 (Expr.cl a0) ∧ eP e 1 i1 ∧ eB e 81 (((!decide (((List.length a0.args : Nat) : Int) = (1 : Int))) || (!decide (a0.name = (⟨#[]⟩ : ByteArray)))) || ((!decide (a0.d = (0 : Int))) && (!decide (a0.kind = (5 : Int))))) ∧ Pre σ s) ?_ ?_)
 ·cases hb31 : (!decide (((List.length a0.args : Nat) : Int) = (1 : Int)))
  ·cases hb32 : (!decide (a0.name = (⟨#[]⟩ : ByteArray)))
   ·cases hb33 : (!decide (a0.d = (0 : Int)))
    ·have q9 := cj6 E1 X1.get hb31 hb32 hb33 TT;refine w_x q9 ?_;exact qe ⟨X1, E1, (xv q9), hP⟩
    ·have q10 := cj6 E1 X1.get hb31 hb32 hb33 TT;refine w_x q10 ?_;exact qe ⟨X1, E1, (xv q10), hP⟩
   ·refine w_x (cj5 E1 X1.get hb31 hb32 TT) ?_;exact qe ⟨X1, E1, (xv (cj5 E1 X1.get hb31 hb32 TT)), hP⟩
  ·refine w_x (cj4 E1 X1.get hb31 TT) ?_;exact qe ⟨X1, E1, (xv (cj4 E1 X1.get hb31 TT)), hP⟩
 rintro e s ⟨X1, E1, E81, hP⟩
 refine qd ?_;rcases qi h with ⟨hb34, h⟩ | ⟨hb34, h⟩
 ·refine xt (cj2 E81 hb34) (qd (w_x Expr.rlen ?_));refine qf (qp (zd ?_));obtain rfl := qa h;exact qt (fun _ => rfl) (xr (rs := #[.tmp 2]) TT) hP (.refl _) (.v _) hK
 ·refine xf (cj2 E81 hb34) (qm (qf (ql (qd (w_x (cj3 E1 X1.get TT) ?_)))));refine qf ?_;obtain ⟨x35, h36, h⟩ := qb h;refine qk (fun e s => .inr () = x35 ∧ Bx σ s i1 39 (Expr.cl a0) ∧ eP e 1 i1 ∧ Pre σ s) ?_ ?_
  ·refine qn (ql (qd (w_x TT ?_)));refine qf ?_;obtain ⟨x37, h38, h36⟩ := qb h36;refine qk (fun e s => ∃ v39, v39 = x37 ∧ Bx σ s i1 39 (Expr.cl a0) ∧ eP e 1 i1 ∧ eI e 83 a0.kind ∧ eB e 84 v39 ∧ Pre σ s) ?_ ?_
   ·rcases qi h38 with ⟨hb40, h38⟩ | ⟨hb40, h38⟩
    ·refine xt hb40 (qm ?_);obtain rfl := qa h38;exact qe ⟨_, rfl, X1, E1, (xv TT), (xv TT), hP⟩
    ·refine xf hb40 (w_x TT ?_);obtain rfl := qa h38;exact qe ⟨_, rfl, X1, E1, (xv TT), (xv TT), hP⟩
   rintro e s ⟨v39, rfl, X1, E1, E83, E84, hP⟩
   (try dsimp only at h36);rcases qi h36 with ⟨hb41, h36⟩ | ⟨hb41, h36⟩
   ·refine xt (cj2 E84 hb41) (qd ?_);obtain ⟨y42, h43, h36⟩ := qb h36;refine w_x (cj3 E1 X1.get TT) ?_;refine S1 _ _ _ _ h43 _ _  ?_;refine w_y (cj3 E1 X1.get TT) ?_;refine qf (qp (qw ?_));obtain rfl := qa h36;refine qB ?_;(try dsimp only at h);obtain rfl := qa h;exact qt (fun _ => rfl) (xr (rs := #[.tmp 2]) TT) hP (.refl _) (.v _) hK
   ·refine xf (cj2 E84 hb41) (qd (w_x (cj2 E83 TT) ?_));refine qf ?_;rcases qi h36 with ⟨hb44, h36⟩ | ⟨hb44, h36⟩
    ·refine xt hb44 ?_;obtain ⟨y45, h46, h36⟩ := qb h36;obtain ⟨w49, h50, h36⟩ := qb h36;refine qk (fun e s => eB e 2 (y45 && w49) ∧ Pre σ s) ?_ ?_
     ·cases hb51 : y45
      ·replace h50 := qU (by simp only [hb51, Bool.or_true, Bool.true_or, Bool.or_false, Bool.false_or, Bool.and_true, Bool.true_and, Bool.and_false, Bool.false_and, Bool.not_true, Bool.not_false, cond_true, cond_false]) h50;obtain rfl := qa h50;have q11 := cj4 E1 X1.get hb51 TT;refine w_x q11 ?_;refine S1 _ _ _ _ h46 _ _  ?_;refine w_y q11 ?_;exact qe ⟨(xv q11), hP⟩
      ·replace h50 := qO (by simp only [hb51, Bool.or_true, Bool.true_or, Bool.or_false, Bool.false_or, Bool.and_true, Bool.true_and, Bool.and_false, Bool.false_and, Bool.not_true, Bool.not_false, cond_true, cond_false]) h50;obtain ⟨y47, h48, h50⟩ := qb h50;obtain rfl := qa h50;have q12 := cj4 E1 X1.get hb51 TT;refine w_x q12 ?_;refine S1 _ _ _ _ h46 _ _  ?_;refine w_y q12 ?_;refine S1 _ _ _ _ h48 _ _  ?_;refine w_y q12 ?_;exact qe ⟨(xv q12), hP⟩
     rintro e s ⟨E2, hP⟩
     refine qp (qw ?_);obtain rfl := qa h36;refine qB ?_;(try dsimp only at h);obtain rfl := qa h;exact qt (fun _ => rfl) (xr (rs := #[.tmp 2]) (cj2 E2 TT)) hP (.refl _) (.v _) hK
    ·refine xf hb44 (ql (qd (w_x (cj2 E83 TT) ?_)));refine qf ?_;obtain ⟨x52, h53, h36⟩ := qb h36;refine qk (fun e s => ∃ v54, v54 = x52 ∧ Bx σ s i1 39 (Expr.cl a0) ∧ eP e 1 i1 ∧ eB e 100 v54 ∧ Pre σ s) ?_ ?_
     ·rcases qi h53 with ⟨hb55, h53⟩ | ⟨hb55, h53⟩
      ·refine xt hb55 (qm ?_);obtain rfl := qa h53;exact qe ⟨_, rfl, X1, E1, (xv TT), hP⟩
      ·refine xf hb55 (w_x (cj2 E83 TT) ?_);obtain rfl := qa h53;exact qe ⟨_, rfl, X1, E1, (xv (cj2 E83 TT)), hP⟩
     rintro e s ⟨v54, rfl, X1, E1, E100, hP⟩
     (try dsimp only at h36);rcases qi h36 with ⟨hb56, h36⟩ | ⟨hb56, h36⟩
     ·refine xt (cj2 E100 hb56) (qd ?_);obtain ⟨y57, h58, h36⟩ := qb h36;refine w_x (cj3 E1 X1.get TT) ?_;refine S1 _ _ _ _ h58 _ _  ?_;refine w_y (cj3 E1 X1.get TT) ?_;refine qf (qp (qw ?_));obtain rfl := qa h36;refine qB ?_;(try dsimp only at h);obtain rfl := qa h;exact qt (fun _ => rfl) (xr (rs := #[.tmp 2]) TT) hP (.refl _) (.v _) hK
     ·refine xf (cj2 E100 hb56) (qm (qQ ?_));obtain rfl := qa h36;exact qe ⟨rfl, X1, E1, hP⟩
  rintro e s ⟨rfl, X1, E1, hP⟩
  (try dsimp only at h);refine qk (fun e s => eB e 2 ((decide (a0.kind = (7 : Int))) && (decide (a0.n = (0 : Int)))) ∧ Pre σ s) ?_ ?_
  ·cases hb59 : (decide (a0.kind = (7 : Int)))
   ·refine w_x (cj4 E1 X1.get hb59 TT) ?_;exact qe ⟨(xv (cj4 E1 X1.get hb59 TT)), hP⟩
   ·refine w_x (cj4 E1 X1.get hb59 TT) ?_;exact qe ⟨(xv (cj4 E1 X1.get hb59 TT)), hP⟩
  rintro e s ⟨E2, hP⟩
  refine qp ?_;obtain rfl := qa h;exact qt (fun _ => rfl) (xr (rs := #[.tmp 2]) (cj2 E2 TT)) hP (.refl _) (.v _) hK
noncomputable def Zh (a0 : Program) (f0 : ByteArray → Option Bool) (f1 : Int → Int → Int → Option Bool) : Int → Option (Int ⊕ (Bool ⊕ Unit))
 | v116 =>
  if (decide (v116 < ((List.length a0.outputs : Nat) : Int))) then
   ((qC a0.outputs v116).bind fun y122 =>
   (f0 y122.name).bind fun y125 =>
   (if (!y125) then
    some false
   else
    (f0 y122.flow).bind fun y127 =>
    some (!y127)).bind fun w129 =>
   (if ((!y125) || w129) then
    some false
   else
    (f1 y122.deadline (1 : Int) (1000 : Int)).bind fun y131 =>
    some (!y131)).bind fun w133 =>
   if (((!y125) || w129) || w133) then
    some (.inl false)
   else
    some (.inr ()) : Option (Bool ⊕ Unit)).bind fun x => match x with
   | .inl r => some (.inr (.inl r))
   | .inr _ =>
    some (.inl (IntKind.i64.wrap (v116 + (1 : Int))))
  else
   some (.inr (.inr ()))
noncomputable def Zi (a0 : Program) (f0 : ByteArray → Option Bool) (f3 : Expr → Int → Option Int) (f5 : Expr → Option Bool) (f2 : Expr → Int → Option Int) : Int → Option (Int ⊕ (Bool ⊕ Unit))
 | v85 =>
  if (decide (v85 < ((List.length a0.flows : Nat) : Int))) then
   ((qC a0.flows v85).bind fun y91 =>
   (f0 y91.name).bind fun y94 =>
   (if (!y94) then
    some false
   else
    (f2 y91.e (100 : Int)).bind fun y96 =>
    some (decide ((100 : Int) < y96))).bind fun w98 =>
   (if ((!y94) || w98) then
    some false
   else
    (f3 y91.e (30 : Int)).bind fun y100 =>
    some (decide ((20 : Int) < y100))).bind fun w102 =>
   (if (((!y94) || w98) || w102) then
    some false
   else
    (f5 y91.e).bind fun y104 =>
    some (!y104)).bind fun w106 =>
   if ((((!y94) || w98) || w102) || w106) then
    some (.inl false)
   else
    some (.inr ()) : Option (Bool ⊕ Unit)).bind fun x => match x with
   | .inl r => some (.inr (.inl r))
   | .inr _ =>
    some (.inl (IntKind.i64.wrap (v85 + (1 : Int))))
  else
   some (.inr (.inr ()))
noncomputable def Zj (a0 : Program) (f0 : ByteArray → Option Bool) (f1 : Int → Int → Int → Option Bool) : Int → Option (Int ⊕ (Bool ⊕ Unit))
 | v59 =>
  if (decide (v59 < ((List.length a0.inputs : Nat) : Int))) then
   ((qC a0.inputs v59).bind fun y65 =>
   (f0 y65.name).bind fun y68 =>
   (if (!y68) then
    some false
   else
    (f1 y65.period (1 : Int) (1000 : Int)).bind fun y70 =>
    some (!y70)).bind fun w72 =>
   (if ((!y68) || w72) then
    some false
   else
    (f1 y65.phase (0 : Int) (1000 : Int)).bind fun y74 =>
    some (!y74)).bind fun w76 =>
   if (((!y68) || w72) || w76) then
    some (.inl false)
   else
    some (.inr ()) : Option (Bool ⊕ Unit)).bind fun x => match x with
   | .inl r => some (.inr (.inl r))
   | .inr _ =>
    some (.inl (IntKind.i64.wrap (v59 + (1 : Int))))
  else
   some (.inr (.inr ()))
noncomputable def Zk (y10 : Node) (f0 : ByteArray → Option Bool) : Int → Option (Int ⊕ (Bool ⊕ Unit))
 | v41 =>
  if (decide (v41 < ((List.length y10.params : Nat) : Int))) then
   ((qC y10.params v41).bind fun y47 =>
   (f0 y47).bind fun y49 =>
   if (!y49) then
    some (.inl false)
   else
    some (.inr ()) : Option (Bool ⊕ Unit)).bind fun x => match x with
   | .inl r => some (.inr (.inl r))
   | .inr _ =>
    some (.inl (IntKind.i64.wrap (v41 + (1 : Int))))
  else
   some (.inr (.inr ()))
noncomputable def Zl (a0 : Program) (f0 : ByteArray → Option Bool) (f4 : Expr → Option Bool) (f3 : Expr → Int → Option Int) (f2 : Expr → Int → Option Int) (f1 : Int → Int → Int → Option Bool) : Int → Option (Int ⊕ (Bool ⊕ Unit))
 | v4 =>
  if (decide (v4 < ((List.length a0.nodes : Nat) : Int))) then
   ((qC a0.nodes v4).bind fun y10 =>
   (f0 y10.name).bind fun y13 =>
   (if (((!y13) || (decide (((List.length y10.params : Nat) : Int) < (1 : Int)))) || (decide ((6 : Int) < ((List.length y10.params : Nat) : Int)))) then
    some false
   else
    (f1 y10.budget (1 : Int) (1000 : Int)).bind fun y15 =>
    some (!y15)).bind fun w17 =>
   (if ((((!y13) || (decide (((List.length y10.params : Nat) : Int) < (1 : Int)))) || (decide ((6 : Int) < ((List.length y10.params : Nat) : Int)))) || w17) then
    some false
   else
    (f2 y10.body (100 : Int)).bind fun y19 =>
    some (decide ((100 : Int) < y19))).bind fun w21 =>
   (if (((((!y13) || (decide (((List.length y10.params : Nat) : Int) < (1 : Int)))) || (decide ((6 : Int) < ((List.length y10.params : Nat) : Int)))) || w17) || w21) then
    some false
   else
    (f3 y10.body (30 : Int)).bind fun y23 =>
    some (decide ((20 : Int) < y23))).bind fun w25 =>
   (if ((((((!y13) || (decide (((List.length y10.params : Nat) : Int) < (1 : Int)))) || (decide ((6 : Int) < ((List.length y10.params : Nat) : Int)))) || w17) || w21) || w25) then
    some false
   else
    (f4 y10.body).bind fun y27 =>
    some (!y27)).bind fun w29 =>
   if (((((((!y13) || (decide (((List.length y10.params : Nat) : Int) < (1 : Int)))) || (decide ((6 : Int) < ((List.length y10.params : Nat) : Int)))) || w17) || w21) || w25) || w29) then
    some (.inl false)
   else
    (qy (Zk y10 f0) (0 : Int) : Option (Bool ⊕ Unit)).bind fun x => match x with
    | .inl r => some (.inl r)
    | .inr _ =>
     some (.inr ()) : Option (Bool ⊕ Unit)).bind fun x => match x with
   | .inl r => some (.inr (.inl r))
   | .inr _ =>
    some (.inl (IntKind.i64.wrap (v4 + (1 : Int))))
  else
   some (.inr (.inr ()))
noncomputable def B_ref04_Right (f0 : ByteArray → Option Bool) (f1 : Int → Int → Int → Option Bool) (f2 : Expr → Int → Option Int) (f3 : Expr → Int → Option Int) (f4 : Expr → Option Bool) (f5 : Expr → Option Bool) (a0 : Program) : Option Bool :=
 if (decide ((40 : Int) < (IntKind.i64.wrap ((IntKind.i64.wrap ((IntKind.i64.wrap (((List.length a0.nodes : Nat) : Int) + ((List.length a0.inputs : Nat) : Int))) + ((List.length a0.flows : Nat) : Int))) + ((List.length a0.outputs : Nat) : Int))))) then
  some false
 else
  (qy (Zl a0 f0 f4 f3 f2 f1) (0 : Int) : Option (Bool ⊕ Unit)).bind fun x => match x with
  | .inl r => some r
  | .inr _ =>
   (qy (Zj a0 f0 f1) (0 : Int) : Option (Bool ⊕ Unit)).bind fun x => match x with
   | .inl r => some r
   | .inr _ =>
    (qy (Zi a0 f0 f3 f5 f2) (0 : Int) : Option (Bool ⊕ Unit)).bind fun x => match x with
    | .inl r => some r
    | .inr _ =>
     (qy (Zh a0 f0 f1) (0 : Int) : Option (Bool ⊕ Unit)).bind fun x => match x with
     | .inl r => some r
     | .inr _ =>
      some true
abbrev C10_0 (z0 z1 : Store) (z2 : Nat) (z3 : Program) : Prop := Bx z0 z1 z2 27 (Program.cl z3)
theorem W_ref04_Right (f0 f1 f2 f3 f4 f5) (S0 : Sat_ref03_Right f0) (S1 : Sat_ref04_number f1) (S2 : Sat_ref04_Size f2) (S3 : Sat_ref04_Depth f3) (S4 : Sat_ref04_Body f4) (S5 : Sat_ref04_Expr f5) : Sat_ref04_Right (B_ref04_Right f0 f1 f2 f3 f4 f5) := by
 intro a0 r h σ K hK;refine qW Try.func10 rfl rfl (by kernel_rfl) ?_;unfold B_ref04_Right at h;have hP := Pre.refl σ;have E0 : qz [(.ag (Program.cl a0))] 0 = (.ag (Program.cl a0)) := rfl;have TT := cj2 Expr.rlen (ZC Flow.cle Input.cle Node.cle Output.cle Program.cle T_2 T_22 T_23 T_24 T_25 T_27 T_3 T_37 T_39 T_41 T_65 T_9 T_96 T_97 T_99);refine qk (fun e s => ∃ i1 : Nat, C10_0 σ s i1 a0 ∧ eP e 1 i1 ∧ Pre σ s) ?_ ?_
 ·refine w_x (cj2 E0 TT) ?_;exact qe ⟨σ.length, (Bx.new hP _ _), (xv (cj2 E0 TT)), (hP.app _)⟩
 rintro e s ⟨i1, X1, E1, hP⟩
 refine ql (qd (w_x (cj3 E1 X1.get TT) ?_));refine qf (qd ?_);rcases qi h with ⟨hb1, h⟩ | ⟨hb1, h⟩
 ·refine xt hb1 (qd (w_x Expr.rlen ?_));refine qf (qp (zd ?_));obtain rfl := qa h;exact qt (fun _ => rfl) (xr (rs := #[.tmp 2]) TT) hP (.refl _) (.v _) hK
 ·refine xf hb1 (qm (qf (ql (qd (w_x Expr.rlen ?_)))));refine qf ?_;obtain ⟨x2, h3, h⟩ := qb h;refine qk (fun e s => .inr () = x2 ∧ C10_0 σ s i1 a0 ∧ eP e 1 i1 ∧ Pre σ s) ?_ ?_
  ·refine qn (qH h3 (fun v e s => ∃ v4, v4 = v ∧ C10_0 σ s i1 a0 ∧ eP e 1 i1 ∧ eI e 3 v4 ∧ Pre σ s) ⟨_, WkE.refl _, _, rfl, X1, E1, (xv TT), hP⟩ ?_)
   rintro v x5 e s hf6 ⟨v4, rfl, X1, E1, E3, hP⟩
   unfold Zl at hf6;(try dsimp only at hf6);refine ql (qd (w_x (cj4 E1 E3 X1.get TT) ?_));refine qf (qd ?_);rcases qi hf6 with ⟨hb7, hf6⟩ | ⟨hb7, hf6⟩
   ·refine xt hb7 (qm (qf ?_));obtain ⟨x8, h9, hf6⟩ := qb hf6;refine qk (fun e s => .inr () = x8 ∧ C10_0 σ s i1 a0 ∧ eP e 1 i1 ∧ eI e 3 v4 ∧ Pre σ s) ?_ ?_
    ·refine qn ?_;obtain ⟨y10, h11, h9⟩ := qb h9;refine qk (fun e s => ∃ i4 : Nat, C10_0 σ s i1 a0 ∧ Bx σ s i4 99 (Node.cl y10) ∧ eP e 1 i1 ∧ eI e 3 v4 ∧ eP e 4 i4 ∧ Pre σ s) ?_ ?_
     ·have R12 := qA (f := Node.cl) (qg h11).2;have q1 := cj6 E1 E3 X1.g3 R12 (qg h11).1 TT;refine w_x q1 ?_;exact qe ⟨s.length, (X1.app _), (Bx.new hP _ _), E1, E3, (xv q1), (hP.app _)⟩
     rintro e s ⟨i4, X1, X4, E1, E3, E4, hP⟩
     refine ql ?_;obtain ⟨y13, h14, h9⟩ := qb h9;obtain ⟨w17, h18, h9⟩ := qb h9;obtain ⟨w21, h22, h9⟩ := qb h9;obtain ⟨w25, h26, h9⟩ := qb h9;obtain ⟨w29, h30, h9⟩ := qb h9;refine qk (fun e s => C10_0 σ s i1 a0 ∧ Bx σ s i4 99 (Node.cl y10) ∧ eP e 1 i1 ∧ eI e 3 v4 ∧ eP e 4 i4 ∧ eB e 79 (((((((!y13) || (decide (((List.length y10.params : Nat) : Int) < (1 : Int)))) || (decide ((6 : Int) < ((List.length y10.params : Nat) : Int)))) || w17) || w21) || w25) || w29) ∧ Pre σ s) ?_ ?_
     ·cases hb31 : (!y13)
      ·cases hb32 : (decide (((List.length y10.params : Nat) : Int) < (1 : Int)))
       ·cases hb33 : (decide ((6 : Int) < ((List.length y10.params : Nat) : Int)))
        ·replace h18 := qU (by simp only [hb31, hb32, hb33, Bool.or_true, Bool.true_or, Bool.or_false, Bool.false_or, Bool.and_true, Bool.true_and, Bool.and_false, Bool.false_and, Bool.not_true, Bool.not_false, cond_true, cond_false]) h18;obtain ⟨y15, h16, h18⟩ := qb h18;obtain rfl := qa h18;cases hb34 : (!y15)
         ·replace h22 := qU (by simp only [hb31, hb32, hb33, hb34, Bool.or_true, Bool.true_or, Bool.or_false, Bool.false_or, Bool.and_true, Bool.true_and, Bool.and_false, Bool.false_and, Bool.not_true, Bool.not_false, cond_true, cond_false]) h22;obtain ⟨y19, h20, h22⟩ := qb h22;obtain rfl := qa h22;cases hb35 : (decide ((100 : Int) < y19))
          ·replace h26 := qU (by simp only [hb31, hb32, hb33, hb34, hb35, Bool.or_true, Bool.true_or, Bool.or_false, Bool.false_or, Bool.and_true, Bool.true_and, Bool.and_false, Bool.false_and, Bool.not_true, Bool.not_false, cond_true, cond_false]) h26;obtain ⟨y23, h24, h26⟩ := qb h26;obtain rfl := qa h26;cases hb36 : (decide ((20 : Int) < y23))
           ·replace h30 := qU (by simp only [hb31, hb32, hb33, hb34, hb35, hb36, Bool.or_true, Bool.true_or, Bool.or_false, Bool.false_or, Bool.and_true, Bool.true_and, Bool.and_false, Bool.false_and, Bool.not_true, Bool.not_false, cond_true, cond_false]) h30;obtain ⟨y27, h28, h30⟩ := qb h30;obtain rfl := qa h30;have q2 := cj9 E4 X4.get hb31 hb32 hb33 hb34 hb35 hb36 TT;refine w_x q2 ?_;refine S0 _ _ h14 _ _  ?_;refine w_y q2 ?_;refine S1 _ _ _ _ h16 _ _  ?_;refine w_y q2 ?_;refine S2 _ _ _ h20 _ _  ?_;refine w_y q2 ?_;refine S3 _ _ _ h24 _ _  ?_;refine w_y q2 ?_;refine S4 _ _ h28 _ _  ?_;refine w_y q2 ?_;exact qe ⟨X1, X4, E1, E3, E4, (xv q2), hP⟩
           ·replace h30 := qO (by simp only [hb31, hb32, hb33, hb34, hb35, hb36, Bool.or_true, Bool.true_or, Bool.or_false, Bool.false_or, Bool.and_true, Bool.true_and, Bool.and_false, Bool.false_and, Bool.not_true, Bool.not_false, cond_true, cond_false]) h30;obtain rfl := qa h30;have q3 := cj9 E4 X4.get hb31 hb32 hb33 hb34 hb35 hb36 TT;refine w_x q3 ?_;refine S0 _ _ h14 _ _  ?_;refine w_y q3 ?_;refine S1 _ _ _ _ h16 _ _  ?_;refine w_y q3 ?_;refine S2 _ _ _ h20 _ _  ?_;refine w_y q3 ?_;refine S3 _ _ _ h24 _ _  ?_;refine w_y q3 ?_;exact qe ⟨X1, X4, E1, E3, E4, (xv q3), hP⟩
          ·replace h26 := qO (by simp only [hb31, hb32, hb33, hb34, hb35, Bool.or_true, Bool.true_or, Bool.or_false, Bool.false_or, Bool.and_true, Bool.true_and, Bool.and_false, Bool.false_and, Bool.not_true, Bool.not_false, cond_true, cond_false]) h26;obtain rfl := qa h26;replace h30 := qO (by simp only [hb31, hb32, hb33, hb34, hb35, Bool.or_true, Bool.true_or, Bool.or_false, Bool.false_or, Bool.and_true, Bool.true_and, Bool.and_false, Bool.false_and, Bool.not_true, Bool.not_false, cond_true, cond_false]) h30;obtain rfl := qa h30;have q4 := cj8 E4 X4.get hb31 hb32 hb33 hb34 hb35 TT;refine w_x q4 ?_;refine S0 _ _ h14 _ _  ?_;refine w_y q4 ?_;refine S1 _ _ _ _ h16 _ _  ?_;refine w_y q4 ?_;refine S2 _ _ _ h20 _ _  ?_;refine w_y q4 ?_;exact qe ⟨X1, X4, E1, E3, E4, (xv q4), hP⟩
         ·replace h22 := qO (by simp only [hb31, hb32, hb33, hb34, Bool.or_true, Bool.true_or, Bool.or_false, Bool.false_or, Bool.and_true, Bool.true_and, Bool.and_false, Bool.false_and, Bool.not_true, Bool.not_false, cond_true, cond_false]) h22;obtain rfl := qa h22;replace h26 := qO (by simp only [hb31, hb32, hb33, hb34, Bool.or_true, Bool.true_or, Bool.or_false, Bool.false_or, Bool.and_true, Bool.true_and, Bool.and_false, Bool.false_and, Bool.not_true, Bool.not_false, cond_true, cond_false]) h26;obtain rfl := qa h26;replace h30 := qO (by simp only [hb31, hb32, hb33, hb34, Bool.or_true, Bool.true_or, Bool.or_false, Bool.false_or, Bool.and_true, Bool.true_and, Bool.and_false, Bool.false_and, Bool.not_true, Bool.not_false, cond_true, cond_false]) h30;obtain rfl := qa h30;have q5 := cj7 E4 X4.get hb31 hb32 hb33 hb34 TT;refine w_x q5 ?_;refine S0 _ _ h14 _ _  ?_;refine w_y q5 ?_;refine S1 _ _ _ _ h16 _ _  ?_;refine w_y q5 ?_;exact qe ⟨X1, X4, E1, E3, E4, (xv q5), hP⟩
        ·replace h18 := qO (by simp only [hb31, hb32, hb33, Bool.or_true, Bool.true_or, Bool.or_false, Bool.false_or, Bool.and_true, Bool.true_and, Bool.and_false, Bool.false_and, Bool.not_true, Bool.not_false, cond_true, cond_false]) h18;obtain rfl := qa h18;replace h22 := qO (by simp only [hb31, hb32, hb33, Bool.or_true, Bool.true_or, Bool.or_false, Bool.false_or, Bool.and_true, Bool.true_and, Bool.and_false, Bool.false_and, Bool.not_true, Bool.not_false, cond_true, cond_false]) h22;obtain rfl := qa h22;replace h26 := qO (by simp only [hb31, hb32, hb33, Bool.or_true, Bool.true_or, Bool.or_false, Bool.false_or, Bool.and_true, Bool.true_and, Bool.and_false, Bool.false_and, Bool.not_true, Bool.not_false, cond_true, cond_false]) h26;obtain rfl := qa h26;replace h30 := qO (by simp only [hb31, hb32, hb33, Bool.or_true, Bool.true_or, Bool.or_false, Bool.false_or, Bool.and_true, Bool.true_and, Bool.and_false, Bool.false_and, Bool.not_true, Bool.not_false, cond_true, cond_false]) h30;obtain rfl := qa h30;have q6 := cj6 E4 X4.get hb31 hb32 hb33 TT;refine w_x q6 ?_;refine S0 _ _ h14 _ _  ?_;refine w_y q6 ?_;exact qe ⟨X1, X4, E1, E3, E4, (xv q6), hP⟩
       ·replace h18 := qO (by simp only [hb31, hb32, Bool.or_true, Bool.true_or, Bool.or_false, Bool.false_or, Bool.and_true, Bool.true_and, Bool.and_false, Bool.false_and, Bool.not_true, Bool.not_false, cond_true, cond_false]) h18;obtain rfl := qa h18;replace h22 := qO (by simp only [hb31, hb32, Bool.or_true, Bool.true_or, Bool.or_false, Bool.false_or, Bool.and_true, Bool.true_and, Bool.and_false, Bool.false_and, Bool.not_true, Bool.not_false, cond_true, cond_false]) h22;obtain rfl := qa h22;replace h26 := qO (by simp only [hb31, hb32, Bool.or_true, Bool.true_or, Bool.or_false, Bool.false_or, Bool.and_true, Bool.true_and, Bool.and_false, Bool.false_and, Bool.not_true, Bool.not_false, cond_true, cond_false]) h26;obtain rfl := qa h26;replace h30 := qO (by simp only [hb31, hb32, Bool.or_true, Bool.true_or, Bool.or_false, Bool.false_or, Bool.and_true, Bool.true_and, Bool.and_false, Bool.false_and, Bool.not_true, Bool.not_false, cond_true, cond_false]) h30;obtain rfl := qa h30;have q7 := cj5 E4 X4.get hb31 hb32 TT;refine w_x q7 ?_;refine S0 _ _ h14 _ _  ?_;refine w_y q7 ?_;exact qe ⟨X1, X4, E1, E3, E4, (xv q7), hP⟩
      ·replace h18 := qO (by simp only [hb31, Bool.or_true, Bool.true_or, Bool.or_false, Bool.false_or, Bool.and_true, Bool.true_and, Bool.and_false, Bool.false_and, Bool.not_true, Bool.not_false, cond_true, cond_false]) h18;obtain rfl := qa h18;replace h22 := qO (by simp only [hb31, Bool.or_true, Bool.true_or, Bool.or_false, Bool.false_or, Bool.and_true, Bool.true_and, Bool.and_false, Bool.false_and, Bool.not_true, Bool.not_false, cond_true, cond_false]) h22;obtain rfl := qa h22;replace h26 := qO (by simp only [hb31, Bool.or_true, Bool.true_or, Bool.or_false, Bool.false_or, Bool.and_true, Bool.true_and, Bool.and_false, Bool.false_and, Bool.not_true, Bool.not_false, cond_true, cond_false]) h26;obtain rfl := qa h26;replace h30 := qO (by simp only [hb31, Bool.or_true, Bool.true_or, Bool.or_false, Bool.false_or, Bool.and_true, Bool.true_and, Bool.and_false, Bool.false_and, Bool.not_true, Bool.not_false, cond_true, cond_false]) h30;obtain rfl := qa h30;have q8 := cj4 E4 X4.get hb31 TT;refine w_x q8 ?_;refine S0 _ _ h14 _ _  ?_;refine w_y q8 ?_;exact qe ⟨X1, X4, E1, E3, E4, (xv q8), hP⟩
     rintro e s ⟨X1, X4, E1, E3, E4, E79, hP⟩
     refine qd ?_;rcases qi h9 with ⟨hb37, h9⟩ | ⟨hb37, h9⟩
     ·refine xt (cj2 E79 hb37) (qd (w_x Expr.rlen ?_));refine qf (qp (zd (qw ?_)));obtain rfl := qa h9;refine qB ?_;(try dsimp only at hf6);obtain rfl := qa hf6;refine zv rfl fun hr38 => ?_;obtain rfl := hr38;refine qw (qB ?_);(try dsimp only at h);obtain rfl := qa h;exact qt (fun _ => rfl) (xr (rs := #[.tmp 2]) TT) hP (.refl _) (.v _) hK
     ·refine xf (cj2 E79 hb37) (qm (qf (qd (w_x Expr.rlen ?_))));refine qf ?_;obtain ⟨x39, h40, h9⟩ := qb h9;refine zE (fun e s => .inr () = x39 ∧ C10_0 σ s i1 a0 ∧ eP e 1 i1 ∧ eI e 3 v4 ∧ Pre σ s) ?_ ?_
      ·refine qn (qH h40 (fun v e s => ∃ v41, v41 = v ∧ C10_0 σ s i1 a0 ∧ Bx σ s i4 99 (Node.cl y10) ∧ eP e 1 i1 ∧ eI e 3 v4 ∧ eP e 4 i4 ∧ eI e 5 v41 ∧ Pre σ s) ⟨_, WkE.refl _, _, rfl, X1, X4, E1, E3, E4, (xv TT), hP⟩ ?_)
       rintro v x42 e s hf43 ⟨v41, rfl, X1, X4, E1, E3, E4, E5, hP⟩
       unfold Zk at hf43;(try dsimp only at hf43);refine ql (qd (w_x (cj4 E4 E5 X4.get TT) ?_));refine qf (qd ?_);rcases qi hf43 with ⟨hb44, hf43⟩ | ⟨hb44, hf43⟩
       ·refine xt hb44 (qm (qf ?_));obtain ⟨x45, h46, hf43⟩ := qb hf43;refine qk (fun e s => .inr () = x45 ∧ C10_0 σ s i1 a0 ∧ Bx σ s i4 99 (Node.cl y10) ∧ eP e 1 i1 ∧ eI e 3 v4 ∧ eP e 4 i4 ∧ eI e 5 v41 ∧ Pre σ s) ?_ ?_
        ·refine qn (qd ?_);obtain ⟨y47, h48, h46⟩ := qb h46;obtain ⟨y49, h50, h46⟩ := qb h46;have R51 : (List.map C_s y10.params)[(v41).toNat]? = some [(.v (.string y47))] := qA (qg h48).2;have q9 := cj6 E4 E5 X4.get R51 (qg h48).1 TT;refine w_x q9 ?_;refine S0 _ _ h50 _ _  ?_;refine w_y q9 ?_;refine qf ?_;rcases qi h46 with ⟨hb52, h46⟩ | ⟨hb52, h46⟩
         ·refine xt hb52 (qd (w_x Expr.rlen ?_));refine qf (qp (qw ?_));obtain rfl := qa h46;refine qB ?_;(try dsimp only at hf43);obtain rfl := qa hf43;refine zv rfl fun hr53 => ?_;obtain rfl := hr53;refine qw (Yk ?_);(try dsimp only at h9);refine qw ?_;obtain rfl := qa h9;refine qB ?_;(try dsimp only at hf6);obtain rfl := qa hf6;refine zv rfl fun hr54 => ?_;obtain rfl := hr54;refine qw (qB ?_);(try dsimp only at h);obtain rfl := qa h;exact qt (fun _ => rfl) (xr (rs := #[.tmp 2]) TT) hP (.refl _) (.v _) hK
         ·refine xf hb52 (qm (qQ ?_));obtain rfl := qa h46;exact qe ⟨rfl, X1, X4, E1, E3, E4, E5, hP⟩
        rintro e s ⟨rfl, X1, X4, E1, E3, E4, E5, hP⟩
        (try dsimp only at hf43);refine w_x (cj2 E5 TT) ?_;obtain rfl := qa hf43;exact qZ rfl ⟨_, rfl, X1, X4, E1, E3, E4, (xv (cj2 E5 TT)), hP⟩
       ·refine xf hb44 (qE (qM ?_));obtain rfl := qa hf43;refine qY rfl fun hr55 => ?_;obtain rfl := hr55;exact qK (qS ⟨rfl, X1, E1, E3, hP⟩)
      rintro e s ⟨rfl, X1, E1, E3, hP⟩
      (try dsimp only at h9);refine qQ ?_;obtain rfl := qa h9;exact qe ⟨rfl, X1, E1, E3, hP⟩
    rintro e s ⟨rfl, X1, E1, E3, hP⟩
    (try dsimp only at hf6);refine w_x (cj2 E3 TT) ?_;obtain rfl := qa hf6;exact qZ rfl ⟨_, rfl, X1, E1, (xv (cj2 E3 TT)), hP⟩
   ·refine xf hb7 (qE (qM ?_));obtain rfl := qa hf6;refine qY rfl fun hr56 => ?_;obtain rfl := hr56;exact qK (qe ⟨rfl, X1, E1, hP⟩)
  rintro e s ⟨rfl, X1, E1, hP⟩
  (try dsimp only at h);refine ql (qd (w_x Expr.rlen ?_));refine qf ?_;obtain ⟨x57, h58, h⟩ := qb h;refine qk (fun e s => .inr () = x57 ∧ C10_0 σ s i1 a0 ∧ eP e 1 i1 ∧ Pre σ s) ?_ ?_
  ·refine qn (qH h58 (fun v e s => ∃ v59, v59 = v ∧ C10_0 σ s i1 a0 ∧ eP e 1 i1 ∧ eI e 6 v59 ∧ Pre σ s) ⟨_, WkE.refl _, _, rfl, X1, E1, (xv TT), hP⟩ ?_)
   rintro v x60 e s hf61 ⟨v59, rfl, X1, E1, E6, hP⟩
   unfold Zj at hf61;(try dsimp only at hf61);refine ql (qd (w_x (cj4 E1 E6 X1.get TT) ?_));refine qf (qd ?_);rcases qi hf61 with ⟨hb62, hf61⟩ | ⟨hb62, hf61⟩
   ·refine xt hb62 (qm (qf ?_));obtain ⟨x63, h64, hf61⟩ := qb hf61;refine qk (fun e s => .inr () = x63 ∧ C10_0 σ s i1 a0 ∧ eP e 1 i1 ∧ eI e 6 v59 ∧ Pre σ s) ?_ ?_
    ·refine qn ?_;obtain ⟨y65, h66, h64⟩ := qb h64;refine qk (fun e s => ∃ i7 : Nat, C10_0 σ s i1 a0 ∧ Bx σ s i7 96 (Input.cl y65) ∧ eP e 1 i1 ∧ eI e 6 v59 ∧ eP e 7 i7 ∧ Pre σ s) ?_ ?_
     ·have R67 := qA (f := Input.cl) (qg h66).2;have q10 := cj6 E1 E6 X1.g3 R67 (qg h66).1 TT;refine w_x q10 ?_;exact qe ⟨s.length, (X1.app _), (Bx.new hP _ _), E1, E6, (xv q10), (hP.app _)⟩
     rintro e s ⟨i7, X1, X7, E1, E6, E7, hP⟩
     obtain ⟨y68, h69, h64⟩ := qb h64;obtain ⟨w72, h73, h64⟩ := qb h64;obtain ⟨w76, h77, h64⟩ := qb h64;refine qk (fun e s => C10_0 σ s i1 a0 ∧ eP e 1 i1 ∧ eI e 6 v59 ∧ eB e 121 (((!y68) || w72) || w76) ∧ Pre σ s) ?_ ?_
     ·cases hb78 : (!y68)
      ·replace h73 := qU (by simp only [hb78, Bool.or_true, Bool.true_or, Bool.or_false, Bool.false_or, Bool.and_true, Bool.true_and, Bool.and_false, Bool.false_and, Bool.not_true, Bool.not_false, cond_true, cond_false]) h73;obtain ⟨y70, h71, h73⟩ := qb h73;obtain rfl := qa h73;cases hb79 : (!y70)
       ·replace h77 := qU (by simp only [hb78, hb79, Bool.or_true, Bool.true_or, Bool.or_false, Bool.false_or, Bool.and_true, Bool.true_and, Bool.and_false, Bool.false_and, Bool.not_true, Bool.not_false, cond_true, cond_false]) h77;obtain ⟨y74, h75, h77⟩ := qb h77;obtain rfl := qa h77;have q11 := cj5 E7 X7.get hb78 hb79 TT;refine w_x q11 ?_;refine S0 _ _ h69 _ _  ?_;refine w_y q11 ?_;refine S1 _ _ _ _ h71 _ _  ?_;refine w_y q11 ?_;refine S1 _ _ _ _ h75 _ _  ?_;refine w_y q11 ?_;exact qe ⟨X1, E1, E6, (xv q11), hP⟩
       ·replace h77 := qO (by simp only [hb78, hb79, Bool.or_true, Bool.true_or, Bool.or_false, Bool.false_or, Bool.and_true, Bool.true_and, Bool.and_false, Bool.false_and, Bool.not_true, Bool.not_false, cond_true, cond_false]) h77;obtain rfl := qa h77;have q12 := cj5 E7 X7.get hb78 hb79 TT;refine w_x q12 ?_;refine S0 _ _ h69 _ _  ?_;refine w_y q12 ?_;refine S1 _ _ _ _ h71 _ _  ?_;refine w_y q12 ?_;exact qe ⟨X1, E1, E6, (xv q12), hP⟩
      ·replace h73 := qO (by simp only [hb78, Bool.or_true, Bool.true_or, Bool.or_false, Bool.false_or, Bool.and_true, Bool.true_and, Bool.and_false, Bool.false_and, Bool.not_true, Bool.not_false, cond_true, cond_false]) h73;obtain rfl := qa h73;replace h77 := qO (by simp only [hb78, Bool.or_true, Bool.true_or, Bool.or_false, Bool.false_or, Bool.and_true, Bool.true_and, Bool.and_false, Bool.false_and, Bool.not_true, Bool.not_false, cond_true, cond_false]) h77;obtain rfl := qa h77;have q13 := cj4 E7 X7.get hb78 TT;refine w_x q13 ?_;refine S0 _ _ h69 _ _  ?_;refine w_y q13 ?_;exact qe ⟨X1, E1, E6, (xv q13), hP⟩
     rintro e s ⟨X1, E1, E6, E121, hP⟩
     rcases qi h64 with ⟨hb80, h64⟩ | ⟨hb80, h64⟩
     ·refine xt (cj2 E121 hb80) (qd (w_x Expr.rlen ?_));refine qf (qp (qw ?_));obtain rfl := qa h64;refine qB ?_;(try dsimp only at hf61);obtain rfl := qa hf61;refine zv rfl fun hr81 => ?_;obtain rfl := hr81;refine qw (qB ?_);(try dsimp only at h);obtain rfl := qa h;exact qt (fun _ => rfl) (xr (rs := #[.tmp 2]) TT) hP (.refl _) (.v _) hK
     ·refine xf (cj2 E121 hb80) (qm (qQ ?_));obtain rfl := qa h64;exact qe ⟨rfl, X1, E1, E6, hP⟩
    rintro e s ⟨rfl, X1, E1, E6, hP⟩
    (try dsimp only at hf61);refine w_x (cj2 E6 TT) ?_;obtain rfl := qa hf61;exact qZ rfl ⟨_, rfl, X1, E1, (xv (cj2 E6 TT)), hP⟩
   ·refine xf hb62 (qE (qM ?_));obtain rfl := qa hf61;refine qY rfl fun hr82 => ?_;obtain rfl := hr82;exact qK (qe ⟨rfl, X1, E1, hP⟩)
  rintro e s ⟨rfl, X1, E1, hP⟩
  (try dsimp only at h);refine ql (qd (w_x Expr.rlen ?_));refine qf ?_;obtain ⟨x83, h84, h⟩ := qb h;refine qk (fun e s => .inr () = x83 ∧ C10_0 σ s i1 a0 ∧ eP e 1 i1 ∧ Pre σ s) ?_ ?_
  ·refine qn (qH h84 (fun v e s => ∃ v85, v85 = v ∧ C10_0 σ s i1 a0 ∧ eP e 1 i1 ∧ eI e 8 v85 ∧ Pre σ s) ⟨_, WkE.refl _, _, rfl, X1, E1, (xv TT), hP⟩ ?_)
   rintro v x86 e s hf87 ⟨v85, rfl, X1, E1, E8, hP⟩
   unfold Zi at hf87;(try dsimp only at hf87);refine ql (qd (w_x (cj4 E1 E8 X1.get TT) ?_));refine qf (qd ?_);rcases qi hf87 with ⟨hb88, hf87⟩ | ⟨hb88, hf87⟩
   ·refine xt hb88 (qm (qf ?_));obtain ⟨x89, h90, hf87⟩ := qb hf87;refine qk (fun e s => .inr () = x89 ∧ C10_0 σ s i1 a0 ∧ eP e 1 i1 ∧ eI e 8 v85 ∧ Pre σ s) ?_ ?_
    ·refine qn ?_;obtain ⟨y91, h92, h90⟩ := qb h90;refine qk (fun e s => ∃ i9 : Nat, C10_0 σ s i1 a0 ∧ Bx σ s i9 41 (Flow.cl y91) ∧ eP e 1 i1 ∧ eI e 8 v85 ∧ eP e 9 i9 ∧ Pre σ s) ?_ ?_
     ·have R93 := qA (f := Flow.cl) (qg h92).2;have q14 := cj6 E1 E8 X1.g3 R93 (qg h92).1 TT;refine w_x q14 ?_;exact qe ⟨s.length, (X1.app _), (Bx.new hP _ _), E1, E8, (xv q14), (hP.app _)⟩
     rintro e s ⟨i9, X1, X9, E1, E8, E9, hP⟩
     obtain ⟨y94, h95, h90⟩ := qb h90;obtain ⟨w98, h99, h90⟩ := qb h90;obtain ⟨w102, h103, h90⟩ := qb h90;obtain ⟨w106, h107, h90⟩ := qb h90;refine qk (fun e s => C10_0 σ s i1 a0 ∧ eP e 1 i1 ∧ eI e 8 v85 ∧ eB e 155 ((((!y94) || w98) || w102) || w106) ∧ Pre σ s) ?_ ?_
     ·cases hb108 : (!y94)
      ·replace h99 := qU (by simp only [hb108, Bool.or_true, Bool.true_or, Bool.or_false, Bool.false_or, Bool.and_true, Bool.true_and, Bool.and_false, Bool.false_and, Bool.not_true, Bool.not_false, cond_true, cond_false]) h99;obtain ⟨y96, h97, h99⟩ := qb h99;obtain rfl := qa h99;cases hb109 : (decide ((100 : Int) < y96))
       ·replace h103 := qU (by simp only [hb108, hb109, Bool.or_true, Bool.true_or, Bool.or_false, Bool.false_or, Bool.and_true, Bool.true_and, Bool.and_false, Bool.false_and, Bool.not_true, Bool.not_false, cond_true, cond_false]) h103;obtain ⟨y100, h101, h103⟩ := qb h103;obtain rfl := qa h103;cases hb110 : (decide ((20 : Int) < y100))
        ·replace h107 := qU (by simp only [hb108, hb109, hb110, Bool.or_true, Bool.true_or, Bool.or_false, Bool.false_or, Bool.and_true, Bool.true_and, Bool.and_false, Bool.false_and, Bool.not_true, Bool.not_false, cond_true, cond_false]) h107;obtain ⟨y104, h105, h107⟩ := qb h107;obtain rfl := qa h107;have q15 := cj6 E9 X9.get hb108 hb109 hb110 TT;refine w_x q15 ?_;refine S0 _ _ h95 _ _  ?_;refine w_y q15 ?_;refine S2 _ _ _ h97 _ _  ?_;refine w_y q15 ?_;refine S3 _ _ _ h101 _ _  ?_;refine w_y q15 ?_;refine S5 _ _ h105 _ _  ?_;refine w_y q15 ?_;exact qe ⟨X1, E1, E8, (xv q15), hP⟩
        ·replace h107 := qO (by simp only [hb108, hb109, hb110, Bool.or_true, Bool.true_or, Bool.or_false, Bool.false_or, Bool.and_true, Bool.true_and, Bool.and_false, Bool.false_and, Bool.not_true, Bool.not_false, cond_true, cond_false]) h107;obtain rfl := qa h107;have q16 := cj6 E9 X9.get hb108 hb109 hb110 TT;refine w_x q16 ?_;refine S0 _ _ h95 _ _  ?_;refine w_y q16 ?_;refine S2 _ _ _ h97 _ _  ?_;refine w_y q16 ?_;refine S3 _ _ _ h101 _ _  ?_;refine w_y q16 ?_;exact qe ⟨X1, E1, E8, (xv q16), hP⟩
       ·replace h103 := qO (by simp only [hb108, hb109, Bool.or_true, Bool.true_or, Bool.or_false, Bool.false_or, Bool.and_true, Bool.true_and, Bool.and_false, Bool.false_and, Bool.not_true, Bool.not_false, cond_true, cond_false]) h103;obtain rfl := qa h103;replace h107 := qO (by simp only [hb108, hb109, Bool.or_true, Bool.true_or, Bool.or_false, Bool.false_or, Bool.and_true, Bool.true_and, Bool.and_false, Bool.false_and, Bool.not_true, Bool.not_false, cond_true, cond_false]) h107;obtain rfl := qa h107;have q17 := cj5 E9 X9.get hb108 hb109 TT;refine w_x q17 ?_;refine S0 _ _ h95 _ _  ?_;refine w_y q17 ?_;refine S2 _ _ _ h97 _ _  ?_;refine w_y q17 ?_;exact qe ⟨X1, E1, E8, (xv q17), hP⟩
      ·replace h99 := qO (by simp only [hb108, Bool.or_true, Bool.true_or, Bool.or_false, Bool.false_or, Bool.and_true, Bool.true_and, Bool.and_false, Bool.false_and, Bool.not_true, Bool.not_false, cond_true, cond_false]) h99;obtain rfl := qa h99;replace h103 := qO (by simp only [hb108, Bool.or_true, Bool.true_or, Bool.or_false, Bool.false_or, Bool.and_true, Bool.true_and, Bool.and_false, Bool.false_and, Bool.not_true, Bool.not_false, cond_true, cond_false]) h103;obtain rfl := qa h103;replace h107 := qO (by simp only [hb108, Bool.or_true, Bool.true_or, Bool.or_false, Bool.false_or, Bool.and_true, Bool.true_and, Bool.and_false, Bool.false_and, Bool.not_true, Bool.not_false, cond_true, cond_false]) h107;obtain rfl := qa h107;have q18 := cj4 E9 X9.get hb108 TT;refine w_x q18 ?_;refine S0 _ _ h95 _ _  ?_;refine w_y q18 ?_;exact qe ⟨X1, E1, E8, (xv q18), hP⟩
     rintro e s ⟨X1, E1, E8, E155, hP⟩
     rcases qi h90 with ⟨hb111, h90⟩ | ⟨hb111, h90⟩
     ·refine xt (cj2 E155 hb111) (qd (w_x Expr.rlen ?_));refine qf (qp (qw ?_));obtain rfl := qa h90;refine qB ?_;(try dsimp only at hf87);obtain rfl := qa hf87;refine zv rfl fun hr112 => ?_;obtain rfl := hr112;refine qw (qB ?_);(try dsimp only at h);obtain rfl := qa h;exact qt (fun _ => rfl) (xr (rs := #[.tmp 2]) TT) hP (.refl _) (.v _) hK
     ·refine xf (cj2 E155 hb111) (qm (qQ ?_));obtain rfl := qa h90;exact qe ⟨rfl, X1, E1, E8, hP⟩
    rintro e s ⟨rfl, X1, E1, E8, hP⟩
    (try dsimp only at hf87);refine w_x (cj2 E8 TT) ?_;obtain rfl := qa hf87;exact qZ rfl ⟨_, rfl, X1, E1, (xv (cj2 E8 TT)), hP⟩
   ·refine xf hb88 (qE (qM ?_));obtain rfl := qa hf87;refine qY rfl fun hr113 => ?_;obtain rfl := hr113;exact qK (qe ⟨rfl, X1, E1, hP⟩)
  rintro e s ⟨rfl, X1, E1, hP⟩
  (try dsimp only at h);refine ql (qd (w_x Expr.rlen ?_));refine qf ?_;obtain ⟨x114, h115, h⟩ := qb h;refine qk (fun e s => .inr () = x114 ∧ Pre σ s) ?_ ?_
  ·refine qn (qH h115 (fun v e s => ∃ v116, v116 = v ∧ C10_0 σ s i1 a0 ∧ eP e 1 i1 ∧ eI e 10 v116 ∧ Pre σ s) ⟨_, WkE.refl _, _, rfl, X1, E1, (xv TT), hP⟩ ?_)
   rintro v x117 e s hf118 ⟨v116, rfl, X1, E1, E10, hP⟩
   unfold Zh at hf118;(try dsimp only at hf118);refine ql (qd (w_x (cj4 E1 E10 X1.get TT) ?_));refine qf (qd ?_);rcases qi hf118 with ⟨hb119, hf118⟩ | ⟨hb119, hf118⟩
   ·refine xt hb119 (qm (qf ?_));obtain ⟨x120, h121, hf118⟩ := qb hf118;refine qk (fun e s => .inr () = x120 ∧ C10_0 σ s i1 a0 ∧ eP e 1 i1 ∧ eI e 10 v116 ∧ Pre σ s) ?_ ?_
    ·refine qn ?_;obtain ⟨y122, h123, h121⟩ := qb h121;refine qk (fun e s => ∃ i11 : Nat, C10_0 σ s i1 a0 ∧ Bx σ s i11 65 (Output.cl y122) ∧ eP e 1 i1 ∧ eI e 10 v116 ∧ eP e 11 i11 ∧ Pre σ s) ?_ ?_
     ·have R124 := qA (f := Output.cl) (qg h123).2;have q19 := cj6 E1 E10 X1.g3 R124 (qg h123).1 TT;refine w_x q19 ?_;exact qe ⟨s.length, (X1.app _), (Bx.new hP _ _), E1, E10, (xv q19), (hP.app _)⟩
     rintro e s ⟨i11, X1, X11, E1, E10, E11, hP⟩
     obtain ⟨y125, h126, h121⟩ := qb h121;obtain ⟨w129, h130, h121⟩ := qb h121;obtain ⟨w133, h134, h121⟩ := qb h121;refine qk (fun e s => C10_0 σ s i1 a0 ∧ eP e 1 i1 ∧ eI e 10 v116 ∧ eB e 183 (((!y125) || w129) || w133) ∧ Pre σ s) ?_ ?_
     ·cases hb135 : (!y125)
      ·replace h130 := qU (by simp only [hb135, Bool.or_true, Bool.true_or, Bool.or_false, Bool.false_or, Bool.and_true, Bool.true_and, Bool.and_false, Bool.false_and, Bool.not_true, Bool.not_false, cond_true, cond_false]) h130;obtain ⟨y127, h128, h130⟩ := qb h130;obtain rfl := qa h130;cases hb136 : (!y127)
       ·replace h134 := qU (by simp only [hb135, hb136, Bool.or_true, Bool.true_or, Bool.or_false, Bool.false_or, Bool.and_true, Bool.true_and, Bool.and_false, Bool.false_and, Bool.not_true, Bool.not_false, cond_true, cond_false]) h134;obtain ⟨y131, h132, h134⟩ := qb h134;obtain rfl := qa h134;have q20 := cj5 E11 X11.get hb135 hb136 TT;refine w_x q20 ?_;refine S0 _ _ h126 _ _  ?_;refine w_y q20 ?_;refine S0 _ _ h128 _ _  ?_;refine w_y q20 ?_;refine S1 _ _ _ _ h132 _ _  ?_;refine w_y q20 ?_;exact qe ⟨X1, E1, E10, (xv q20), hP⟩
       ·replace h134 := qO (by simp only [hb135, hb136, Bool.or_true, Bool.true_or, Bool.or_false, Bool.false_or, Bool.and_true, Bool.true_and, Bool.and_false, Bool.false_and, Bool.not_true, Bool.not_false, cond_true, cond_false]) h134;obtain rfl := qa h134;have q21 := cj5 E11 X11.get hb135 hb136 TT;refine w_x q21 ?_;refine S0 _ _ h126 _ _  ?_;refine w_y q21 ?_;refine S0 _ _ h128 _ _  ?_;refine w_y q21 ?_;exact qe ⟨X1, E1, E10, (xv q21), hP⟩
      ·replace h130 := qO (by simp only [hb135, Bool.or_true, Bool.true_or, Bool.or_false, Bool.false_or, Bool.and_true, Bool.true_and, Bool.and_false, Bool.false_and, Bool.not_true, Bool.not_false, cond_true, cond_false]) h130;obtain rfl := qa h130;replace h134 := qO (by simp only [hb135, Bool.or_true, Bool.true_or, Bool.or_false, Bool.false_or, Bool.and_true, Bool.true_and, Bool.and_false, Bool.false_and, Bool.not_true, Bool.not_false, cond_true, cond_false]) h134;obtain rfl := qa h134;have q22 := cj4 E11 X11.get hb135 TT;refine w_x q22 ?_;refine S0 _ _ h126 _ _  ?_;refine w_y q22 ?_;exact qe ⟨X1, E1, E10, (xv q22), hP⟩
     rintro e s ⟨X1, E1, E10, E183, hP⟩
     rcases qi h121 with ⟨hb137, h121⟩ | ⟨hb137, h121⟩
     ·refine xt (cj2 E183 hb137) (qd (w_x Expr.rlen ?_));refine qf (qp (qw ?_));obtain rfl := qa h121;refine qB ?_;(try dsimp only at hf118);obtain rfl := qa hf118;refine zv rfl fun hr138 => ?_;obtain rfl := hr138;refine qw (qB ?_);(try dsimp only at h);obtain rfl := qa h;exact qt (fun _ => rfl) (xr (rs := #[.tmp 2]) TT) hP (.refl _) (.v _) hK
     ·refine xf (cj2 E183 hb137) (qm (qQ ?_));obtain rfl := qa h121;exact qe ⟨rfl, X1, E1, E10, hP⟩
    rintro e s ⟨rfl, X1, E1, E10, hP⟩
    (try dsimp only at hf118);refine w_x (cj2 E10 TT) ?_;obtain rfl := qa hf118;exact qZ rfl ⟨_, rfl, X1, E1, (xv (cj2 E10 TT)), hP⟩
   ·refine xf hb119 (qE (qM ?_));obtain rfl := qa hf118;refine qY rfl fun hr139 => ?_;obtain rfl := hr139;exact qK (qe ⟨rfl, hP⟩)
  rintro e s ⟨rfl, hP⟩
  (try dsimp only at h);refine qd (w_x Expr.rlen ?_);refine qf (qp ?_);obtain rfl := qa h;exact qt (fun _ => rfl) (xr (rs := #[.tmp 2]) TT) hP (.refl _) (.v _) hK
end Go.Proofs.Ytohmmfimedgccaa.E
end
section
namespace Go.Proofs.Ytohmmfimedgccaa.E
set_option linter.unusedVariables false
set_option linter.unusedSimpArgs false
set_option maxRecDepth 10000
noncomputable def YV := B_ref03_small
noncomputable def YX := B_ref03_digit
noncomputable def m_words := B_lex_Words
noncomputable def m_word := B_ref03_Word m_words
noncomputable def QF := B_ref03_Right YV YX m_word
theorem s_small : Sat_ref03_small YV := W_ref03_small
theorem s_digit : Sat_ref03_digit YX := W_ref03_digit
theorem s_words : Sat_lex_Words m_words := W_lex_Words
theorem s_word : Sat_ref03_Word m_word := W_ref03_Word _ s_words
theorem s_right : Sat_ref03_Right QF := W_ref03_Right _ _ _ s_small s_digit s_word
theorem t_word (s : ByteArray) : ∃ b, m_word s = some b := by
 unfold m_word B_ref03_Word m_words B_lex_Words;simp only [Option.bind_some];obtain ⟨r, h1, _⟩ := qT (f := ZO qqm s) (fun i v => v = (i : Int)) qqm.length (fun _ => True) (fun i v hi hv => by
  subst hv;unfold ZO;simp only [dlt hi, if_true, qx hi, Option.bind_some];split
  ·exact .inr ⟨_, rfl, trivial⟩
  ·exact .inl ⟨_, rfl, zA hi (by unfold maxLen; decide)⟩) (fun v hv => by
  subst hv;unfold ZO;simp only [dge, Bool.false_eq_true, if_false];exact ⟨_, rfl, trivial⟩) (v0 := (0 : Int)) rfl
 rw [h1];cases r <;> exact ⟨_, rfl⟩
theorem JC (s : ByteArray) (hs : s.size ≤ maxLen) : ∃ b, QF s = some b := by
 unfold QF B_ref03_Right;obtain ⟨r, h1, _⟩ := qT (f := zW s YX YV) (fun i v => v = (i : Int)) s.size (fun _ => True) (fun i v hi hv => by
  subst hv;unfold zW;obtain ⟨b, hb⟩ := getB_at hi;simp only [dlt hi, if_true, hb, Option.bind_some, YV, B_ref03_small, YX, B_ref03_digit];have hw := zA hi hs
  repeat' split
  all_goals simp only [Option.bind_some]
  all_goals repeat' split
  all_goals first
   | exact .inr ⟨_, rfl, trivial⟩
   | exact .inl ⟨_, rfl, hw⟩) (fun v hv => by
  subst hv;unfold zW;simp only [dge, Bool.false_eq_true, if_false];exact ⟨_, rfl, trivial⟩) (v0 := (0 : Int)) rfl
 obtain ⟨w, hw⟩ := t_word s;rw [h1];cases r with
 | inl r => exact ⟨_, rfl⟩
 | inr _ =>
  simp only [Option.bind_some, hw];split <;> exact ⟨_, rfl⟩
def Nm (s : ByteArray) : Prop := (∀ (j : Nat) (b : UInt8), s.data.toList[j]? = some b → b ≠ 46) ∧ s.size ≤ 100
theorem nm_of {s : ByteArray} (hs : s.size ≤ maxLen) (h : QF s = some true) : Nm s := by
 unfold QF B_ref03_Right at h;obtain ⟨r, h1, h2⟩ := qT (f := zW s YX YV) (fun i v => v = (i : Int) ∧ ∀ (j : Nat) (b : UInt8), j < i → s.data.toList[j]? = some b → b ≠ 46) s.size (fun r => r = .inl false ∨ (r = .inr () ∧ ∀ (j : Nat) (b : UInt8), j < s.size → s.data.toList[j]? = some b → b ≠ 46)) (fun i v hi hv => by
  obtain ⟨rfl, hv⟩ := hv;unfold zW;have hi' : i < s.data.toList.length := by rw [JW]; exact hi
  have hat := List.getElem?_eq_getElem hi';have hb : getB s (i : Int) = some ((s.data.toList[i].toNat : Nat) : Int) := by
   unfold getB;rw [if_pos (by omega), Int.toNat_natCast, hat];rfl
  simp only [dlt hi, if_true, hb, Option.bind_some, YV, B_ref03_small, YX, B_ref03_digit];have hw := zA hi hs;by_cases h46 : s.data.toList[i] = 46
  ·refine .inr ⟨.inl false, ?_, .inl rfl⟩;rw [h46];by_cases h0 : i = 0
   ·subst h0; rfl
   ·have : decide ((i : Int) = 0) = false := decide_eq_false (by omega);rw [this]; rfl
  ·have hnext : ∀ (j : Nat) (b : UInt8), j < i + 1 → s.data.toList[j]? = some b → b ≠ 46 := fun (j : Nat) (b : UInt8) hj hb2 => by
    by_cases hji : j < i
    ·exact hv j b hji hb2
    ·obtain rfl : j = i := by omega
     rw [hat] at hb2;injection hb2 with hb2;rw [← hb2]; exact h46
   repeat' split
   all_goals simp only [Option.bind_some]
   all_goals repeat' split
   all_goals first
    | exact .inr ⟨_, rfl, .inl rfl⟩
    | exact .inl ⟨_, rfl, hw, hnext⟩) (fun v hv => by
  obtain ⟨rfl, hv⟩ := hv;unfold zW;simp only [dge, Bool.false_eq_true, if_false];exact ⟨_, rfl, .inr ⟨rfl, hv⟩⟩) (v0 := (0 : Int)) ⟨rfl, fun j b hj => by omega⟩
 rw [h1] at h;rcases h2 with rfl | ⟨rfl, h2⟩
 ·cases h
 ·refine ⟨fun j b hb => h2 j b (by rw [← JW]; exact (List.getElem?_eq_some_iff.1 hb).1) hb, ?_⟩;obtain ⟨w, hw⟩ := t_word s;simp only [Option.bind_some, hw] at h;refine Classical.byContradiction fun hc => ?_;have : decide ((s.size : Int) ≤ 100) = false := decide_eq_false (by omega);simp [this] at h
noncomputable def Jd := B_ref04_number
theorem zzW : Sat_ref04_number Jd := W_ref04_number
theorem qqb (n lo hi : Int) : Jd n lo hi = some (decide (lo ≤ n) && decide (n ≤ hi)) := rfl
mutual
def zJ : Expr → Nat
 | ⟨_, _, _, _, xs, _⟩ => 1 + zz xs
def zz : List Expr → Nat
 | [] => 0
 | e :: l => zJ e + zz l
end
theorem Qx (e : Expr) : zJ e = 1 + zz e.args := by cases e; rw [zJ]
theorem zzn : ∀ (a b : List Expr), zz (a ++ b) = zz a + zz b
 | [], b => by simp [zz]
 | e :: l, b => by simp [zz, zzn l b]; omega
theorem QQk {l : List Expr} {i : Nat} (h : i < l.length) : zz (l.take (i + 1)) = zz (l.take i) + zJ l[i] := by
 rw [List.take_succ_eq_append_getElem h, zzn];simp [zz]
def pSize (x : Expr × Int) (r : Int) : Prop := Sp_ref04_Size x.1 x.2 r ∧ (0 ≤ x.2 → 1 ≤ r ∧ r ≤ x.2 + 1 ∧ (r ≤ x.2 → r = zJ x.1))
noncomputable def qqj (e : Expr) (m : Int) : Option Int := pick pSize (e, m)
theorem s_size : Sat_ref04_Size qqj := fun _ _ _ h => (Qt h).1
theorem t_size (e : Expr) : e.ok → ∀ m : Int, 0 ≤ m → m ≤ 1000 → ∃ r, qqj e m = some r ∧ pSize (e, m) r := by
 induction e using Expr.induct with
 | h e ih =>
  intro hok m hm hm2;refine QM ?_;obtain ⟨r, h1, h2⟩ := qT (f := ZL e m qqj) (fun i v => v.2 = (i : Int) ∧ 1 ≤ v.1 ∧ v.1 ≤ m + 1 ∧ (v.1 ≤ m → v.1 = 1 + zz (e.args.take i))) e.args.length (fun r => 1 ≤ r ∧ r ≤ m + 1 ∧ (r ≤ m → r = 1 + zz e.args)) (fun i v hi hv => by
   obtain ⟨n, k⟩ := v;obtain ⟨rfl, h2, h3, h4⟩ := hv;simp only at h2 h3 h4;unfold ZL;by_cases hn : n ≤ m
   ·have hmem := List.getElem_mem hi;obtain ⟨r, h5, _, h6⟩ := ih _ hmem (hok.arg _ hmem) (m - n) (by omega) (by omega);obtain ⟨h7, h8, h9⟩ := h6 (by simp; omega);simp only at h7 h8 h9;simp only [dlt hi, decide_eq_true hn, Bool.and_self, if_true, qx hi, Option.bind_some];rw [zT (by omega) (by omega), h5];simp only [Option.bind_some];refine .inl ⟨_, rfl, zA hi hok.len, ?_⟩;simp only;rw [zT (by omega) (by omega)];refine ⟨by omega, by omega, fun hle => ?_⟩;rw [QQk hi];have := h4 hn;have := h9 (by omega);omega
   ·simp only [decide_eq_false hn, Bool.and_false, Bool.false_eq_true, if_false];exact .inr ⟨_, rfl, h2, h3, fun h => absurd h hn⟩) (fun v hv => by
   obtain ⟨n, k⟩ := v;obtain ⟨rfl, h2, h3, h4⟩ := hv;unfold ZL;simp only [dge, Bool.false_and, Bool.false_eq_true, if_false];rw [List.take_length] at h4;exact ⟨_, rfl, h2, h3, h4⟩) (v0 := ((1 : Int), (0 : Int))) ⟨rfl, by omega, by simp only; omega, fun _ => by simp [zz]⟩
  have hB : B_ref04_Size qqj e m = some r := by unfold B_ref04_Size; rw [h1]; rfl
  exact ⟨r, W_ref04_Size _ s_size _ _ _ hB, fun _ => ⟨h2.1, h2.2.1, fun h => by rw [h2.2.2 h, Qx]; simp⟩⟩
def pDepth (x : Expr × Int) (r : Int) : Prop := Sp_ref04_Depth x.1 x.2 r ∧ 0 ≤ r ∧ r ≤ x.2
noncomputable def JJ (e : Expr) (m : Int) : Option Int := pick pDepth (e, m)
theorem s_depth : Sat_ref04_Depth JJ := fun _ _ _ h => (Qt h).1
theorem t_depth (e : Expr) : e.ok → ∀ m : Int, 0 ≤ m → m ≤ 1000 → ∃ r, JJ e m = some r ∧ pDepth (e, m) r := by
 induction e using Expr.induct with
 | h e ih =>
  intro hok m hm hm2;refine QM ?_;by_cases h0 : m = 0
  ·have hB : B_ref04_Depth JJ e m = some 0 := by unfold B_ref04_Depth; simp [h0]
   exact ⟨0, W_ref04_Depth _ s_depth _ _ _ hB, by omega, by simp only; omega⟩
  ·obtain ⟨r, h1, h2⟩ := qT (f := Zm e m JJ) (fun i v => v.2 = (i : Int) ∧ 0 ≤ v.1 ∧ v.1 ≤ m - 1) e.args.length (fun r => 0 ≤ r ∧ r ≤ m - 1) (fun i v hi hv => by
    obtain ⟨n, k⟩ := v;obtain ⟨rfl, h2, h3⟩ := hv;simp only at h2 h3;unfold Zm;have hmem := List.getElem_mem hi;obtain ⟨r, h5, _, h6, h7⟩ := ih _ hmem (hok.arg _ hmem) (m - 1) (by omega) (by omega);simp only at h6 h7;simp only [dlt hi, if_true, qx hi, Option.bind_some];rw [zT (n := m - 1) (by omega) (by omega), h5];simp only [Option.bind_some];refine .inl ⟨_, rfl, zA hi hok.len, ?_⟩;simp only;split <;> omega) (fun v hv => by
    obtain ⟨n, k⟩ := v;obtain ⟨rfl, h2, h3⟩ := hv;unfold Zm;simp only [dge, Bool.false_eq_true, if_false];exact ⟨_, rfl, h2, h3⟩) (v0 := ((0 : Int), (0 : Int))) ⟨rfl, by omega, by simp only; omega⟩
   have hB : B_ref04_Depth JJ e m = some (r + 1) := by
    unfold B_ref04_Depth;rw [decide_eq_false h0, h1];simp only [Bool.false_eq_true, if_false, Option.bind_some];rw [zT (by omega) (by omega)]
   exact ⟨r + 1, W_ref04_Depth _ s_depth _ _ _ hB, by omega, by simp only; omega⟩
inductive Expr.bfit : Expr → Prop
 | mk {e : Expr} : (∀ x ∈ e.args, Expr.bfit x) → (e.kind = 11 → e.args = []) → Expr.bfit e
def pBody (e : Expr) (r : Bool) : Prop := Sp_ref04_Body e r ∧ (r = true → e.bfit)
noncomputable def qqI : Expr → Option Bool := pick pBody
theorem s_body : Sat_ref04_Body qqI := fun _ _ h => (Qt h).1
theorem t_body (e : Expr) : e.ok → ∃ r, qqI e = some r ∧ pBody e r := by
 induction e using Expr.induct with
 | h e ih =>
  intro hok;refine QM ?_;obtain ⟨r, h1, h2⟩ := qT (f := ZN e qqI) (fun i v => v = (i : Int) ∧ ∀ j (hj : j < e.args.length), j < i → e.args[j].bfit) e.args.length (fun r => r = .inl false ∨ (r = .inr () ∧ ∀ x ∈ e.args, x.bfit)) (fun i v hi hv => by
   obtain ⟨rfl, h2⟩ := hv;unfold ZN;have hmem := List.getElem_mem hi;obtain ⟨r, h5, _, h6⟩ := ih _ hmem (hok.arg _ hmem);simp only [dlt hi, if_true, qx hi, Option.bind_some, h5];cases r with
   | false => exact .inr ⟨_, rfl, .inl rfl⟩
   | true =>
    refine .inl ⟨_, rfl, zA hi hok.len, fun j hj hlt => ?_⟩;by_cases hji : j = i
    ·subst hji; exact h6 rfl
    ·exact h2 j hj (by omega)) (fun v hv => by
   obtain ⟨rfl, h2⟩ := hv;unfold ZN;simp only [dge, Bool.false_eq_true, if_false];refine ⟨_, rfl, .inr ⟨rfl, fun x hx => ?_⟩⟩;obtain ⟨j, hj, rfl⟩ := List.getElem_of_mem hx;exact h2 j hj hj) (v0 := (0 : Int)) ⟨rfl, fun j _ h => by omega⟩
  obtain ⟨b, hb⟩ := JC e.name hok.nm;have hL1 : ∃ q, qy (QL e) (0 : Int) = some q ∧ True := qT (f := QL e) (fun i v => v = (i : Int)) Qz.length (fun _ => True) (fun i v hi hv => by
   subst hv;unfold QL;simp only [dlt hi, if_true, qx hi, Option.bind_some];split
   ·exact .inr ⟨_, rfl, trivial⟩
   ·exact .inl ⟨_, rfl, zA hi (by unfold maxLen; decide)⟩) (fun v hv => by
   subst hv;unfold QL;simp only [dge, Bool.false_eq_true, if_false];exact ⟨_, rfl, trivial⟩) (v0 := (0 : Int)) rfl
  obtain ⟨q, hq, _⟩ := hL1;have hB : ∃ r, B_ref04_Body QF Jd qqI e = some r ∧ (r = true → e.bfit) := by
   unfold B_ref04_Body;rw [h1];rcases h2 with rfl | ⟨rfl, hall⟩
   ·exact ⟨false, rfl, fun h => by cases h⟩
   ·simp only [Option.bind_some, hb, qqb, hq];by_cases hd : e.d = 0
    ·by_cases k11 : e.kind = 11
     ·simp only [hd, k11, decide_true, Bool.not_true, Bool.false_eq_true, if_false, if_true, Option.bind_some];refine ⟨_, rfl, fun h => .mk hall fun _ => ?_⟩;simp only [Bool.and_eq_true, decide_eq_true_eq] at h;exact List.length_eq_zero_iff.1 (by omega)
     ·have hfit : e.bfit := .mk hall fun h => absurd h k11;simp only [hd, decide_true, Bool.not_true, Bool.false_eq_true, if_false, decide_eq_false k11]
      repeat' split
      all_goals simp only [Option.bind_some]
      all_goals repeat' split
      all_goals first
       | exact ⟨_, rfl, fun _ => hfit⟩
       | skip
    ·simp only [decide_eq_false hd, Bool.not_false, if_true];exact ⟨_, rfl, fun h => by cases h⟩
  obtain ⟨r, hr, hf⟩ := hB;exact ⟨r, W_ref04_Body _ _ _ s_right zzW s_body _ _ hr, hf⟩
theorem Yf {α : Type} {xs : List α} (hlen : xs.length ≤ maxLen) {f : Int → Option (Int ⊕ (Bool ⊕ Unit))} (Q : α → Prop)
  (step : ∀ i (hi : i < xs.length), f i = some (.inr (.inl false)) ∨ (f i = some (.inl (IntKind.i64.wrap ((i : Int) + 1))) ∧ Q xs[i])) (fin : f (xs.length : Int) = some (.inr (.inr ()))) : ∃ r, qy f 0 = some r ∧ (r = .inl false ∨ (r = .inr () ∧ ∀ x ∈ xs, Q x)) := by
 refine qT (v0 := (0 : Int)) (fun i v => v = (i : Int) ∧ ∀ j (hj : j < xs.length), j < i → Q xs[j]) xs.length (fun r : Bool ⊕ Unit => r = .inl false ∨ (r = .inr () ∧ ∀ x ∈ xs, Q x)) (fun i v hi hv => ?_) (fun v hv => ?_) ⟨rfl, fun j _ h => by omega⟩
 ·obtain ⟨rfl, h2⟩ := hv;rcases step i hi with h | ⟨h, hq⟩
  ·exact .inr ⟨_, h, .inl rfl⟩
  ·refine .inl ⟨_, h, zA hi hlen, fun j hj hlt => ?_⟩;by_cases hji : j = i
   ·subst hji; exact hq
   ·exact h2 j hj (by omega)
 ·obtain ⟨rfl, h2⟩ := hv;refine ⟨_, fin, .inr ⟨rfl, fun x hx => ?_⟩⟩;obtain ⟨j, hj, rfl⟩ := List.getElem_of_mem hx;exact h2 j hj hj
inductive Expr.fit : Expr → Prop
 | mk {e : Expr} : (∀ x ∈ e.args, Expr.fit x) → ((e.kind = 1 ∧ e.args = []) ∨ (e.kind = 2 ∧ 1 ≤ e.args.length ∧ e.args.length ≤ 6) ∨ (e.args.length = 1 ∧ (((e.kind = 3 ∨ e.kind = 4) ∧ 1 ≤ e.n ∧ e.n ≤ 100) ∨ (e.kind = 5 ∧ 0 ≤ e.n ∧ e.n ≤ 100 ∧ 1 ≤ e.d ∧ e.d ≤ 100) ∨ e.kind = 6 ∨ e.kind = 7 ∨ e.kind = 8))) → Expr.fit e
theorem Expr.fit.arg {e : Expr} (h : e.fit) : ∀ x ∈ e.args, x.fit := by cases h; assumption
theorem Expr.fit.kinds {e : Expr} (h : e.fit) : (e.kind = 1 ∧ e.args = []) ∨ (e.kind = 2 ∧ 1 ≤ e.args.length ∧ e.args.length ≤ 6) ∨ (e.args.length = 1 ∧ (((e.kind = 3 ∨ e.kind = 4) ∧ 1 ≤ e.n ∧ e.n ≤ 100) ∨ (e.kind = 5 ∧ 0 ≤ e.n ∧ e.n ≤ 100 ∧ 1 ≤ e.d ∧ e.d ≤ 100) ∨ e.kind = 6 ∨ e.kind = 7 ∨ e.kind = 8)) := by cases h; assumption
theorem Expr.bfit.arg {e : Expr} (h : e.bfit) : ∀ x ∈ e.args, x.bfit := by cases h; assumption
theorem Expr.bfit.leaf {e : Expr} (h : e.bfit) : e.kind = 11 → e.args = [] := by cases h; assumption
def pExpr (e : Expr) (r : Bool) : Prop := Sp_ref04_Expr e r ∧ (r = true → e.fit)
noncomputable def qqH : Expr → Option Bool := pick pExpr
theorem s_expr : Sat_ref04_Expr qqH := fun _ _ h => (Qt h).1
theorem t_expr (e : Expr) : e.ok → ∃ r, qqH e = some r ∧ pExpr e r := by
 induction e using Expr.induct with
 | h e ih =>
  intro hok;refine QM ?_;obtain ⟨r, h1, h2⟩ := Yf (xs := e.args) hok.len (f := ZM e qqH) Expr.fit (fun i hi => by
   unfold ZM;have hmem := List.getElem_mem hi;obtain ⟨r, h5, _, h6⟩ := ih _ hmem (hok.arg _ hmem);simp only [dlt hi, if_true, qx hi, Option.bind_some, h5];cases r with
   | false => exact .inl rfl
   | true => exact .inr ⟨rfl, h6 rfl⟩) (by
   unfold ZM;simp only [dge, Bool.false_eq_true, if_false])
  obtain ⟨b, hb⟩ := JC e.name hok.nm;have hB : ∃ r, B_ref04_Expr QF Jd qqH e = some r ∧ (r = true → e.fit) := by
   unfold B_ref04_Expr;rw [h1];rcases h2 with rfl | ⟨rfl, hall⟩
   ·exact ⟨false, rfl, fun h => by cases h⟩
   ·simp only [Option.bind_some, hb, qqb];by_cases k1 : e.kind = 1
    ·simp only [k1, decide_true, if_true, Option.bind_some];refine ⟨_, rfl, fun h => .mk hall (.inl ⟨k1, ?_⟩)⟩;simp only [Bool.and_eq_true, decide_eq_true_eq] at h;exact List.length_eq_zero_iff.1 (by omega)
    ·by_cases k2 : e.kind = 2
     ·simp only [k2, decide_true, if_true, Option.bind_some, Int.reduceEq, decide_false, Bool.false_eq_true, if_false];refine ⟨_, rfl, fun h => .mk hall (.inr (.inl ⟨k2, ?_⟩))⟩;simp only [Bool.and_eq_true, decide_eq_true_eq] at h;omega
     ·simp only [decide_eq_false k1, decide_eq_false k2, Bool.false_eq_true, if_false, Option.bind_some];split
      ·exact ⟨_, rfl, fun h => by cases h⟩
      ·rename_i hc;have hlen : e.args.length = 1 := by
        simp only [Bool.or_eq_true, Bool.not_eq_true', not_or, Bool.not_eq_false, decide_eq_true_eq] at hc;omega
       have go : ∀ r : Bool, (r = true → ((e.kind = 3 ∨ e.kind = 4) ∧ 1 ≤ e.n ∧ e.n ≤ 100) ∨ (e.kind = 5 ∧ 0 ≤ e.n ∧ e.n ≤ 100 ∧ 1 ≤ e.d ∧ e.d ≤ 100) ∨ e.kind = 6 ∨ e.kind = 7 ∨ e.kind = 8) → (r = true → e.fit) := fun r hr h => .mk hall (.inr (.inr ⟨hlen, hr h⟩));by_cases k3 : e.kind = 3
       ·simp only [k3, decide_true, if_true, Option.bind_some];exact ⟨_, rfl, go _ fun h => by simp only [Bool.and_eq_true, decide_eq_true_eq] at h; omega⟩
       by_cases k4 : e.kind = 4
       ·simp only [k4, decide_true, if_true, Option.bind_some, Int.reduceEq, decide_false, Bool.false_eq_true, if_false];exact ⟨_, rfl, go _ fun h => by simp only [Bool.and_eq_true, decide_eq_true_eq] at h; omega⟩
       simp only [decide_eq_false k3, decide_eq_false k4, Bool.false_eq_true, if_false, Option.bind_some];by_cases k5 : e.kind = 5
       ·simp only [k5, decide_true, if_true];split
        ·rename_i hn;simp only [Option.bind_some];exact ⟨_, rfl, go _ fun h => by simp only [Bool.and_eq_true, decide_eq_true_eq] at h; omega⟩
        ·rename_i hn;simp only [Option.bind_some];exact ⟨_, rfl, go _ fun h => by simp only [Bool.and_eq_true, decide_eq_true_eq] at h; exact absurd h.2 (by simp)⟩
       by_cases k6 : e.kind = 6
       ·simp only [k6, Int.reduceEq, decide_false, decide_true, Bool.false_eq_true, if_false, if_true, Option.bind_some];exact ⟨_, rfl, go _ fun _ => by omega⟩
       by_cases k8 : e.kind = 8
       ·simp only [k8, Int.reduceEq, decide_false, decide_true, Bool.false_eq_true, if_false, if_true, Option.bind_some];exact ⟨_, rfl, go _ fun _ => by omega⟩
       simp only [decide_eq_false k5, decide_eq_false k6, decide_eq_false k8, Bool.false_eq_true, if_false, Option.bind_some];exact ⟨_, rfl, go _ fun h => by simp only [Bool.and_eq_true, decide_eq_true_eq] at h; omega⟩
  obtain ⟨r, hr, hf⟩ := hB;exact ⟨r, W_ref04_Expr _ _ _ s_right zzW s_expr _ _ hr, hf⟩
theorem Node.ok.nm {x : Node} (h : x.ok) : x.name.size ≤ maxLen := ml h.name
theorem Node.ok.plen {x : Node} (h : x.ok) : x.params.length ≤ maxLen := mlB h.params.1 (by omega)
theorem Node.ok.param {x : Node} (h : x.ok) : ∀ s ∈ x.params, s.size ≤ maxLen := fun s hs => ml (h.params.2 s hs)
structure Node.fit (x : Node) : Prop where
 params : 1 ≤ x.params.length ∧ x.params.length ≤ 6
 budget : 1 ≤ x.budget ∧ x.budget ≤ 1000
 size : zJ x.body ≤ 100
 body : x.body.bfit
structure Flow.fit (x : Flow) : Prop where
 size : zJ x.e ≤ 100
 e : x.e.fit
 name : Nm x.name
structure Program.fit (p : Program) : Prop where
 all : p.nodes.length + p.inputs.length + p.flows.length + p.outputs.length ≤ 40
 node : ∀ x ∈ p.nodes, x.fit
 input : ∀ x ∈ p.inputs, 1 ≤ x.period ∧ x.period ≤ 1000 ∧ 0 ≤ x.phase ∧ x.phase ≤ 1000
 flow : ∀ x ∈ p.flows, x.fit
 output : ∀ x ∈ p.outputs, 1 ≤ x.deadline ∧ x.deadline ≤ 1000
noncomputable def m_read := B_ref04_Right QF Jd qqj JJ qqI qqH
theorem s_read : Sat_ref04_Right m_read := W_ref04_Right _ _ _ _ _ _ s_right zzW s_size s_depth s_body s_expr
theorem t_read (p : Program) (hok : p.ok) : ∃ r, m_read p = some r ∧ (r = true → p.fit) := by
 have w := hok.nodes.1; have w2 := hok.inputs.1; have w3 := hok.flows.1; have w4 := hok.outputs.1;obtain ⟨r0, h0, g0⟩ := Yf (xs := p.nodes) (mlB hok.nodes.1 (by omega)) (f := Zl p QF qqI JJ qqj Jd) Node.fit (fun i hi => by
  unfold Zl;have hmem := List.getElem_mem hi;have hx := hok.nodes.2 _ hmem;obtain ⟨b, hb⟩ := JC _ (ml hx.name);obtain ⟨sz, hsz, _, gsz⟩ := t_size _ hx.body 100 (by omega) (by omega);obtain ⟨dp, hdp, _⟩ := t_depth _ hx.body 30 (by omega) (by omega);obtain ⟨bd, hbd, _, gbd⟩ := t_body _ hx.body;obtain ⟨q, hq, gq⟩ := Yf (xs := p.nodes[i].params) hx.plen (f := Zk p.nodes[i] QF) (fun _ => True) (fun k hk => by
   unfold Zk;obtain ⟨c, hc⟩ := JC _ (hx.param _ (List.getElem_mem hk));simp only [dlt hk, if_true, qx hk, Option.bind_some, hc];cases c
   ·exact .inl rfl
   ·exact .inr ⟨rfl, trivial⟩) (by
   unfold Zk;simp only [dge, Bool.false_eq_true, if_false])
  obtain ⟨s1, s2, s3⟩ := gsz (by simp);simp only at s1 s2 s3;simp only [dlt hi, if_true, qx hi, Option.bind_some, hb, qqb, hsz, hdp, hbd, hq];cases b with
  | false => exact .inl (by simp)
  | true =>
   by_cases p1 : ((p.nodes[i].params.length : Nat) : Int) < 1
   ·exact .inl (by simp [p1])
   by_cases p2 : (6 : Int) < ((p.nodes[i].params.length : Nat) : Int)
   ·exact .inl (by simp [p1, p2])
   by_cases b1 : 1 ≤ p.nodes[i].budget ∧ p.nodes[i].budget ≤ 1000
   ·by_cases z1 : 100 < sz
    ·exact .inl (by simp [p1, p2, b1, z1])
    by_cases d1 : 20 < dp
    ·exact .inl (by simp [p1, p2, b1, z1, d1])
    cases bd with
    | false => exact .inl (by simp [p1, p2, b1, z1, d1])
    | true =>
     rcases gq with rfl | ⟨rfl, _⟩
     ·exact .inl (by simp [p1, p2, b1, z1, d1])
     ·exact .inr ⟨by simp [p1, p2, b1, z1, d1], ⟨by omega, by omega⟩, b1, by have := s3 (by omega); omega, gbd rfl⟩
   ·refine .inl ?_;have : (decide (1 ≤ p.nodes[i].budget) && decide (p.nodes[i].budget ≤ 1000)) = false := by simpa using b1
    simp [p1, p2, this]) (by
  unfold Zl;simp only [dge, Bool.false_eq_true, if_false])
 obtain ⟨r2, h2, g2⟩ := Yf (xs := p.inputs) (mlB hok.inputs.1 (by omega)) (f := Zj p QF Jd) (fun x => 1 ≤ x.period ∧ x.period ≤ 1000 ∧ 0 ≤ x.phase ∧ x.phase ≤ 1000) (fun i hi => by
  unfold Zj;obtain ⟨b, hb⟩ := JC _ (ml (hok.inputs.2 _ (List.getElem_mem hi)).name);simp only [dlt hi, if_true, qx hi, Option.bind_some, hb, qqb];cases b with
  | false => exact .inl (by simp)
  | true =>
   by_cases b1 : 1 ≤ p.inputs[i].period ∧ p.inputs[i].period ≤ 1000
   ·by_cases b2 : 0 ≤ p.inputs[i].phase ∧ p.inputs[i].phase ≤ 1000
    ·exact .inr ⟨by simp [b1, b2], b1.1, b1.2, b2⟩
    ·refine .inl ?_;have : (decide (0 ≤ p.inputs[i].phase) && decide (p.inputs[i].phase ≤ 1000)) = false := by simpa using b2
     simp [b1, this]
   ·refine .inl ?_;have : (decide (1 ≤ p.inputs[i].period) && decide (p.inputs[i].period ≤ 1000)) = false := by simpa using b1
    simp [this]) (by
  unfold Zj;simp only [dge, Bool.false_eq_true, if_false])
 obtain ⟨r3, h3, g3⟩ := Yf (xs := p.flows) (mlB hok.flows.1 (by omega)) (f := Zi p QF JJ qqH qqj) Flow.fit (fun i hi => by
  unfold Zi;have hx := hok.flows.2 _ (List.getElem_mem hi);obtain ⟨b, hb⟩ := JC _ (ml hx.name);obtain ⟨sz, hsz, _, gsz⟩ := t_size _ hx.e 100 (by omega) (by omega);obtain ⟨dp, hdp, _⟩ := t_depth _ hx.e 30 (by omega) (by omega);obtain ⟨bd, hbd, _, gbd⟩ := t_expr _ hx.e;obtain ⟨s1, s2, s3⟩ := gsz (by simp);simp only at s1 s2 s3;simp only [dlt hi, if_true, qx hi, Option.bind_some, hb, hsz, hdp, hbd];cases b with
  | false => exact .inl (by simp)
  | true =>
   by_cases z1 : 100 < sz
   ·exact .inl (by simp [z1])
   by_cases d1 : 20 < dp
   ·exact .inl (by simp [z1, d1])
   cases bd with
   | false => exact .inl (by simp [z1, d1])
   | true => exact .inr ⟨by simp [z1, d1], by have := s3 (by omega); omega, gbd rfl, nm_of (ml hx.name) hb⟩) (by
  unfold Zi;simp only [dge, Bool.false_eq_true, if_false])
 obtain ⟨r4, h4, g4⟩ := Yf (xs := p.outputs) (mlB hok.outputs.1 (by omega)) (f := Zh p QF Jd) (fun x => 1 ≤ x.deadline ∧ x.deadline ≤ 1000) (fun i hi => by
  unfold Zh;have hx := hok.outputs.2 _ (List.getElem_mem hi);obtain ⟨b, hb⟩ := JC _ (ml hx.name);obtain ⟨c, hc⟩ := JC _ (ml hx.flow);simp only [dlt hi, if_true, qx hi, Option.bind_some, hb, hc, qqb];cases b with
  | false => exact .inl (by simp)
  | true =>
   cases c with
   | false => exact .inl (by simp)
   | true =>
    by_cases b1 : 1 ≤ p.outputs[i].deadline ∧ p.outputs[i].deadline ≤ 1000
    ·exact .inr ⟨by simp [b1], b1⟩
    ·refine .inl ?_;have : (decide (1 ≤ p.outputs[i].deadline) && decide (p.outputs[i].deadline ≤ 1000)) = false := by simpa using b1
     simp [this]) (by
  unfold Zh;simp only [dge, Bool.false_eq_true, if_false])
 unfold m_read B_ref04_Right;rw [zT (n := (p.nodes.length : Int) + p.inputs.length) (by omega) (by omega), zT (n := (p.nodes.length : Int) + p.inputs.length + p.flows.length) (by omega) (by omega), zT (n := (p.nodes.length : Int) + p.inputs.length + p.flows.length + p.outputs.length) (by omega) (by omega)];by_cases hc : (40 : Int) < (p.nodes.length : Int) + p.inputs.length + p.flows.length + p.outputs.length
 ·rw [if_pos (by simpa using hc)];exact ⟨false, rfl, fun h => by cases h⟩
 ·rw [if_neg (by simpa using hc), h0];rcases g0 with rfl | ⟨rfl, g0⟩
  ·exact ⟨false, rfl, fun h => by cases h⟩
  simp only [Option.bind_some];rw [h2];rcases g2 with rfl | ⟨rfl, g2⟩
  ·exact ⟨false, rfl, fun h => by cases h⟩
  simp only [Option.bind_some];rw [h3];rcases g3 with rfl | ⟨rfl, g3⟩
  ·exact ⟨false, rfl, fun h => by cases h⟩
  simp only [Option.bind_some];rw [h4];rcases g4 with rfl | ⟨rfl, g4⟩
  ·exact ⟨false, rfl, fun h => by cases h⟩
  exact ⟨true, rfl, fun _ => ⟨by omega, g0, g2, g3, g4⟩⟩
abbrev Fi := qR
def f00 : Fi := ⟨0, 0⟩
def Fi.good (f : Fi) : Prop := f = f00 ∨ f.e = 3 ∨ f.e = 4
theorem Fi.good.zero {f : Fi} (h : f.good) (h0 : f.e = 0) : f = f00 := by
 rcases h with h | h | h
 ·exact h
 ·omega
 ·omega
def Fd (f f' : Fi) (P : Prop) : Prop := f.good → f'.good ∧ (f' = f00 ↔ f = f00 ∧ P)
theorem Fd.refl (f : Fi) : Fd f f True := fun h => ⟨h, by simp⟩
theorem Fd.trans {f g h : Fi} {P Q : Prop} (a : Fd f g P) (b : Fd g h Q) : Fd f h (P ∧ Q) := fun hf => by
 obtain ⟨h1, h2⟩ := a hf;obtain ⟨h3, h4⟩ := b h1;exact ⟨h3, by rw [h4, h2, and_assoc]⟩
def qqw (f : Fi) (at_ e : Int) : Fi := if f.e = 0 then ⟨at_, e⟩ else f
theorem Fd.fail {f : Fi} {at_ e : Int} (he : e = 3 ∨ e = 4) : Fd f (qqw f at_ e) False := fun hf => by
  unfold qqw
  by_cases h0 : f.e = 0
  · rw [if_pos h0]
    exact ⟨.inr he, by constructor <;> intro h; · have := congrArg qR.e h; simp [f00] at this; omega
                       · exact h.2.elim⟩
  · rw [if_neg h0]
    exact ⟨hf, by constructor <;> intro h; · subst h; exact absurd rfl h0
                  · exact h.2.elim⟩
def cnt (k : ByteArray) : List ByteArray → Nat
 | [] => 0
 | x :: l => (if x = k then 1 else 0) + cnt k l
theorem zze {k : ByteArray} : ∀ {l : List ByteArray}, cnt k l = 0 ↔ k ∉ l
 | [] => by simp [cnt]
 | x :: l => by
  rw [cnt, Nat.add_eq_zero_iff, zze, List.mem_cons, not_or];by_cases h : x = k
  ·simp [h]
  ·simp [h, Ne.symm h]
def MapC (m : Mp Int) (l : List ByteArray) : Prop := (∀ k, (m.get k).getD 0 = (cnt k l : Int)) ∧ m.n ≤ l.length
theorem MapC.emp : MapC Mp.emp [] := ⟨fun k => rfl, Nat.le_refl _⟩
theorem MapC.zero {m : Mp Int} {l : List ByteArray} (h : MapC m l) (k : ByteArray) : (m.get k).getD 0 = 0 ↔ k ∉ l := by
 rw [h.1 k, ← zze];omega
mutual
def ZQ : Expr → List Expr
 | ⟨k, s, n, d, xs, a⟩ => if k = 11 then [⟨k, s, n, d, xs, a⟩] else Yz xs
def Yz : List Expr → List Expr
 | [] => []
 | e :: l => ZQ e ++ Yz l
end
theorem namesE_eq (e : Expr) : ZQ e = if e.kind = 11 then [e] else Yz e.args := by cases e; rw [ZQ]
theorem Zu : ∀ {l : List Expr} {e : Expr}, e ∈ l → zJ e ≤ zz l
 | [], e, h => by simp at h
 | x :: l, e, h => by
  rw [zz];rcases List.mem_cons.1 h with rfl | h
  ·omega
  ·have := Zu h;omega
theorem zzU : ∀ (l : List Expr), l.length ≤ zz l
 | [] => by simp [zz]
 | x :: l => by
  have := zzU l;have h1 : 1 ≤ zJ x := by rw [Qx]; omega
  rw [zz, List.length_cons];omega
def nodeS (n : Node) : Prop := n.params.Nodup ∧ ∀ x ∈ ZQ n.body, x.name ∈ n.params
mutual
def zC : Expr → List Expr
 | ⟨k, s, n, d, xs, a⟩ => ⟨k, s, n, d, xs, a⟩ :: Zz xs
def Zz : List Expr → List Expr
 | [] => []
 | e :: l => zC e ++ Zz l
end
theorem Qw (e : Expr) : zC e = e :: Zz e.args := by cases e; rw [zC]
def ok1 (fl nd : ByteArray → Int) (x : Expr) : Prop := ¬ (x.kind = 1 ∧ fl x.name = 0) ∧ ¬ (x.kind = 2 ∧ nd x.name = 0) ∧ ¬ (x.kind = 2 ∧ nd x.name ≠ (x.args.length : Int))
def exprS (fl nd : ByteArray → Int) (e : Expr) : Prop := ∀ x ∈ zC e, ok1 fl nd x
def ndS (l : List Node) (k : ByteArray) : Int := l.foldl (fun a x => if x.name = k then (x.params.length : Int) else a) 0
def zc (p : Program) : List ByteArray := p.inputs.map (·.name)
def zu (p : Program) : List ByteArray := p.flows.map (·.name)
def flS (p : Program) (k : ByteArray) : Int := (cnt k ((zc p ++ zu p).reverse) : Int)
structure NamesS (p : Program) : Prop where
 nodes : (p.nodes.map (·.name)).Nodup
 node : ∀ n ∈ p.nodes, nodeS n
 flows : (zc p ++ zu p).Nodup
 flow : ∀ f ∈ p.flows, exprS (flS p) (ndS p.nodes) f.e
 outputs : (p.outputs.map (·.name)).Nodup
 output : ∀ x ∈ p.outputs, ∃ y ∈ p.flows, y.name = x.flow
theorem QQh {α : Type} {l : List α} {i : Nat} (h : i < l.length) (P : α → Prop) : (∀ x ∈ l.take (i + 1), P x) ↔ (∀ x ∈ l.take i, P x) ∧ P l[i] := by
 rw [List.take_succ_eq_append_getElem h];simp only [List.mem_append, List.mem_singleton];exact ⟨fun h => ⟨fun x hx => h x (.inl hx), h _ (.inr rfl)⟩, fun h x hx => hx.elim (h.1 x) fun e => e ▸ h.2⟩
end Go.Proofs.Ytohmmfimedgccaa.E
end
section
namespace Go.Proofs.Ytohmmfimedgccaa.E
set_option maxRecDepth 100000
set_option maxHeartbeats 4000000
set_option linter.unusedVariables false
set_option linter.unusedSimpArgs false
noncomputable def B_check_finder_fail_in_check_solver (a0 : qc) (a1 : Int) (a2 : Int) : Option (Unit × qc) :=
 (if (decide (a0.finder.e = (0 : Int))) then
  some ((qc.mk (qR.mk a1 a2) a0.known), a0.known)
 else
  some ((qc.mk a0.finder a0.known), a0.known) : Option (qc × (Mp Clock))).bind fun (v3, v4) =>
 some ((), (qc.mk v3.finder v4))
theorem W_check_finder_fail_in_check_solver : Sat_check_finder_fail_in_check_solver (B_check_finder_fail_in_check_solver) := by
 intro a0 a1 a2 r h σ K j0 j0_2 H0 H0_2 hK;refine w_fq (Q := fun r s => ∃ l : List (Nat × AObj), (l.map (·.1)).Nodup ∧ (∀ x ∈ l, x.1 < σ.length ∧ ClO σ.length x.2) ∧ Pq σ l K r s) Try.func49 rfl rfl (by kernel_rfl) (fun _ _ h => h) ?_;unfold B_check_finder_fail_in_check_solver at h;have hP := Pre.refl σ;have jl0 := H0.lt;have jl0_2 := H0_2.lt;have hF := Fr.refl σ [j0, j0_2];have E0 : qz [(.pt j0 0), (.v (.int .i64 a1)), (.v (.int .i64 a2))] 0 = (.pt j0 0) := rfl;have E1 : qz [(.pt j0 0), (.v (.int .i64 a1)), (.v (.int .i64 a2))] 1 = (.v (.int .i64 a1)) := rfl;have E2 : qz [(.pt j0 0), (.v (.int .i64 a1)), (.v (.int .i64 a2))] 2 = (.v (.int .i64 a2)) := rfl;have TT := cj4 Expr.rlen T_106 T_3 T_30;refine qd (w_x (cj4 E0 H0.get H0_2.get TT) ?_);refine qf ?_;obtain ⟨x1, h2, h⟩ := qb h;refine zE (fun e s => ∃ v3 v4, ∃ τ : Store, (v3, v4) = x1 ∧ Gx s j0 (AObj.box 123 [(.v (.int .i64 v3.finder.at_)), (.v (.int .i64 v3.finder.e)), (.mp j0_2)]) ∧ Gx s j0_2 (AObj.map .s (mpF (fun v : Clock => (PV.ag [(.v (.int .i64 v.period)), (.v (.int .i64 v.phase))])) (Mp.get v4)) (Mp.n v4)) ∧ Fr σ τ [j0, j0_2] ∧ Pre τ s) ?_ ?_
 ·rcases qi h2 with ⟨hb5, h2⟩ | ⟨hb5, h2⟩
  ·refine xt hb5 ?_;have q1 := Gx.ap H0 H0_2;have q2 := Gx.same H0 (AObj.box 123 [(.v (.int .i64 a1)), (.v (.int .i64 a0.finder.e)), (.mp j0_2)]);have q3 := Gx.same q2 (AObj.box 123 [(.v (.int .i64 a1)), (.v (.int .i64 a2)), (.mp j0_2)]);refine w_x (Zt E0 E1 E2 H0.get H0_2.get q2.get (H0_2.ne q1 (some (AObj.box 123 [(.v (.int .i64 a1)), (.v (.int .i64 a0.finder.e)), (.mp j0_2)]))).get q3.get ((H0_2.ne q1 (some (AObj.box 123 [(.v (.int .i64 a1)), (.v (.int .i64 a0.finder.e)), (.mp j0_2)]))).ne q1 (some (AObj.box 123 [(.v (.int .i64 a1)), (.v (.int .i64 a2)), (.mp j0_2)]))).get TT) ?_;obtain rfl := qa h2;exact qS ⟨_, _, (List.set (List.set σ j0 (some (AObj.box 123 [(.v (.int .i64 a1)), (.v (.int .i64 a0.finder.e)), (.mp j0_2)]))) j0 (some (AObj.box 123 [(.v (.int .i64 a1)), (.v (.int .i64 a2)), (.mp j0_2)]))), rfl, q3, ((H0_2.ne q1 (some (AObj.box 123 [(.v (.int .i64 a1)), (.v (.int .i64 a0.finder.e)), (.mp j0_2)]))).ne q1 (some (AObj.box 123 [(.v (.int .i64 a1)), (.v (.int .i64 a2)), (.mp j0_2)]))), ((hF.set (by simp) (some (AObj.box 123 [(.v (.int .i64 a1)), (.v (.int .i64 a0.finder.e)), (.mp j0_2)]))).set (by simp) (some (AObj.box 123 [(.v (.int .i64 a1)), (.v (.int .i64 a2)), (.mp j0_2)]))), ((hP.setp (hF.lt jl0) (some (AObj.box 123 [(.v (.int .i64 a1)), (.v (.int .i64 a0.finder.e)), (.mp j0_2)]))).setp ((hF.set (by simp) (some (AObj.box 123 [(.v (.int .i64 a1)), (.v (.int .i64 a0.finder.e)), (.mp j0_2)]))).lt jl0) (some (AObj.box 123 [(.v (.int .i64 a1)), (.v (.int .i64 a2)), (.mp j0_2)])))⟩
  ·refine xf hb5 (qm ?_);obtain rfl := qa h2;exact qS ⟨_, _, σ, rfl, H0, H0_2, hF, hP⟩
 rintro e s ⟨v3, v4, τ, rfl, X0, X0_2, hF, hP⟩
 (try dsimp only at h);obtain rfl := qa h;have hn6 : (List.map (·.1) ([(j0, (AObj.box 123 [(.v (.int .i64 v3.finder.at_)), (.v (.int .i64 v3.finder.e)), (.mp j0_2)])), (j0_2, (AObj.map .s (mpF (fun v : Clock => (PV.ag [(.v (.int .i64 v.period)), (.v (.int .i64 v.phase))])) (Mp.get v4)) (Mp.n v4)))] : List (Nat × AObj))).Nodup := (List.nodup_cons.2 ⟨(by simp only [List.map_cons, List.map_nil, List.mem_cons, List.not_mem_nil, or_false, not_or]; exact (Gx.ap X0 X0_2)), (List.nodup_cons.2 ⟨(fun h => by simp at h), List.nodup_nil⟩)⟩);have he7 := Fr.eq hF hn6 (List.forall_mem_cons.2 ⟨⟨jl0, (Gx.back X0 hP (hF.lt jl0))⟩, (List.forall_mem_cons.2 ⟨⟨jl0_2, (Gx.back X0_2 hP (hF.lt jl0_2))⟩, (fun x hx => absurd hx (by simp))⟩)⟩);exact ZV (fun h => absurd rfl h) (xr (rs := #[]) TT) ⟨_, hn6, (List.forall_mem_cons.2 ⟨⟨jl0, (ClO.bx (ClL.cons (Cn.cl (.v _) _) (ClL.cons (Cn.cl (.v _) _) (ClL.cons (Cl.mp jl0_2) ClL.nil))))⟩, (List.forall_mem_cons.2 ⟨⟨jl0_2, ((CnO.mp (fun _ => (.ag (CnL.cons (.v _) (CnL.cons (.v _) CnL.nil)))) _ _).cl _)⟩, (fun x hx => absurd hx (by simp))⟩)⟩), he7 ▸ hP, _, (.refl _), (.tu CnL.nil), hK⟩
noncomputable def QP (a0 : Program) (f3 : qc → Int → Int → Option (Unit × qc)) (f2 : qc → Expr → Option ((Clock × Bool) × qc)) : (Int × (Mp Clock) × qc) → Option ((Int × (Mp Clock) × qc) ⊕ ((Mp Clock) × qc))
 | (v102, v103, v104) =>
  if (decide (v102 < ((List.length a0.flows : Nat) : Int))) then
   ((qC a0.flows v102).bind fun y112 =>
   (f2 (qc.mk v104.finder v103) y112.e).bind fun y115 =>
   (if (y115.1.2 && (!(decide (y115.1.1.period = ((Option.getD (Mp.get y115.2.known y112.name) (Clock.mk (0 : Int) (0 : Int))).period)) && (decide (y115.1.1.phase = ((Option.getD (Mp.get y115.2.known y112.name) (Clock.mk (0 : Int) (0 : Int))).phase)))))) then
    (f3 (qc.mk y115.2.finder y115.2.known) y112.at_ (5 : Int)).bind fun y124 =>
    some (y124.2.known, (qc.mk y124.2.finder y124.2.known))
   else
    some (y115.2.known, (qc.mk y115.2.finder y115.2.known)) : Option ((Mp Clock) × qc)).bind fun (v121, v122) =>
   some (v121, (qc.mk v122.finder v121)) : Option ((Mp Clock) × qc)).bind fun (v110, v111) =>
   some (.inl ((IntKind.i64.wrap (v102 + (1 : Int))), v110, (qc.mk v111.finder v110)))
  else
   some (.inr (v103, (qc.mk v104.finder v103)))
noncomputable def QQ (a0 : Program) (f1 : qc → Expr → Option (Unit × qc)) : (Int × (Mp Clock) × qc) → Option ((Int × (Mp Clock) × qc) ⊕ ((Mp Clock) × qc))
 | (v82, v83, v84) =>
  if (decide (v82 < ((List.length a0.flows : Nat) : Int))) then
   ((qC a0.flows v82).bind fun y92 =>
   (f1 (qc.mk v84.finder v83) y92.e).bind fun y95 =>
   some (y95.2.known, (qc.mk y95.2.finder y95.2.known)) : Option ((Mp Clock) × qc)).bind fun (v90, v91) =>
   some (.inl ((IntKind.i64.wrap (v82 + (1 : Int))), v90, (qc.mk v91.finder v90)))
  else
   some (.inr (v83, (qc.mk v84.finder v83)))
noncomputable def QR (a0 : Program) (f3 : qc → Int → Int → Option (Unit × qc)) : ((List Clock) × Int × (Mp Clock) × qc) → Option (((List Clock) × Int × (Mp Clock) × qc) ⊕ ((List Clock) × (Mp Clock) × qc))
 | (v40, v41, v42, v43) =>
  if (decide (v41 < ((List.length a0.flows : Nat) : Int))) then
   ((qC a0.flows v41).bind fun y52 =>
   (if (!(Option.isSome (Mp.get v42 y52.name))) then
    (f3 (qc.mk v43.finder v42) y52.at_ (6 : Int)).bind fun y61 =>
    some (y61.2.known, (qc.mk y61.2.finder y61.2.known))
   else
    some (v42, (qc.mk v43.finder v42)) : Option ((Mp Clock) × qc)).bind fun (v58, v59) =>
   (Qk 16 v40 ([(Option.getD (Mp.get v42 y52.name) (Clock.mk (0 : Int) (0 : Int)))])).bind fun y63 =>
   some (y63, v58, (qc.mk v59.finder v58)) : Option ((List Clock) × (Mp Clock) × qc)).bind fun (v49, v50, v51) =>
   some (.inl (v49, (IntKind.i64.wrap (v41 + (1 : Int))), v50, (qc.mk v51.finder v50)))
  else
   some (.inr (v40, v42, (qc.mk v43.finder v42)))
noncomputable def ZW (a0 : Program) (f0 : qc → (List Flow) → Option (Bool × qc)) : ((Mp Clock) × qc) → Option (((Mp Clock) × qc) ⊕ ((Mp Clock) × qc))
 | (v25, v26) =>
  (f0 (qc.mk v26.finder v25) a0.flows).bind fun y29 =>
  if y29.1 then
   (some () : Option Unit).bind fun _ =>
   some (.inl (y29.2.known, (qc.mk y29.2.finder y29.2.known)))
  else
   some (.inr (y29.2.known, (qc.mk y29.2.finder y29.2.known)))
noncomputable def Qv (a0 : Program) : (Int × (Mp Clock) × qc) → Option ((Int × (Mp Clock) × qc) ⊕ ((Mp Clock) × qc))
 | (v5, v6, v7) =>
  if (decide (v5 < ((List.length a0.inputs : Nat) : Int))) then
   ((qC a0.inputs v5).bind fun y15 =>
   (Jm v6 y15.name (Clock.mk y15.period y15.phase)).bind fun y18 =>
   some (y18, (qc.mk v7.finder y18)) : Option ((Mp Clock) × qc)).bind fun (v13, v14) =>
   some (.inl ((IntKind.i64.wrap (v5 + (1 : Int))), v13, (qc.mk v14.finder v13)))
  else
   some (.inr (v6, (qc.mk v7.finder v6)))
noncomputable def B_check_Clocks (f0 : qc → (List Flow) → Option (Bool × qc)) (f1 : qc → Expr → Option (Unit × qc)) (f2 : qc → Expr → Option ((Clock × Bool) × qc)) (f3 : qc → Int → Int → Option (Unit × qc)) (a0 : Program) : Option ((List Clock) × Int × Int) :=
 (qy (Qv a0) ((0 : Int), (Mp.emp : Mp Clock), (qc.mk (qR.mk (0 : Int) (0 : Int)) (Mp.emp : Mp Clock))) : Option ((Mp Clock) × qc)).bind fun (v3, v4) =>
 (qy (ZW a0 f0) (v3, (qc.mk v4.finder v3)) : Option ((Mp Clock) × qc)).bind fun (v23, v24) =>
 (qy (QR a0 f3) ([], (0 : Int), v23, (qc.mk v24.finder v23)) : Option ((List Clock) × (Mp Clock) × qc)).bind fun (v37, v38, v39) =>
 (qy (QQ a0 f1) ((0 : Int), v38, (qc.mk v39.finder v38)) : Option ((Mp Clock) × qc)).bind fun (v80, v81) =>
 (qy (QP a0 f3 f2) ((0 : Int), v80, (qc.mk v81.finder v80)) : Option ((Mp Clock) × qc)).bind fun (v100, v101) =>
 if (!decide (v101.finder.e = (0 : Int))) then
  some ([], v101.finder.at_, v101.finder.e)
 else
  some (v37, (0 : Int), (0 : Int))
abbrev qv : Clock → PV := fun v : Clock => (PV.ag [(.v (.int .i64 v.period)), (.v (.int .i64 v.phase))])
abbrev C16_0 (z0 : Store) (z1 : Nat) (z2 : (Mp Clock)) : Prop := Gx z0 z1 (AObj.map .s (mpF (fun v : Clock => (PV.ag [(.v (.int .i64 v.period)), (.v (.int .i64 v.phase))])) (Mp.get z2)) (Mp.n z2))
abbrev C16_1 (z0 z1 : Store) (z2 : Nat) (z3 : qc) (z4 : Nat) : Prop := Bx z0 z1 z2 123 [(.v (.int .i64 z3.finder.at_)), (.v (.int .i64 z3.finder.e)), (.mp z4)]
abbrev C16_2 (z0 z1 : Store) (z2 : PV) (z3 : (List Clock)) : Prop := Acc z0 z1 z2 43 2 (List.map Clock.cl z3)
abbrev C16_3 (z0 z1 : Store) (z2 : Nat) (z3 : Program) : Prop := Bx z0 z1 z2 27 (Program.cl z3)
abbrev C16_4 (z0 z1 : Store) (z2 : Nat) (z3 : (Mp Clock)) (z4 : Flow) : Prop := Bx z0 z1 z2 43 [(.v (.int .i64 ((Option.getD (Mp.get z3 z4.name) (Clock.mk (0 : Int) (0 : Int))).period))), (.v (.int .i64 ((Option.getD (Mp.get z3 z4.name) (Clock.mk (0 : Int) (0 : Int))).phase)))]
abbrev C16_5 (z0 : Store) (z1 : Nat) (z2 : ((Clock × Bool) × qc)) : Prop := Gx z0 z1 (AObj.map .s (mpF (fun v : Clock => (PV.ag [(.v (.int .i64 v.period)), (.v (.int .i64 v.phase))])) (Mp.get z2.2.known)) (Mp.n z2.2.known))
abbrev C16_6 (z0 : Store) (z1 : Nat) (z2 : (Bool × qc)) : Prop := Gx z0 z1 (AObj.map .s (mpF (fun v : Clock => (PV.ag [(.v (.int .i64 v.period)), (.v (.int .i64 v.phase))])) (Mp.get z2.2.known)) (Mp.n z2.2.known))
theorem W_check_Clocks (f0 f1 f2 f3) (S0 : Sat_check_solver_round f0) (S1 : Sat_check_solver_calls f1) (S2 : Sat_check_solver_of f2) (S3 : Sat_check_finder_fail_in_check_solver f3) : Sat_check_Clocks (B_check_Clocks f0 f1 f2 f3) := by
 intro a0 r h σ K hK;refine qW Try.func16 rfl rfl (by kernel_rfl) ?_;unfold B_check_Clocks at h;have hP := Pre.refl σ;have E0 : qz [(.ag (Program.cl a0))] 0 = (.ag (Program.cl a0)) := rfl;have TT := cj5 Clock.cle Expr.rlen Flow.cle Input.cle (ZC Program.cle T_106 T_120 T_121 T_123 T_2 T_22 T_23 T_24 T_25 T_27 T_3 T_30 T_33 T_37 T_39 T_41 T_43 T_9 T_96);refine qk (fun e s => ∃ i1 : Nat, C16_3 σ s i1 a0 ∧ eP e 1 i1 ∧ Pre σ s) ?_ ?_
 ·refine w_x (cj2 E0 TT) ?_;exact qe ⟨σ.length, (Bx.new hP _ _), (xv (cj2 E0 TT)), (hP.app _)⟩
 rintro e s ⟨i1, X1, E1, hP⟩
 refine qk (fun e s => ∃ i19 i21 : Nat, C16_3 σ s i1 a0 ∧ Gx s i19 (AObj.map .s (mpF qv (Mp.get (Mp.emp : Mp Clock))) (Mp.n (Mp.emp : Mp Clock))) ∧ σ.length ≤ i19 ∧ Bx σ s i21 123 [(.v (.int .i64 (0 : Int))), (.v (.int .i64 (0 : Int))), (.mp i19)] ∧ eP e 1 i1 ∧ eP e 5 i21 ∧ i1 ≠ i21 ∧ Pre σ s) ?_ ?_
 ·refine w_x TT ?_;exact qe ⟨s.length, (s ++ [some (AObj.map .s (fun _ => none) 0)]).length, ((X1.app _).app _), ((Gx.cast (Gx.new s (AObj.map .s (fun _ => none) 0)) (YU qv)).app [some (AObj.box 123 [(.v (.int .i64 (0 : Int))), (.v (.int .i64 (0 : Int))), (.mp s.length)])]), (Pre.le hP), (Bx.new (hP.app _) 123 [(.v (.int .i64 (0 : Int))), (.v (.int .i64 (0 : Int))), (.mp s.length)]), E1, (xv TT), (Nat.ne_of_lt (X1.app [some (AObj.map .s (fun _ => none) 0)]).lt), ((hP.app _).app _)⟩
 rintro e s ⟨i19, i21, X1, X19, L19, X21, E1, E5, N1__21, hP⟩
 refine ql (qd (w_x (cj3 E1 X1.get TT) ?_));refine qf ?_;obtain ⟨x1, h2, h⟩ := qb h;refine qk (fun e s => ∃ v3 v4, (v3, v4) = x1 ∧ C16_3 σ s i1 a0 ∧ C16_0 s i19 v3 ∧ σ.length ≤ i19 ∧ C16_1 σ s i21 v4 i19 ∧ eP e 1 i1 ∧ eP e 5 i21 ∧ i1 ≠ i21 ∧ Pre σ s) ?_ ?_
 ·refine qn (qH h2 (fun v e s => ∃ v5 v6 v7, (v5, v6, v7) = v ∧ C16_3 σ s i1 a0 ∧ C16_0 s i19 v6 ∧ σ.length ≤ i19 ∧ C16_1 σ s i21 v7 i19 ∧ eP e 1 i1 ∧ eP e 5 i21 ∧ eS e 23 Input.cl a0.inputs ∧ eL e 24 a0.inputs ∧ eI e 25 v5 ∧ i1 ≠ i21 ∧ Pre σ s) ⟨_, WkE.refl _, _, _, _, rfl, X1, X19, L19, X21, E1, E5, (xv TT), (xv TT), (xv TT), N1__21, hP⟩ ?_)
  rintro v x8 e s hf9 ⟨v5, v6, v7, rfl, X1, X19, L19, X21, E1, E5, E23, E24, E25, N1__21, hP⟩
  unfold Qv at hf9;(try dsimp only at hf9);refine qd (w_x (cj3 E24 E25 TT) ?_);refine qf (qd ?_);rcases qi hf9 with ⟨hb10, hf9⟩ | ⟨hb10, hf9⟩
  ·refine xt hb10 (qm (qf ?_));obtain ⟨x11, h12, hf9⟩ := qb hf9;refine qk (fun e s => ∃ v13 v14, (v13, v14) = x11 ∧ C16_3 σ s i1 a0 ∧ C16_0 s i19 v13 ∧ σ.length ≤ i19 ∧ C16_1 σ s i21 v14 i19 ∧ eP e 1 i1 ∧ eP e 5 i21 ∧ eS e 23 Input.cl a0.inputs ∧ eL e 24 a0.inputs ∧ eI e 25 v5 ∧ i1 ≠ i21 ∧ Pre σ s) ?_ ?_
   ·refine qn ?_;obtain ⟨y15, h16, h12⟩ := qb h12;refine qk (fun e s => ∃ i7 : Nat, C16_3 σ s i1 a0 ∧ C16_0 s i19 v6 ∧ σ.length ≤ i19 ∧ C16_1 σ s i21 v7 i19 ∧ Bx σ s i7 96 (Input.cl y15) ∧ eP e 1 i1 ∧ eP e 5 i21 ∧ eP e 7 i7 ∧ eS e 23 Input.cl a0.inputs ∧ eL e 24 a0.inputs ∧ eI e 25 v5 ∧ i1 ≠ i21 ∧ i21 ≠ i7 ∧ Pre σ s) ?_ ?_
    ·have R17 := qA (f := Input.cl) (qg h16).2;have q1 := cj5 E23 E25 R17 (qg h16).1 TT;refine w_x q1 ?_;exact qe ⟨s.length, (X1.app _), (X19.app _), L19, (X21.app _), (Bx.new hP _ _), E1, E5, (xv q1), E23, E24, E25, N1__21, (Nat.ne_of_lt X21.lt), (hP.app _)⟩
    rintro e s ⟨i7, X1, X19, L19, X21, X7, E1, E5, E7, E23, E24, E25, N1__21, N21__7, hP⟩
    obtain ⟨y18, h19, h12⟩ := qb h12;have q2 := Gx.ap X19 X21.gx;have q3 := Gx.same X19 (AObj.map .s (upm (mpF qv (Mp.get v6)) (.string y15.name) (.ag [(.v (.int .i64 y15.period)), (.v (.int .i64 y15.phase))])) (Mp.n v6 + 1));have q4 := Gx.cast q3 (qqF (f := qv) h19);have q5 := Zt E5 E7 X19.get X21.get X7.get (JE h19).1 q4.get (X21.nea q2) (X7.nea (Gx.ap X19 X7.gx)) TT;refine zn 11 0 q5 ?_;refine za q5 ?_;refine qQ ?_;obtain rfl := qa h12;exact qe ⟨_, _, rfl, (X1.ne (Gx.ap X19 X1.gx) _), q4, L19, (X21.ne q2 _), E1, E5, E23, E24, E25, N1__21, (hP.set L19 (some (AObj.map .s (upm (mpF qv (Mp.get v6)) (.string y15.name) (.ag [(.v (.int .i64 y15.period)), (.v (.int .i64 y15.phase))])) (Mp.n v6 + 1))))⟩
   rintro e s ⟨v13, v14, rfl, X1, X19, L19, X21, E1, E5, E23, E24, E25, N1__21, hP⟩
   (try dsimp only at hf9);refine w_x (cj2 E25 TT) ?_;obtain rfl := qa hf9;exact qZ rfl ⟨_, _, _, rfl, X1, X19, L19, X21, E1, E5, E23, E24, (xv (cj2 E25 TT)), N1__21, hP⟩
  ·refine xf hb10 (qE (qM ?_));obtain rfl := qa hf9;refine qY rfl fun hr20 => ?_;obtain rfl := hr20;exact qK (qe ⟨_, _, rfl, X1, X19, L19, X21, E1, E5, N1__21, hP⟩)
 rintro e s ⟨v3, v4, rfl, X1, X19, L19, X21, E1, E5, N1__21, hP⟩
 (try dsimp only at h);obtain ⟨x21, h22, h⟩ := qb h;refine qk (fun e s => ∃ v23 v24, (v23, v24) = x21 ∧ C16_3 σ s i1 a0 ∧ C16_0 s i19 v23 ∧ σ.length ≤ i19 ∧ C16_1 σ s i21 v24 i19 ∧ eP e 1 i1 ∧ eP e 5 i21 ∧ i1 ≠ i21 ∧ Pre σ s) ?_ ?_
 ·refine qn (qH h22 (fun v e s => ∃ v25 v26, (v25, v26) = v ∧ C16_3 σ s i1 a0 ∧ C16_0 s i19 v25 ∧ σ.length ≤ i19 ∧ C16_1 σ s i21 v26 i19 ∧ eP e 1 i1 ∧ eP e 5 i21 ∧ i1 ≠ i21 ∧ Pre σ s) ⟨_, WkE.refl _, _, _, rfl, X1, X19, L19, X21, E1, E5, N1__21, hP⟩ ?_)
  rintro v x27 e s hf28 ⟨v25, v26, rfl, X1, X19, L19, X21, E1, E5, N1__21, hP⟩
  unfold ZW at hf28;(try dsimp only at hf28);refine ql ?_;obtain ⟨y29, h30, hf28⟩ := qb hf28;refine qk (fun e s => C16_3 σ s i1 a0 ∧ C16_6 s i19 y29 ∧ σ.length ≤ i19 ∧ Bx σ s i21 123 [(.v (.int .i64 y29.2.finder.at_)), (.v (.int .i64 y29.2.finder.e)), (.mp i19)] ∧ eP e 1 i1 ∧ eP e 5 i21 ∧ eB e 44 y29.1 ∧ i1 ≠ i21 ∧ Pre σ s) ?_ ?_
  ·have q6 := Gx.ap X19 X1.gx;have q7 := Gx.ap X19 X21.gx;have q8 := Gx.ap X21.gx X19;have q9 := X21.same 123 [(.v (.int .i64 y29.2.finder.at_)), (.v (.int .i64 y29.2.finder.e)), (.mp i19)];have q10 := X19.ne q8 (some (AObj.box 123 [(.v (.int .i64 y29.2.finder.at_)), (.v (.int .i64 y29.2.finder.e)), (.mp i19)]));have q11 := X1.ne (Ne.symm N1__21) (some (AObj.box 123 [(.v (.int .i64 y29.2.finder.at_)), (.v (.int .i64 y29.2.finder.e)), (.mp i19)]));have q12 := Gx.same q10 (AObj.map .s (mpF qv (Mp.get y29.2.known)) (Mp.n y29.2.known));have q13 := Jn E1 E5 X1.get X19.get X21.get q11.get q10.get q9.get (q11.ne q6 (some (AObj.map .s (mpF qv (Mp.get y29.2.known)) (Mp.n y29.2.known)))).get q12.get (q9.ne q7 (some (AObj.map .s (mpF qv (Mp.get y29.2.known)) (Mp.n y29.2.known)))).get TT;refine w_x q13 ?_;refine S0 _ _ _ h30 _ _ _ _ X21.gx X19 ?_;refine w_y q13 ?_;exact qe ⟨(q11.ne q6 _), q12, L19, (q9.ne q7 _), E1, E5, (xv q13), N1__21, ((hP.set X21.le (some (AObj.box 123 [(.v (.int .i64 y29.2.finder.at_)), (.v (.int .i64 y29.2.finder.e)), (.mp i19)]))).set L19 (some (AObj.map .s (mpF qv (Mp.get y29.2.known)) (Mp.n y29.2.known))))⟩
  rintro e s ⟨X1, X19, L19, X21, E1, E5, E44, N1__21, hP⟩
  refine qd ?_;rcases qi hf28 with ⟨hb31, hf28⟩ | ⟨hb31, hf28⟩
  ·refine xt (cj2 E44 hb31) (qm (qf ?_));obtain ⟨x32, h33, hf28⟩ := qb hf28;refine zE (fun e s => () = x32 ∧ C16_3 σ s i1 a0 ∧ C16_6 s i19 y29 ∧ σ.length ≤ i19 ∧ Bx σ s i21 123 [(.v (.int .i64 y29.2.finder.at_)), (.v (.int .i64 y29.2.finder.e)), (.mp i19)] ∧ eP e 1 i1 ∧ eP e 5 i21 ∧ i1 ≠ i21 ∧ Pre σ s) ?_ ?_
   ·refine qn (qE (qK ?_));obtain rfl := qa h33;exact qS ⟨rfl, X1, X19, L19, X21, E1, E5, N1__21, hP⟩
   rintro e s ⟨rfl, X1, X19, L19, X21, E1, E5, N1__21, hP⟩
   (try dsimp only at hf28);obtain rfl := qa hf28;exact qZ rfl ⟨_, _, rfl, X1, X19, L19, X21, E1, E5, N1__21, hP⟩
  ·refine xf (cj2 E44 hb31) (qE (qM ?_));obtain rfl := qa hf28;refine qY rfl fun hr34 => ?_;obtain rfl := hr34;exact qK (qe ⟨_, _, rfl, X1, X19, L19, X21, E1, E5, N1__21, hP⟩)
 rintro e s ⟨v23, v24, rfl, X1, X19, L19, X21, E1, E5, N1__21, hP⟩
 (try dsimp only at h);refine qd (w_x Expr.rlen ?_);refine qf (ql (qd (w_x (cj3 E1 X1.get TT) ?_)));refine qf ?_;obtain ⟨x35, h36, h⟩ := qb h;refine qk (fun e s => ∃ v37 v38 v39, ∃ p8 : PV, (v37, v38, v39) = x35 ∧ C16_3 σ s i1 a0 ∧ C16_0 s i19 v38 ∧ σ.length ≤ i19 ∧ C16_1 σ s i21 v39 i19 ∧ eP e 1 i1 ∧ eP e 5 i21 ∧ e 8 = p8 ∧ C16_2 σ s p8 v37 ∧ i1 ≠ i21 ∧ Pre σ s) ?_ ?_
 ·refine qn (qH h36 (fun v e s => ∃ v40 v41 v42 v43, ∃ p8 : PV, (v40, v41, v42, v43) = v ∧ C16_3 σ s i1 a0 ∧ C16_0 s i19 v42 ∧ σ.length ≤ i19 ∧ C16_1 σ s i21 v43 i19 ∧ eP e 1 i1 ∧ eP e 5 i21 ∧ e 8 = p8 ∧ C16_2 σ s p8 v40 ∧ eS e 46 Flow.cl a0.flows ∧ eL e 47 a0.flows ∧ eI e 48 v41 ∧ i1 ≠ i21 ∧ Pre σ s) ⟨_, WkE.refl _, _, _, _, _, (.v (.slice none 0 0)), rfl, X1, X19, L19, X21, E1, E5, (xv TT), (Acc.nil _ _ _ _), (xv TT), (xv TT), (xv TT), N1__21, hP⟩ ?_)
  rintro v x44 e s hf45 ⟨v40, v41, v42, v43, p8, rfl, X1, X19, L19, X21, E1, E5, E8, A8, E46, E47, E48, N1__21, hP⟩
  unfold QR at hf45;(try dsimp only at hf45);refine qd (w_x (cj4 E47 E48 A8.rowsOf TT) ?_);refine qf (qd ?_);rcases qi hf45 with ⟨hb46, hf45⟩ | ⟨hb46, hf45⟩
  ·refine xt hb46 (qm (qf ?_));obtain ⟨x47, h48, hf45⟩ := qb hf45;refine qk (fun e s => ∃ v49 v50 v51, ∃ p8 : PV, (v49, v50, v51) = x47 ∧ C16_3 σ s i1 a0 ∧ C16_0 s i19 v50 ∧ σ.length ≤ i19 ∧ C16_1 σ s i21 v51 i19 ∧ eP e 1 i1 ∧ eP e 5 i21 ∧ e 8 = p8 ∧ C16_2 σ s p8 v49 ∧ eS e 46 Flow.cl a0.flows ∧ eL e 47 a0.flows ∧ eI e 48 v41 ∧ i1 ≠ i21 ∧ Pre σ s) ?_ ?_
   ·refine qn ?_;obtain ⟨y52, h53, h48⟩ := qb h48;refine qk (fun e s => ∃ i10 : Nat, ∃ p8 : PV, C16_3 σ s i1 a0 ∧ Bx σ s i10 41 (Flow.cl y52) ∧ C16_0 s i19 v42 ∧ σ.length ≤ i19 ∧ C16_1 σ s i21 v43 i19 ∧ eP e 1 i1 ∧ eP e 5 i21 ∧ e 8 = p8 ∧ C16_2 σ s p8 v40 ∧ eP e 10 i10 ∧ eS e 46 Flow.cl a0.flows ∧ eL e 47 a0.flows ∧ eI e 48 v41 ∧ i1 ≠ i21 ∧ i10 ≠ i21 ∧ Pre σ s) ?_ ?_
    ·have R54 := qA (f := Flow.cl) (qg h53).2;have q14 := cj6 E46 E48 A8.rowsOf R54 (qg h53).1 TT;refine w_x q14 ?_;exact qe ⟨s.length, p8, (X1.app _), (Bx.new hP _ _), (X19.app _), L19, (X21.app _), E1, E5, (xv (cj7 E8 E46 E48 A8.rowsOf R54 (qg h53).1 TT)), (A8.app [some (AObj.box 41 (Flow.cl y52))]), (xv q14), E46, E47, E48, N1__21, (Ne.symm (Nat.ne_of_lt X21.lt)), (hP.app _)⟩
    rintro e s ⟨i10, p8, X1, X10, X19, L19, X21, E1, E5, E8, A8, E10, E46, E47, E48, N1__21, N10__21, hP⟩
    refine qk (fun e s => ∃ i11 : Nat, ∃ p8 : PV, C16_3 σ s i1 a0 ∧ Bx σ s i10 41 (Flow.cl y52) ∧ C16_4 σ s i11 v42 y52 ∧ C16_0 s i19 v42 ∧ σ.length ≤ i19 ∧ C16_1 σ s i21 v43 i19 ∧ eP e 1 i1 ∧ eP e 5 i21 ∧ e 8 = p8 ∧ C16_2 σ s p8 v40 ∧ eP e 10 i10 ∧ eP e 11 i11 ∧ eB e 12 (Option.isSome (Mp.get v42 y52.name)) ∧ eS e 46 Flow.cl a0.flows ∧ eL e 47 a0.flows ∧ eI e 48 v41 ∧ i1 ≠ i21 ∧ i10 ≠ i21 ∧ i11 ≠ i21 ∧ Pre σ s) ?_ ?_
    ·have R55 : Option.getD (Option.map qv (Mp.get v42 y52.name)) (.ag [(.v (.int .i64 (0 : Int))), (.v (.int .i64 (0 : Int)))]) = (.ag [(.v (.int .i64 ((Option.getD (Mp.get v42 y52.name) (Clock.mk (0 : Int) (0 : Int))).period))), (.v (.int .i64 ((Option.getD (Mp.get v42 y52.name) (Clock.mk (0 : Int) (0 : Int))).phase)))]) := by cases Mp.get v42 y52.name <;> rfl
     have q15 := X19.app [some (AObj.box 43 [(.v (.int .i64 ((Option.getD (Mp.get v42 y52.name) (Clock.mk (0 : Int) (0 : Int))).period))), (.v (.int .i64 ((Option.getD (Mp.get v42 y52.name) (Clock.mk (0 : Int) (0 : Int))).phase)))])];have q16 := X10.app [some (AObj.box 43 [(.v (.int .i64 ((Option.getD (Mp.get v42 y52.name) (Clock.mk (0 : Int) (0 : Int))).period))), (.v (.int .i64 ((Option.getD (Mp.get v42 y52.name) (Clock.mk (0 : Int) (0 : Int))).phase)))])];have q17 := X21.app [some (AObj.box 43 [(.v (.int .i64 ((Option.getD (Mp.get v42 y52.name) (Clock.mk (0 : Int) (0 : Int))).period))), (.v (.int .i64 ((Option.getD (Mp.get v42 y52.name) (Clock.mk (0 : Int) (0 : Int))).phase)))])];have q18 := Bx.at hP (l := [some (AObj.box 43 [(.v (.int .i64 ((Option.getD (Mp.get v42 y52.name) (Clock.mk (0 : Int) (0 : Int))).period))), (.v (.int .i64 ((Option.getD (Mp.get v42 y52.name) (Clock.mk (0 : Int) (0 : Int))).phase)))])]) (j := 0) (t := 43) (c := [(.v (.int .i64 ((Option.getD (Mp.get v42 y52.name) (Clock.mk (0 : Int) (0 : Int))).period))), (.v (.int .i64 ((Option.getD (Mp.get v42 y52.name) (Clock.mk (0 : Int) (0 : Int))).phase)))]) rfl;have q19 := Jn E5 E10 X10.g3 X19.g3 X21.g3 A8.rowsOf R55 q16.get q15.get q17.get q18.get TT;refine zn 12 1 q19 ?_;refine za q19 ?_;exact qe ⟨(s.length), p8, (X1.app _), q16, q18, q15, L19, q17, E1, E5, (xv (cj13 E8 E5 E10 X10.g3 X19.g3 X21.g3 A8.rowsOf R55 q16.get q15.get q17.get q18.get TT)), (A8.app [some (AObj.box 43 [(.v (.int .i64 ((Option.getD (Mp.get v42 y52.name) (Clock.mk (0 : Int) (0 : Int))).period))), (.v (.int .i64 ((Option.getD (Mp.get v42 y52.name) (Clock.mk (0 : Int) (0 : Int))).phase)))])]), E10, (xv q19), (xv q19), E46, E47, E48, N1__21, N10__21, (Ne.symm (Nat.ne_of_lt X21.lt)), (hP.app _)⟩
    rintro e s ⟨i11, p8, X1, X10, X11, X19, L19, X21, E1, E5, E8, A8, E10, E11, E12, E46, E47, E48, N1__21, N10__21, N11__21, hP⟩
    refine ql (qd (w_x (cj3 E12 A8.rowsOf TT) ?_));refine qf ?_;obtain ⟨x56, h57, h48⟩ := qb h48;refine qk (fun e s => ∃ v58 v59, ∃ p8 : PV, (v58, v59) = x56 ∧ C16_3 σ s i1 a0 ∧ C16_4 σ s i11 v42 y52 ∧ C16_0 s i19 v58 ∧ σ.length ≤ i19 ∧ C16_1 σ s i21 v59 i19 ∧ eP e 1 i1 ∧ eP e 5 i21 ∧ e 8 = p8 ∧ C16_2 σ s p8 v40 ∧ eP e 11 i11 ∧ eS e 46 Flow.cl a0.flows ∧ eL e 47 a0.flows ∧ eI e 48 v41 ∧ i1 ≠ i21 ∧ i11 ≠ i21 ∧ Pre σ s) ?_ ?_
    ·rcases qi h57 with ⟨hb60, h57⟩ | ⟨hb60, h57⟩
     ·refine xt hb60 ?_;obtain ⟨y61, h62, h57⟩ := qb h57;have q20 := Gx.ap X19 X10.gx;have q21 := Gx.ap X19 X21.gx;have q22 := Gx.ap X21.gx X19;have q23 := X21.same 123 [(.v (.int .i64 y61.2.finder.at_)), (.v (.int .i64 y61.2.finder.e)), (.mp i19)];have q24 := X19.ne q22 (some (AObj.box 123 [(.v (.int .i64 y61.2.finder.at_)), (.v (.int .i64 y61.2.finder.e)), (.mp i19)]));have q25 := X10.ne (Ne.symm N10__21) (some (AObj.box 123 [(.v (.int .i64 y61.2.finder.at_)), (.v (.int .i64 y61.2.finder.e)), (.mp i19)]));have q26 := Gx.same q24 (AObj.map .s (mpF qv (Mp.get y61.2.known)) (Mp.n y61.2.known));have q27 := cj13 E5 E10 X10.get X19.get X21.get A8.rowsOf q25.get q24.get q23.get (q25.ne q20 (some (AObj.map .s (mpF qv (Mp.get y61.2.known)) (Mp.n y61.2.known)))).get q26.get (q23.ne q21 (some (AObj.map .s (mpF qv (Mp.get y61.2.known)) (Mp.n y61.2.known)))).get TT;refine zn 5 0 q27 ?_;refine za q27 ?_;refine S3 _ _ _ _ h62 _ _ _ _ X21.gx X19 ?_;refine w_y q27 ?_;obtain rfl := qa h57;exact qe ⟨_, _, p8, rfl, ((X1.ne (Ne.symm N1__21) _).ne (Gx.ap X19 X1.gx) _), ((X11.ne (Ne.symm N11__21) _).ne (Gx.ap X19 X11.gx) _), q26, L19, (q23.ne q21 _), E1, E5, (xv (Yl E8 E5 E10 X10.get X19.get X21.get A8.rowsOf q25.get q24.get q23.get (q25.ne q20 (some (AObj.map .s (mpF qv (Mp.get y61.2.known)) (Mp.n y61.2.known)))).get q26.get (q23.ne q21 (some (AObj.map .s (mpF qv (Mp.get y61.2.known)) (Mp.n y61.2.known)))).get TT)), ((A8.setg X21.gx (by intro a b c h; cases h) (some (AObj.box 123 [(.v (.int .i64 y61.2.finder.at_)), (.v (.int .i64 y61.2.finder.e)), (.mp i19)]))).setg q24 (by intro a b c h; cases h) (some (AObj.map .s (mpF qv (Mp.get y61.2.known)) (Mp.n y61.2.known)))), E11, E46, E47, E48, N1__21, N11__21, ((hP.set X21.le (some (AObj.box 123 [(.v (.int .i64 y61.2.finder.at_)), (.v (.int .i64 y61.2.finder.e)), (.mp i19)]))).set L19 (some (AObj.map .s (mpF qv (Mp.get y61.2.known)) (Mp.n y61.2.known))))⟩
     ·refine xf hb60 (qm ?_);obtain rfl := qa h57;exact qe ⟨_, _, p8, rfl, X1, X11, X19, L19, X21, E1, E5, (xv (cj2 E8 TT)), A8, E11, E46, E47, E48, N1__21, N11__21, hP⟩
    rintro e s ⟨v58, v59, p8, rfl, X1, X11, X19, L19, X21, E1, E5, E8, A8, E11, E46, E47, E48, N1__21, N11__21, hP⟩
    (try dsimp only at h48);obtain ⟨y63, h64, h48⟩ := qb h48;obtain ⟨p68, s69, ha73, A700, hP74, K71, Q72, U75, V76⟩ := Acc.push (ns := [[(.v (.int .i64 ((Option.getD (Mp.get v42 y52.name) (Clock.mk (0 : Int) (0 : Int))).period))), (.v (.int .i64 ((Option.getD (Mp.get v42 y52.name) (Clock.mk (0 : Int) (0 : Int))).phase)))]]) (rows := (List.map Clock.cl v40)) T_33 T_43 A8 hP (qI (f := Clock.cl) (n := 2) (fun _ => rfl) _) (by simp) (by simp) (by decide) (by simpa [Expr.rlen] using (qN h64).1);have ha73 := ha73 (.sl [[(.v (.int .i64 ((Option.getD (Mp.get v42 y52.name) (Clock.mk (0 : Int) (0 : Int))).period))), (.v (.int .i64 ((Option.getD (Mp.get v42 y52.name) (Clock.mk (0 : Int) (0 : Int))).phase)))]]) rfl;have A70 : Acc σ s69 p68 43 2 (List.map Clock.cl y63) := by rw [← (qN h64).2]; rw [List.map_append]; exact A700
    have q28 := cj7 E8 E11 X11.get A8.rowsOf ha73 (X11.keep A8 K71).get TT;refine w_x q28 ?_;refine qQ ?_;obtain rfl := qa h48;exact qe ⟨_, _, _, p68, rfl, (X1.keep A8 K71), (X19.keep (by intro a b c h; cases h) A8 K71), L19, (X21.keep A8 K71), E1, E5, (xv q28), A70, E46, E47, E48, N1__21, hP74⟩
   rintro e s ⟨v49, v50, v51, p8, rfl, X1, X19, L19, X21, E1, E5, E8, A8, E46, E47, E48, N1__21, hP⟩
   (try dsimp only at hf45);refine w_x (cj3 E48 A8.rowsOf TT) ?_;obtain rfl := qa hf45;exact qZ rfl ⟨_, _, _, _, p8, rfl, X1, X19, L19, X21, E1, E5, (xv (cj4 E8 E48 A8.rowsOf TT)), A8, E46, E47, (xv (cj3 E48 A8.rowsOf TT)), N1__21, hP⟩
  ·refine xf hb46 (qE (qM ?_));obtain rfl := qa hf45;refine qY rfl fun hr77 => ?_;obtain rfl := hr77;exact qK (qe ⟨_, _, _, p8, rfl, X1, X19, L19, X21, E1, E5, (xv (cj2 E8 TT)), A8, N1__21, hP⟩)
 rintro e s ⟨v37, v38, v39, p8, rfl, X1, X19, L19, X21, E1, E5, E8, A8, N1__21, hP⟩
 (try dsimp only at h);refine ql (qd (w_x (cj4 E1 X1.get A8.rowsOf TT) ?_));refine qf ?_;obtain ⟨x78, h79, h⟩ := qb h;refine qk (fun e s => ∃ v80 v81, ∃ p8 : PV, (v80, v81) = x78 ∧ C16_3 σ s i1 a0 ∧ C16_0 s i19 v80 ∧ σ.length ≤ i19 ∧ C16_1 σ s i21 v81 i19 ∧ eP e 1 i1 ∧ eP e 5 i21 ∧ e 8 = p8 ∧ C16_2 σ s p8 v37 ∧ i1 ≠ i21 ∧ Pre σ s) ?_ ?_
 ·refine qn (qH h79 (fun v e s => ∃ v82 v83 v84, ∃ p8 : PV, (v82, v83, v84) = v ∧ C16_3 σ s i1 a0 ∧ C16_0 s i19 v83 ∧ σ.length ≤ i19 ∧ C16_1 σ s i21 v84 i19 ∧ eP e 1 i1 ∧ eP e 5 i21 ∧ e 8 = p8 ∧ C16_2 σ s p8 v37 ∧ eS e 76 Flow.cl a0.flows ∧ eL e 77 a0.flows ∧ eI e 78 v82 ∧ i1 ≠ i21 ∧ Pre σ s) ⟨_, WkE.refl _, _, _, _, p8, rfl, X1, X19, L19, X21, E1, E5, (xv (cj2 E8 TT)), A8, (xv TT), (xv TT), (xv TT), N1__21, hP⟩ ?_)
  rintro v x85 e s hf86 ⟨v82, v83, v84, p8, rfl, X1, X19, L19, X21, E1, E5, E8, A8, E76, E77, E78, N1__21, hP⟩
  unfold QQ at hf86;(try dsimp only at hf86);refine qd (w_x (cj4 E77 E78 A8.rowsOf TT) ?_);refine qf (qd ?_);rcases qi hf86 with ⟨hb87, hf86⟩ | ⟨hb87, hf86⟩
  ·refine xt hb87 (qm (qf ?_));obtain ⟨x88, h89, hf86⟩ := qb hf86;refine qk (fun e s => ∃ v90 v91, ∃ p8 : PV, (v90, v91) = x88 ∧ C16_3 σ s i1 a0 ∧ C16_0 s i19 v90 ∧ σ.length ≤ i19 ∧ C16_1 σ s i21 v91 i19 ∧ eP e 1 i1 ∧ eP e 5 i21 ∧ e 8 = p8 ∧ C16_2 σ s p8 v37 ∧ eS e 76 Flow.cl a0.flows ∧ eL e 77 a0.flows ∧ eI e 78 v82 ∧ i1 ≠ i21 ∧ Pre σ s) ?_ ?_
   ·refine qn ?_;obtain ⟨y92, h93, h89⟩ := qb h89;refine qk (fun e s => ∃ i14 : Nat, ∃ p8 : PV, C16_3 σ s i1 a0 ∧ Bx σ s i14 41 (Flow.cl y92) ∧ C16_0 s i19 v83 ∧ σ.length ≤ i19 ∧ C16_1 σ s i21 v84 i19 ∧ eP e 1 i1 ∧ eP e 5 i21 ∧ e 8 = p8 ∧ C16_2 σ s p8 v37 ∧ eP e 14 i14 ∧ eS e 76 Flow.cl a0.flows ∧ eL e 77 a0.flows ∧ eI e 78 v82 ∧ i1 ≠ i21 ∧ i14 ≠ i21 ∧ Pre σ s) ?_ ?_
    ·have R94 := qA (f := Flow.cl) (qg h93).2;have q29 := cj6 E76 E78 A8.rowsOf R94 (qg h93).1 TT;refine w_x q29 ?_;exact qe ⟨s.length, p8, (X1.app _), (Bx.new hP _ _), (X19.app _), L19, (X21.app _), E1, E5, (xv (cj7 E8 E76 E78 A8.rowsOf R94 (qg h93).1 TT)), (A8.app [some (AObj.box 41 (Flow.cl y92))]), (xv q29), E76, E77, E78, N1__21, (Ne.symm (Nat.ne_of_lt X21.lt)), (hP.app _)⟩
    rintro e s ⟨i14, p8, X1, X14, X19, L19, X21, E1, E5, E8, A8, E14, E76, E77, E78, N1__21, N14__21, hP⟩
    obtain ⟨y95, h96, h89⟩ := qb h89;have q30 := Gx.ap X19 X14.gx;have q31 := Gx.ap X19 X21.gx;have q32 := Gx.ap X21.gx X19;have q33 := X21.same 123 [(.v (.int .i64 y95.2.finder.at_)), (.v (.int .i64 y95.2.finder.e)), (.mp i19)];have q34 := X19.ne q32 (some (AObj.box 123 [(.v (.int .i64 y95.2.finder.at_)), (.v (.int .i64 y95.2.finder.e)), (.mp i19)]));have q35 := X14.ne (Ne.symm N14__21) (some (AObj.box 123 [(.v (.int .i64 y95.2.finder.at_)), (.v (.int .i64 y95.2.finder.e)), (.mp i19)]));have q36 := Gx.same q34 (AObj.map .s (mpF qv (Mp.get y95.2.known)) (Mp.n y95.2.known));have q37 := cj13 E5 E14 X14.get X19.get X21.get A8.rowsOf q35.get q34.get q33.get (q35.ne q30 (some (AObj.map .s (mpF qv (Mp.get y95.2.known)) (Mp.n y95.2.known)))).get q36.get (q33.ne q31 (some (AObj.map .s (mpF qv (Mp.get y95.2.known)) (Mp.n y95.2.known)))).get TT;refine w_x q37 ?_;refine S1 _ _ _ h96 _ _ _ _ X21.gx X19 ?_;refine w_y q37 ?_;refine qQ ?_;obtain rfl := qa h89;exact qe ⟨_, _, p8, rfl, ((X1.ne (Ne.symm N1__21) _).ne (Gx.ap X19 X1.gx) _), q36, L19, (q33.ne q31 _), E1, E5, (xv (Yl E8 E5 E14 X14.get X19.get X21.get A8.rowsOf q35.get q34.get q33.get (q35.ne q30 (some (AObj.map .s (mpF qv (Mp.get y95.2.known)) (Mp.n y95.2.known)))).get q36.get (q33.ne q31 (some (AObj.map .s (mpF qv (Mp.get y95.2.known)) (Mp.n y95.2.known)))).get TT)), ((A8.setg X21.gx (by intro a b c h; cases h) (some (AObj.box 123 [(.v (.int .i64 y95.2.finder.at_)), (.v (.int .i64 y95.2.finder.e)), (.mp i19)]))).setg q34 (by intro a b c h; cases h) (some (AObj.map .s (mpF qv (Mp.get y95.2.known)) (Mp.n y95.2.known)))), E76, E77, E78, N1__21, ((hP.set X21.le (some (AObj.box 123 [(.v (.int .i64 y95.2.finder.at_)), (.v (.int .i64 y95.2.finder.e)), (.mp i19)]))).set L19 (some (AObj.map .s (mpF qv (Mp.get y95.2.known)) (Mp.n y95.2.known))))⟩
   rintro e s ⟨v90, v91, p8, rfl, X1, X19, L19, X21, E1, E5, E8, A8, E76, E77, E78, N1__21, hP⟩
   (try dsimp only at hf86);refine w_x (cj3 E78 A8.rowsOf TT) ?_;obtain rfl := qa hf86;exact qZ rfl ⟨_, _, _, p8, rfl, X1, X19, L19, X21, E1, E5, (xv (cj4 E8 E78 A8.rowsOf TT)), A8, E76, E77, (xv (cj3 E78 A8.rowsOf TT)), N1__21, hP⟩
  ·refine xf hb87 (qE (qM ?_));obtain rfl := qa hf86;refine qY rfl fun hr97 => ?_;obtain rfl := hr97;exact qK (qe ⟨_, _, p8, rfl, X1, X19, L19, X21, E1, E5, (xv (cj2 E8 TT)), A8, N1__21, hP⟩)
 rintro e s ⟨v80, v81, p8, rfl, X1, X19, L19, X21, E1, E5, E8, A8, N1__21, hP⟩
 (try dsimp only at h);refine ql (qd (w_x (cj4 E1 X1.get A8.rowsOf TT) ?_));refine qf ?_;obtain ⟨x98, h99, h⟩ := qb h;refine qk (fun e s => ∃ v100 v101, ∃ p8 : PV, (v100, v101) = x98 ∧ C16_0 s i19 v100 ∧ σ.length ≤ i19 ∧ C16_1 σ s i21 v101 i19 ∧ eP e 5 i21 ∧ e 8 = p8 ∧ C16_2 σ s p8 v37 ∧ Pre σ s) ?_ ?_
 ·refine qn (qH h99 (fun v e s => ∃ v102 v103 v104, ∃ p8 : PV, (v102, v103, v104) = v ∧ C16_0 s i19 v103 ∧ σ.length ≤ i19 ∧ C16_1 σ s i21 v104 i19 ∧ eP e 5 i21 ∧ e 8 = p8 ∧ C16_2 σ s p8 v37 ∧ eS e 88 Flow.cl a0.flows ∧ eL e 89 a0.flows ∧ eI e 90 v102 ∧ Pre σ s) ⟨_, WkE.refl _, _, _, _, p8, rfl, X19, L19, X21, E5, (xv (cj2 E8 TT)), A8, (xv TT), (xv TT), (xv TT), hP⟩ ?_)
  rintro v x105 e s hf106 ⟨v102, v103, v104, p8, rfl, X19, L19, X21, E5, E8, A8, E88, E89, E90, hP⟩
  unfold QP at hf106;(try dsimp only at hf106);refine qd (w_x (cj4 E89 E90 A8.rowsOf TT) ?_);refine qf (qd ?_);rcases qi hf106 with ⟨hb107, hf106⟩ | ⟨hb107, hf106⟩
  ·refine xt hb107 (qm (qf ?_));obtain ⟨x108, h109, hf106⟩ := qb hf106;refine qk (fun e s => ∃ v110 v111, ∃ p8 : PV, (v110, v111) = x108 ∧ C16_0 s i19 v110 ∧ σ.length ≤ i19 ∧ C16_1 σ s i21 v111 i19 ∧ eP e 5 i21 ∧ e 8 = p8 ∧ C16_2 σ s p8 v37 ∧ eS e 88 Flow.cl a0.flows ∧ eL e 89 a0.flows ∧ eI e 90 v102 ∧ Pre σ s) ?_ ?_
   ·refine qn ?_;obtain ⟨y112, h113, h109⟩ := qb h109;refine qk (fun e s => ∃ i16 : Nat, ∃ p8 : PV, Bx σ s i16 41 (Flow.cl y112) ∧ C16_0 s i19 v103 ∧ σ.length ≤ i19 ∧ C16_1 σ s i21 v104 i19 ∧ eP e 5 i21 ∧ e 8 = p8 ∧ C16_2 σ s p8 v37 ∧ eP e 16 i16 ∧ eS e 88 Flow.cl a0.flows ∧ eL e 89 a0.flows ∧ eI e 90 v102 ∧ i16 ≠ i21 ∧ Pre σ s) ?_ ?_
    ·have R114 := qA (f := Flow.cl) (qg h113).2;have q38 := cj6 E88 E90 A8.rowsOf R114 (qg h113).1 TT;refine w_x q38 ?_;exact qe ⟨s.length, p8, (Bx.new hP _ _), (X19.app _), L19, (X21.app _), E5, (xv (cj7 E8 E88 E90 A8.rowsOf R114 (qg h113).1 TT)), (A8.app [some (AObj.box 41 (Flow.cl y112))]), (xv q38), E88, E89, E90, (Ne.symm (Nat.ne_of_lt X21.lt)), (hP.app _)⟩
    rintro e s ⟨i16, p8, X16, X19, L19, X21, E5, E8, A8, E16, E88, E89, E90, N16__21, hP⟩
    obtain ⟨y115, h116, h109⟩ := qb h109;refine qk (fun e s => ∃ i17 : Nat, ∃ p8 : PV, Bx σ s i16 41 (Flow.cl y112) ∧ Bx σ s i17 43 (Clock.cl y115.1.1) ∧ C16_5 s i19 y115 ∧ σ.length ≤ i19 ∧ Bx σ s i21 123 [(.v (.int .i64 y115.2.finder.at_)), (.v (.int .i64 y115.2.finder.e)), (.mp i19)] ∧ eP e 5 i21 ∧ e 8 = p8 ∧ C16_2 σ s p8 v37 ∧ eP e 16 i16 ∧ eP e 17 i17 ∧ eB e 18 y115.1.2 ∧ eS e 88 Flow.cl a0.flows ∧ eL e 89 a0.flows ∧ eI e 90 v102 ∧ i16 ≠ i21 ∧ i17 ≠ i21 ∧ Pre σ s) ?_ ?_
    ·have q39 := Gx.ap X19 X16.gx;have q40 := Gx.ap X19 X21.gx;have q41 := Gx.ap X21.gx X19;have q42 := X21.same 123 [(.v (.int .i64 y115.2.finder.at_)), (.v (.int .i64 y115.2.finder.e)), (.mp i19)];have q43 := X19.ne q41 (some (AObj.box 123 [(.v (.int .i64 y115.2.finder.at_)), (.v (.int .i64 y115.2.finder.e)), (.mp i19)]));have q44 := X16.ne (Ne.symm N16__21) (some (AObj.box 123 [(.v (.int .i64 y115.2.finder.at_)), (.v (.int .i64 y115.2.finder.e)), (.mp i19)]));have q45 := Gx.same q43 (AObj.map .s (mpF qv (Mp.get y115.2.known)) (Mp.n y115.2.known));have q46 := cj13 E5 E16 X16.g3 X19.g3 X21.g3 A8.rowsOf q44.get q43.get q42.get (q44.ne q39 (some (AObj.map .s (mpF qv (Mp.get y115.2.known)) (Mp.n y115.2.known)))).get q45.get (q42.ne q40 (some (AObj.map .s (mpF qv (Mp.get y115.2.known)) (Mp.n y115.2.known)))).get TT;refine w_x q46 ?_;refine S2 _ _ _ h116 _ _ _ _ X21.gx X19 ?_;refine w_y q46 ?_;exact qe ⟨(List.set (List.set s i21 (some (AObj.box 123 [(.v (.int .i64 y115.2.finder.at_)), (.v (.int .i64 y115.2.finder.e)), (.mp i19)]))) i19 (some (AObj.map .s (mpF qv (Mp.get y115.2.known)) (Mp.n y115.2.known)))).length, p8, ((q44.ne q39 _).app _), (Bx.new ((hP.set X21.le (some (AObj.box 123 [(.v (.int .i64 y115.2.finder.at_)), (.v (.int .i64 y115.2.finder.e)), (.mp i19)]))).set L19 (some (AObj.map .s (mpF qv (Mp.get y115.2.known)) (Mp.n y115.2.known)))) 43 (Clock.cl y115.1.1)), (q45.app _), L19, ((q42.ne q40 _).app _), E5, (xv (Yl E8 E5 E16 X16.g3 X19.g3 X21.g3 A8.rowsOf q44.get q43.get q42.get (q44.ne q39 (some (AObj.map .s (mpF qv (Mp.get y115.2.known)) (Mp.n y115.2.known)))).get q45.get (q42.ne q40 (some (AObj.map .s (mpF qv (Mp.get y115.2.known)) (Mp.n y115.2.known)))).get TT)), (((A8.setg X21.gx (by intro a b c h; cases h) (some (AObj.box 123 [(.v (.int .i64 y115.2.finder.at_)), (.v (.int .i64 y115.2.finder.e)), (.mp i19)]))).setg q43 (by intro a b c h; cases h) (some (AObj.map .s (mpF qv (Mp.get y115.2.known)) (Mp.n y115.2.known)))).app [some (AObj.box 43 (Clock.cl y115.1.1))]), E16, (xv q46), (xv q46), E88, E89, E90, N16__21, (Ne.symm (Nat.ne_of_lt (q42.ne q40 (some (AObj.map .s (mpF qv (Mp.get y115.2.known)) (Mp.n y115.2.known)))).lt)), (((hP.set X21.le (some (AObj.box 123 [(.v (.int .i64 y115.2.finder.at_)), (.v (.int .i64 y115.2.finder.e)), (.mp i19)]))).set L19 (some (AObj.map .s (mpF qv (Mp.get y115.2.known)) (Mp.n y115.2.known)))).app _)⟩
    rintro e s ⟨i17, p8, X16, X17, X19, L19, X21, E5, E8, A8, E16, E17, E18, E88, E89, E90, N16__21, N17__21, hP⟩
    refine qk (fun e s => ∃ p8 : PV, Bx σ s i16 41 (Flow.cl y112) ∧ C16_5 s i19 y115 ∧ σ.length ≤ i19 ∧ Bx σ s i21 123 [(.v (.int .i64 y115.2.finder.at_)), (.v (.int .i64 y115.2.finder.e)), (.mp i19)] ∧ eP e 5 i21 ∧ e 8 = p8 ∧ C16_2 σ s p8 v37 ∧ eP e 16 i16 ∧ eS e 88 Flow.cl a0.flows ∧ eL e 89 a0.flows ∧ eI e 90 v102 ∧ eB e 112 (y115.1.2 && (!(decide (y115.1.1.period = ((Option.getD (Mp.get y115.2.known y112.name) (Clock.mk (0 : Int) (0 : Int))).period)) && (decide (y115.1.1.phase = ((Option.getD (Mp.get y115.2.known y112.name) (Clock.mk (0 : Int) (0 : Int))).phase)))))) ∧ i16 ≠ i21 ∧ Pre σ s) ?_ ?_
    ·cases hb117 : y115.1.2
     ·have q47 := YH E5 E16 E17 E18 X16.get X17.get X19.get X21.get A8.rowsOf hb117 TT;refine ZX q47 ?_;exact qe ⟨p8, X16, X19, L19, X21, E5, (xv (Jn E8 E5 E16 E17 E18 X16.get X17.get X19.get X21.get A8.rowsOf hb117 TT)), A8, E16, E88, E89, E90, (xv q47), N16__21, hP⟩
     ·have R118 : Option.getD (Option.map qv (Mp.get y115.2.known y112.name)) (.ag [(.v (.int .i64 (0 : Int))), (.v (.int .i64 (0 : Int)))]) = (.ag [(.v (.int .i64 ((Option.getD (Mp.get y115.2.known y112.name) (Clock.mk (0 : Int) (0 : Int))).period))), (.v (.int .i64 ((Option.getD (Mp.get y115.2.known y112.name) (Clock.mk (0 : Int) (0 : Int))).phase)))]) := by cases Mp.get y115.2.known y112.name <;> rfl
      have q48 := Jn E5 E16 E17 E18 X16.get X17.get X19.get X21.get A8.rowsOf hb117 R118 TT;refine ZX q48 ?_;exact qe ⟨p8, X16, X19, L19, X21, E5, (xv (cj13 E8 E5 E16 E17 E18 X16.get X17.get X19.get X21.get A8.rowsOf hb117 R118 TT)), A8, E16, E88, E89, E90, (xv q48), N16__21, hP⟩
    rintro e s ⟨p8, X16, X19, L19, X21, E5, E8, A8, E16, E88, E89, E90, E112, N16__21, hP⟩
    obtain ⟨x119, h120, h109⟩ := qb h109;refine zE (fun e s => ∃ v121 v122, ∃ p8 : PV, (v121, v122) = x119 ∧ C16_0 s i19 v121 ∧ σ.length ≤ i19 ∧ C16_1 σ s i21 v122 i19 ∧ eP e 5 i21 ∧ e 8 = p8 ∧ C16_2 σ s p8 v37 ∧ eS e 88 Flow.cl a0.flows ∧ eL e 89 a0.flows ∧ eI e 90 v102 ∧ Pre σ s) ?_ ?_
    ·rcases qi h120 with ⟨hb123, h120⟩ | ⟨hb123, h120⟩
     ·refine xt (cj2 E112 hb123) ?_;obtain ⟨y124, h125, h120⟩ := qb h120;have q49 := Gx.ap X19 X16.gx;have q50 := Gx.ap X19 X21.gx;have q51 := Gx.ap X21.gx X19;have q52 := X21.same 123 [(.v (.int .i64 y124.2.finder.at_)), (.v (.int .i64 y124.2.finder.e)), (.mp i19)];have q53 := X19.ne q51 (some (AObj.box 123 [(.v (.int .i64 y124.2.finder.at_)), (.v (.int .i64 y124.2.finder.e)), (.mp i19)]));have q54 := X16.ne (Ne.symm N16__21) (some (AObj.box 123 [(.v (.int .i64 y124.2.finder.at_)), (.v (.int .i64 y124.2.finder.e)), (.mp i19)]));have q55 := Gx.same q53 (AObj.map .s (mpF qv (Mp.get y124.2.known)) (Mp.n y124.2.known));have q56 := cj13 E5 E16 X16.get X19.get X21.get A8.rowsOf q54.get q53.get q52.get (q54.ne q49 (some (AObj.map .s (mpF qv (Mp.get y124.2.known)) (Mp.n y124.2.known)))).get q55.get (q52.ne q50 (some (AObj.map .s (mpF qv (Mp.get y124.2.known)) (Mp.n y124.2.known)))).get TT;refine zn 5 0 q56 ?_;refine za q56 ?_;refine S3 _ _ _ _ h125 _ _ _ _ X21.gx X19 ?_;refine w_y q56 ?_;obtain rfl := qa h120;exact qS ⟨_, _, p8, rfl, q55, L19, (q52.ne q50 _), E5, (xv (Yl E8 E5 E16 X16.get X19.get X21.get A8.rowsOf q54.get q53.get q52.get (q54.ne q49 (some (AObj.map .s (mpF qv (Mp.get y124.2.known)) (Mp.n y124.2.known)))).get q55.get (q52.ne q50 (some (AObj.map .s (mpF qv (Mp.get y124.2.known)) (Mp.n y124.2.known)))).get TT)), ((A8.setg X21.gx (by intro a b c h; cases h) (some (AObj.box 123 [(.v (.int .i64 y124.2.finder.at_)), (.v (.int .i64 y124.2.finder.e)), (.mp i19)]))).setg q53 (by intro a b c h; cases h) (some (AObj.map .s (mpF qv (Mp.get y124.2.known)) (Mp.n y124.2.known)))), E88, E89, E90, ((hP.set X21.le (some (AObj.box 123 [(.v (.int .i64 y124.2.finder.at_)), (.v (.int .i64 y124.2.finder.e)), (.mp i19)]))).set L19 (some (AObj.map .s (mpF qv (Mp.get y124.2.known)) (Mp.n y124.2.known))))⟩
     ·refine xf (cj2 E112 hb123) (qm ?_);obtain rfl := qa h120;exact qS ⟨_, _, p8, rfl, X19, L19, X21, E5, (xv (cj2 E8 TT)), A8, E88, E89, E90, hP⟩
    rintro e s ⟨v121, v122, p8, rfl, X19, L19, X21, E5, E8, A8, E88, E89, E90, hP⟩
    (try dsimp only at h109);refine qQ ?_;obtain rfl := qa h109;exact qe ⟨_, _, p8, rfl, X19, L19, X21, E5, (xv (cj2 E8 TT)), A8, E88, E89, E90, hP⟩
   rintro e s ⟨v110, v111, p8, rfl, X19, L19, X21, E5, E8, A8, E88, E89, E90, hP⟩
   (try dsimp only at hf106);refine w_x (cj3 E90 A8.rowsOf TT) ?_;obtain rfl := qa hf106;exact qZ rfl ⟨_, _, _, p8, rfl, X19, L19, X21, E5, (xv (cj4 E8 E90 A8.rowsOf TT)), A8, E88, E89, (xv (cj3 E90 A8.rowsOf TT)), hP⟩
  ·refine xf hb107 (qE (qM ?_));obtain rfl := qa hf106;refine qY rfl fun hr126 => ?_;obtain rfl := hr126;exact qK (qe ⟨_, _, p8, rfl, X19, L19, X21, E5, (xv (cj2 E8 TT)), A8, hP⟩)
 rintro e s ⟨v100, v101, p8, rfl, X19, L19, X21, E5, E8, A8, hP⟩
 (try dsimp only at h);refine ql (qd (w_x (cj5 E5 X19.get X21.get A8.rowsOf TT) ?_));refine qf (qd ?_);rcases qi h with ⟨hb127, h⟩ | ⟨hb127, h⟩
 ·refine xt hb127 (qd (ZX (cj5 E5 X19.get X21.get A8.rowsOf TT) ?_));refine qf (qp (zd ?_));obtain rfl := qa h;exact qt (fun _ => rfl) (xr (rs := #[.tmp 2, .tmp 3, .tmp 4]) TT) hP (Wk.tul (.cons .nil (.cons (.refl _) (.cons (.refl _) .nil)))) (.tu (CnL.cons Cn.sl0 (CnL.cons (.v _) (CnL.cons (.v _) CnL.nil)))) hK
 ·refine xf hb127 (qm (qf (qd (w_x (cj3 E8 A8.rowsOf TT) ?_))));refine qf (qp ?_);obtain rfl := qa h;exact qt (fun _ => rfl) (xr (rs := #[.tmp 2, .tmp 3, .tmp 4]) TT) hP (Wk.tul (.cons A8.wk (.cons (.refl _) (.cons (.refl _) .nil)))) (.tu (CnL.cons (Cn.rows Clock.cn _) (CnL.cons (.v _) (CnL.cons (.v _) CnL.nil)))) hK
noncomputable def Qb (a1 : (List Flow)) (f0 : qc → Expr → Option ((Clock × Bool) × qc)) : (Bool × Int × qc × (Mp Clock)) → Option ((Bool × Int × qc × (Mp Clock)) ⊕ (Bool × qc × (Mp Clock)))
 | (v6, v7, v8, v9) =>
  if (decide (v7 < ((List.length a1 : Nat) : Int))) then
   ((qC a1 v7).bind fun y18 =>
   if ((Option.isSome (Mp.get v9 y18.name)) || (!decide (v8.finder.e = (0 : Int)))) then
    some (v6, (qc.mk v8.finder v9), v9)
   else
    (f0 (qc.mk v8.finder v9) y18.e).bind fun y24 =>
    (if y24.1.2 then
     (Jm y24.2.known y18.name y24.1.1).bind fun y32 =>
     some (true, (qc.mk y24.2.finder y32), y32)
    else
     some (v6, (qc.mk y24.2.finder y24.2.known), y24.2.known) : Option (Bool × qc × (Mp Clock))).bind fun (v28, v29, v30) =>
    some (v28, (qc.mk v29.finder v30), v30) : Option (Bool × qc × (Mp Clock))).bind fun (v15, v16, v17) =>
   some (.inl (v15, (IntKind.i64.wrap (v7 + (1 : Int))), (qc.mk v16.finder v17), v17))
  else
   some (.inr (v6, (qc.mk v8.finder v9), v9))
noncomputable def B_check_solver_round (f0 : qc → Expr → Option ((Clock × Bool) × qc)) (a0 : qc) (a1 : (List Flow)) : Option (Bool × qc) :=
 (qy (Qb a1 f0) (false, (0 : Int), (qc.mk a0.finder a0.known), a0.known) : Option (Bool × qc × (Mp Clock))).bind fun (v3, v4, v5) =>
 some (v3, (qc.mk v4.finder v5))
abbrev qD : Clock → PV := fun v : Clock => (PV.ag [(.v (.int .i64 v.period)), (.v (.int .i64 v.phase))])
abbrev C53_0 (z0 : Store) (z1 : Nat) (z2 : (Mp Clock)) : Prop := Gx z0 z1 (AObj.map .s (mpF (fun v : Clock => (PV.ag [(.v (.int .i64 v.period)), (.v (.int .i64 v.phase))])) (Mp.get z2)) (Mp.n z2))
abbrev C53_1 (z0 : Store) (z1 : Nat) (z2 : qc) (z3 : Nat) : Prop := Gx z0 z1 (AObj.box 123 [(.v (.int .i64 z2.finder.at_)), (.v (.int .i64 z2.finder.e)), (.mp z3)])
theorem W_check_solver_round (f0) (S0 : Sat_check_solver_of f0) : Sat_check_solver_round (B_check_solver_round f0) := by
 intro a0 a1 r h σ K j0 j0_2 H0 H0_2 hK;refine w_fq (Q := fun r s => ∃ l : List (Nat × AObj), (l.map (·.1)).Nodup ∧ (∀ x ∈ l, x.1 < σ.length ∧ ClO σ.length x.2) ∧ Pq σ l K r s) Try.func53 rfl rfl (by kernel_rfl) (fun _ _ h => h) ?_;unfold B_check_solver_round at h;have hP := Pre.refl σ;have jl0 := H0.lt;have jl0_2 := H0_2.lt;have hF := Fr.refl σ [j0, j0_2];have E0 : qz [(.pt j0 0), (.sl (List.map Flow.cl a1))] 0 = (.pt j0 0) := rfl;have E1 : qz [(.pt j0 0), (.sl (List.map Flow.cl a1))] 1 = (.sl (List.map Flow.cl a1)) := rfl;have TT := JV Clock.cle Expr.rlen Flow.cle T_106 T_120 T_121 T_123 T_2 T_24 T_3 T_30 T_37 T_39 T_41 T_43 T_9;refine qd (w_x (cj3 H0.get H0_2.get TT) ?_);refine qf (qd (w_x (cj3 H0.get H0_2.get TT) ?_));refine qf (ql (qd (w_x (cj4 E1 H0.get H0_2.get TT) ?_)));refine qf ?_;obtain ⟨x1, h2, h⟩ := qb h;refine qk (fun e s => ∃ v3 v4 v5, ∃ τ : Store, (v3, v4, v5) = x1 ∧ C53_1 s j0 v4 j0_2 ∧ C53_0 s j0_2 v5 ∧ eB e 5 v3 ∧ Fr σ τ [j0, j0_2] ∧ Pre τ s) ?_ ?_
 ·refine qn (qH h2 (fun v e s => ∃ v6 v7 v8 v9, ∃ τ : Store, (v6, v7, v8, v9) = v ∧ C53_1 s j0 v8 j0_2 ∧ C53_0 s j0_2 v9 ∧ eP e 0 j0 ∧ eB e 5 v6 ∧ eS e 12 Flow.cl a1 ∧ eL e 13 a1 ∧ eI e 14 v7 ∧ Fr σ τ [j0, j0_2] ∧ Pre τ s) ⟨_, WkE.refl _, _, _, _, _, σ, rfl, H0, H0_2, E0, (xv TT), (xv TT), (xv TT), (xv TT), hF, hP⟩ ?_)
  rintro v x10 e s hf11 ⟨v6, v7, v8, v9, τ, rfl, X0, X0_2, E0, E5, E12, E13, E14, hF, hP⟩
  unfold Qb at hf11;(try dsimp only at hf11);refine qd (w_x (cj3 E13 E14 TT) ?_);refine qf (qd ?_);rcases qi hf11 with ⟨hb12, hf11⟩ | ⟨hb12, hf11⟩
  ·refine xt hb12 (qm (qf ?_));obtain ⟨x13, h14, hf11⟩ := qb hf11;refine qk (fun e s => ∃ v15 v16 v17, ∃ τ : Store, (v15, v16, v17) = x13 ∧ C53_1 s j0 v16 j0_2 ∧ C53_0 s j0_2 v17 ∧ eP e 0 j0 ∧ eB e 5 v15 ∧ eS e 12 Flow.cl a1 ∧ eL e 13 a1 ∧ eI e 14 v7 ∧ Fr σ τ [j0, j0_2] ∧ Pre τ s) ?_ ?_
   ·refine qn ?_;obtain ⟨y18, h19, h14⟩ := qb h14;refine qk (fun e s => ∃ i7 : Nat, ∃ τ : Store, C53_1 s j0 v8 j0_2 ∧ C53_0 s j0_2 v9 ∧ Bx σ s i7 41 (Flow.cl y18) ∧ eP e 0 j0 ∧ eB e 5 v6 ∧ eP e 7 i7 ∧ eS e 12 Flow.cl a1 ∧ eL e 13 a1 ∧ eI e 14 v7 ∧ j0 ≠ i7 ∧ Fr σ τ [j0, j0_2] ∧ Pre τ s) ?_ ?_
    ·have R20 := qA (f := Flow.cl) (qg h19).2;have q1 := cj5 E12 E14 R20 (qg h19).1 TT;refine w_x q1 ?_;exact qe ⟨s.length, τ, (X0.app _), (X0_2.app _), (Bx.newf hF hP 41 (Flow.cl y18)), E0, E5, (xv q1), E12, E13, E14, (Nat.ne_of_lt X0.lt), hF, (hP.app _)⟩
    rintro e s ⟨i7, τ, X0, X0_2, X7, E0, E5, E7, E12, E13, E14, N0__7, hF, hP⟩
    refine ql (qk (fun e s => ∃ τ : Store, C53_1 s j0 v8 j0_2 ∧ C53_0 s j0_2 v9 ∧ Bx σ s i7 41 (Flow.cl y18) ∧ eP e 0 j0 ∧ eB e 5 v6 ∧ eP e 7 i7 ∧ eB e 9 (Option.isSome (Mp.get v9 y18.name)) ∧ eS e 12 Flow.cl a1 ∧ eL e 13 a1 ∧ eI e 14 v7 ∧ j0 ≠ i7 ∧ Fr σ τ [j0, j0_2] ∧ Pre τ s) ?_ ?_)
    ·have R21 : Option.getD (Option.map qD (Mp.get v9 y18.name)) (.ag [(.v (.int .i64 (0 : Int))), (.v (.int .i64 (0 : Int)))]) = (.ag [(.v (.int .i64 ((Option.getD (Mp.get v9 y18.name) (Clock.mk (0 : Int) (0 : Int))).period))), (.v (.int .i64 ((Option.getD (Mp.get v9 y18.name) (Clock.mk (0 : Int) (0 : Int))).phase)))]) := by cases Mp.get v9 y18.name <;> rfl
     have q2 := X0.app [some (AObj.box 43 [(.v (.int .i64 ((Option.getD (Mp.get v9 y18.name) (Clock.mk (0 : Int) (0 : Int))).period))), (.v (.int .i64 ((Option.getD (Mp.get v9 y18.name) (Clock.mk (0 : Int) (0 : Int))).phase)))])];have q3 := X7.app [some (AObj.box 43 [(.v (.int .i64 ((Option.getD (Mp.get v9 y18.name) (Clock.mk (0 : Int) (0 : Int))).period))), (.v (.int .i64 ((Option.getD (Mp.get v9 y18.name) (Clock.mk (0 : Int) (0 : Int))).phase)))])];have q4 := X0_2.app [some (AObj.box 43 [(.v (.int .i64 ((Option.getD (Mp.get v9 y18.name) (Clock.mk (0 : Int) (0 : Int))).period))), (.v (.int .i64 ((Option.getD (Mp.get v9 y18.name) (Clock.mk (0 : Int) (0 : Int))).phase)))])];have q5 := Bx.atf hF hP (l := [some (AObj.box 43 [(.v (.int .i64 ((Option.getD (Mp.get v9 y18.name) (Clock.mk (0 : Int) (0 : Int))).period))), (.v (.int .i64 ((Option.getD (Mp.get v9 y18.name) (Clock.mk (0 : Int) (0 : Int))).phase)))])]) (j := 0) (t := 43) (c := [(.v (.int .i64 ((Option.getD (Mp.get v9 y18.name) (Clock.mk (0 : Int) (0 : Int))).period))), (.v (.int .i64 ((Option.getD (Mp.get v9 y18.name) (Clock.mk (0 : Int) (0 : Int))).phase)))]) rfl;have q6 := YH E0 E7 X0.g3 X0_2.g3 X7.g3 R21 q2.get q4.get q3.get q5.get TT;refine zn 12 1 q6 ?_;refine za q6 ?_;exact qe ⟨τ, q2, q4, q3, E0, E5, E7, (xv q6), E12, E13, E14, N0__7, hF, (hP.app _)⟩
    rintro e s ⟨τ, X0, X0_2, X7, E0, E5, E7, E9, E12, E13, E14, N0__7, hF, hP⟩
    refine ql (qk (fun e s => ∃ τ : Store, C53_1 s j0 v8 j0_2 ∧ C53_0 s j0_2 v9 ∧ Bx σ s i7 41 (Flow.cl y18) ∧ eP e 0 j0 ∧ eB e 5 v6 ∧ eP e 7 i7 ∧ eS e 12 Flow.cl a1 ∧ eL e 13 a1 ∧ eI e 14 v7 ∧ eB e 36 ((Option.isSome (Mp.get v9 y18.name)) || (!decide (v8.finder.e = (0 : Int)))) ∧ j0 ≠ i7 ∧ Fr σ τ [j0, j0_2] ∧ Pre τ s) ?_ ?_)
    ·cases hb22 : (Option.isSome (Mp.get v9 y18.name))
     ·have q7 := cj6 E0 E9 X0.get X0_2.get hb22 TT;refine w_x q7 ?_;exact qe ⟨τ, X0, X0_2, X7, E0, E5, E7, E12, E13, E14, (xv q7), N0__7, hF, hP⟩
     ·have q8 := cj6 E0 E9 X0.get X0_2.get hb22 TT;refine w_x q8 ?_;exact qe ⟨τ, X0, X0_2, X7, E0, E5, E7, E12, E13, E14, (xv q8), N0__7, hF, hP⟩
    rintro e s ⟨τ, X0, X0_2, X7, E0, E5, E7, E12, E13, E14, E36, N0__7, hF, hP⟩
    refine qd ?_;rcases qi h14 with ⟨hb23, h14⟩ | ⟨hb23, h14⟩
    ·refine xt (cj2 E36 hb23) (qE (qM (qK ?_)));obtain rfl := qa h14;exact qe ⟨_, _, _, τ, rfl, X0, X0_2, E0, E5, E12, E13, E14, hF, hP⟩
    ·refine xf (cj2 E36 hb23) (qm (qf ?_));obtain ⟨y24, h25, h14⟩ := qb h14;refine qk (fun e s => ∃ i10 : Nat, ∃ τ : Store, Gx s j0 (AObj.box 123 [(.v (.int .i64 y24.2.finder.at_)), (.v (.int .i64 y24.2.finder.e)), (.mp j0_2)]) ∧ Gx s j0_2 (AObj.map .s (mpF qD (Mp.get y24.2.known)) (Mp.n y24.2.known)) ∧ Bx σ s i10 43 (Clock.cl y24.1.1) ∧ Bx σ s i7 41 (Flow.cl y18) ∧ eP e 0 j0 ∧ eB e 5 v6 ∧ eP e 7 i7 ∧ eP e 10 i10 ∧ eB e 11 y24.1.2 ∧ eS e 12 Flow.cl a1 ∧ eL e 13 a1 ∧ eI e 14 v7 ∧ j0 ≠ i10 ∧ j0 ≠ i7 ∧ Fr σ τ [j0, j0_2] ∧ Pre τ s) ?_ ?_
     ·have q9 := Gx.ap X0 X0_2;have q10 := Gx.ap X0_2 X0;have q11 := Gx.ap X0_2 X7.gx;have q12 := Gx.same X0 (AObj.box 123 [(.v (.int .i64 y24.2.finder.at_)), (.v (.int .i64 y24.2.finder.e)), (.mp j0_2)]);have q13 := X0_2.ne q9 (some (AObj.box 123 [(.v (.int .i64 y24.2.finder.at_)), (.v (.int .i64 y24.2.finder.e)), (.mp j0_2)]));have q14 := X7.ne N0__7 (some (AObj.box 123 [(.v (.int .i64 y24.2.finder.at_)), (.v (.int .i64 y24.2.finder.e)), (.mp j0_2)]));have q15 := Gx.same q13 (AObj.map .s (mpF qD (Mp.get y24.2.known)) (Mp.n y24.2.known));have q16 := Jn E0 E7 X0.g3 X0_2.g3 X7.g3 q12.get q13.get q14.get (q12.ne q10 (some (AObj.map .s (mpF qD (Mp.get y24.2.known)) (Mp.n y24.2.known)))).get q15.get (q14.ne q11 (some (AObj.map .s (mpF qD (Mp.get y24.2.known)) (Mp.n y24.2.known)))).get TT;refine w_x q16 ?_;refine S0 _ _ _ h25 _ _ _ _ X0 X0_2 ?_;refine w_y q16 ?_;exact qe ⟨(List.set (List.set s j0 (some (AObj.box 123 [(.v (.int .i64 y24.2.finder.at_)), (.v (.int .i64 y24.2.finder.e)), (.mp j0_2)]))) j0_2 (some (AObj.map .s (mpF qD (Mp.get y24.2.known)) (Mp.n y24.2.known)))).length, (List.set (List.set τ j0 (some (AObj.box 123 [(.v (.int .i64 y24.2.finder.at_)), (.v (.int .i64 y24.2.finder.e)), (.mp j0_2)]))) j0_2 (some (AObj.map .s (mpF qD (Mp.get y24.2.known)) (Mp.n y24.2.known)))), ((q12.ne q10 _).app _), (q15.app _), (Bx.newf ((hF.set (by simp) (some (AObj.box 123 [(.v (.int .i64 y24.2.finder.at_)), (.v (.int .i64 y24.2.finder.e)), (.mp j0_2)]))).set (by simp) (some (AObj.map .s (mpF qD (Mp.get y24.2.known)) (Mp.n y24.2.known)))) ((hP.setp (hF.lt jl0) (some (AObj.box 123 [(.v (.int .i64 y24.2.finder.at_)), (.v (.int .i64 y24.2.finder.e)), (.mp j0_2)]))).setp ((hF.set (by simp) (some (AObj.box 123 [(.v (.int .i64 y24.2.finder.at_)), (.v (.int .i64 y24.2.finder.e)), (.mp j0_2)]))).lt jl0_2) (some (AObj.map .s (mpF qD (Mp.get y24.2.known)) (Mp.n y24.2.known)))) 43 (Clock.cl y24.1.1)), ((q14.ne q11 _).app _), E0, E5, E7, (xv q16), (xv q16), E12, E13, E14, (Nat.ne_of_lt (q12.ne q10 (some (AObj.map .s (mpF qD (Mp.get y24.2.known)) (Mp.n y24.2.known)))).lt), N0__7, ((hF.set (by simp) (some (AObj.box 123 [(.v (.int .i64 y24.2.finder.at_)), (.v (.int .i64 y24.2.finder.e)), (.mp j0_2)]))).set (by simp) (some (AObj.map .s (mpF qD (Mp.get y24.2.known)) (Mp.n y24.2.known)))), (((hP.setp (hF.lt jl0) (some (AObj.box 123 [(.v (.int .i64 y24.2.finder.at_)), (.v (.int .i64 y24.2.finder.e)), (.mp j0_2)]))).setp ((hF.set (by simp) (some (AObj.box 123 [(.v (.int .i64 y24.2.finder.at_)), (.v (.int .i64 y24.2.finder.e)), (.mp j0_2)]))).lt jl0_2) (some (AObj.map .s (mpF qD (Mp.get y24.2.known)) (Mp.n y24.2.known)))).app _)⟩
     rintro e s ⟨i10, τ, X0, X0_2, X10, X7, E0, E5, E7, E10, E11, E12, E13, E14, N0__10, N0__7, hF, hP⟩
     refine qd (w_x (cj2 E11 TT) ?_);refine qf ?_;obtain ⟨x26, h27, h14⟩ := qb h14;refine zE (fun e s => ∃ v28 v29 v30, ∃ τ : Store, (v28, v29, v30) = x26 ∧ C53_1 s j0 v29 j0_2 ∧ C53_0 s j0_2 v30 ∧ eP e 0 j0 ∧ eB e 5 v28 ∧ eS e 12 Flow.cl a1 ∧ eL e 13 a1 ∧ eI e 14 v7 ∧ Fr σ τ [j0, j0_2] ∧ Pre τ s) ?_ ?_
     ·rcases qi h27 with ⟨hb31, h27⟩ | ⟨hb31, h27⟩
      ·refine xt hb31 ?_;obtain ⟨y32, h33, h27⟩ := qb h27;refine qk (fun e s => ∃ τ : Store, Gx s j0 (AObj.box 123 [(.v (.int .i64 y24.2.finder.at_)), (.v (.int .i64 y24.2.finder.e)), (.mp j0_2)]) ∧ C53_0 s j0_2 y32 ∧ eP e 0 j0 ∧ eS e 12 Flow.cl a1 ∧ eL e 13 a1 ∧ eI e 14 v7 ∧ Fr σ τ [j0, j0_2] ∧ Pre τ s) ?_ ?_
       ·have q17 := Gx.same X0_2 (AObj.map .s (upm (mpF qD (Mp.get y24.2.known)) (.string y18.name) (.ag (Clock.cl y24.1.1))) (Mp.n y24.2.known + 1));have q18 := Gx.cast q17 (qqF (f := qD) h33);have q19 := cj13 E0 E7 E10 X0.get X0_2.get X10.get X7.get (JE h33).1 (X0.nea (Gx.ap X0_2 X0)) q18.get (X10.nea (Gx.ap X0_2 X10.gx)) (X7.nea (Gx.ap X0_2 X7.gx)) TT;refine zn 7 0 q19 ?_;refine za q19 ?_;exact qe ⟨(List.set τ j0_2 (some (AObj.map .s (upm (mpF qD (Mp.get y24.2.known)) (.string y18.name) (.ag (Clock.cl y24.1.1))) (Mp.n y24.2.known + 1)))), (X0.ne (Gx.ap X0_2 X0) _), q18, E0, E12, E13, E14, (hF.set (by simp) (some (AObj.map .s (upm (mpF qD (Mp.get y24.2.known)) (.string y18.name) (.ag (Clock.cl y24.1.1))) (Mp.n y24.2.known + 1)))), (hP.setp (hF.lt jl0_2) (some (AObj.map .s (upm (mpF qD (Mp.get y24.2.known)) (.string y18.name) (.ag (Clock.cl y24.1.1))) (Mp.n y24.2.known + 1))))⟩
       rintro e s ⟨τ, X0, X0_2, E0, E12, E13, E14, hF, hP⟩
       refine w_x Expr.rlen ?_;obtain rfl := qa h27;exact qS ⟨_, _, _, τ, rfl, X0, X0_2, E0, (xv Expr.rlen), E12, E13, E14, hF, hP⟩
      ·refine xf hb31 (qm ?_);obtain rfl := qa h27;exact qS ⟨_, _, _, τ, rfl, X0, X0_2, E0, E5, E12, E13, E14, hF, hP⟩
     rintro e s ⟨v28, v29, v30, τ, rfl, X0, X0_2, E0, E5, E12, E13, E14, hF, hP⟩
     (try dsimp only at h14);refine qQ ?_;obtain rfl := qa h14;exact qe ⟨_, _, _, τ, rfl, X0, X0_2, E0, E5, E12, E13, E14, hF, hP⟩
   rintro e s ⟨v15, v16, v17, τ, rfl, X0, X0_2, E0, E5, E12, E13, E14, hF, hP⟩
   (try dsimp only at hf11);refine w_x (cj2 E14 TT) ?_;obtain rfl := qa hf11;exact qZ rfl ⟨_, _, _, _, τ, rfl, X0, X0_2, E0, E5, E12, E13, (xv (cj2 E14 TT)), hF, hP⟩
  ·refine xf hb12 (qE (qM ?_));obtain rfl := qa hf11;refine qY rfl fun hr34 => ?_;obtain rfl := hr34;exact qK (qe ⟨_, _, _, τ, rfl, X0, X0_2, E5, hF, hP⟩)
 rintro e s ⟨v3, v4, v5, τ, rfl, X0, X0_2, E5, hF, hP⟩
 (try dsimp only at h);refine qd (w_x (cj2 E5 TT) ?_);refine qf (qp ?_);obtain rfl := qa h;have hn35 : (List.map (·.1) ([(j0, (AObj.box 123 [(.v (.int .i64 v4.finder.at_)), (.v (.int .i64 v4.finder.e)), (.mp j0_2)])), (j0_2, (AObj.map .s (mpF qD (Mp.get v5)) (Mp.n v5)))] : List (Nat × AObj))).Nodup := (List.nodup_cons.2 ⟨(by simp only [List.map_cons, List.map_nil, List.mem_cons, List.not_mem_nil, or_false, not_or]; exact (Gx.ap X0 X0_2)), (List.nodup_cons.2 ⟨(fun h => by simp at h), List.nodup_nil⟩)⟩);have he36 := Fr.eq hF hn35 (List.forall_mem_cons.2 ⟨⟨jl0, (Gx.back X0 hP (hF.lt jl0))⟩, (List.forall_mem_cons.2 ⟨⟨jl0_2, (Gx.back X0_2 hP (hF.lt jl0_2))⟩, (fun x hx => absurd hx (by simp))⟩)⟩);exact ZV (fun _ => rfl) (xr (rs := #[.tmp 4]) TT) ⟨_, hn35, (List.forall_mem_cons.2 ⟨⟨jl0, (ClO.bx (ClL.cons (Cn.cl (.v _) _) (ClL.cons (Cn.cl (.v _) _) (ClL.cons (Cl.mp jl0_2) ClL.nil))))⟩, (List.forall_mem_cons.2 ⟨⟨jl0_2, ((CnO.mp (fun _ => (.ag (CnL.cons (.v _) (CnL.cons (.v _) CnL.nil)))) _ _).cl _)⟩, (fun x hx => absurd hx (by simp))⟩)⟩), he36 ▸ hP, _, (.refl _), (.v _), hK⟩
noncomputable def Qd (a1 : Expr) (f0 : qc → Expr → Option (Unit × qc)) : (Int × qc × (Mp Clock)) → Option ((Int × qc × (Mp Clock)) ⊕ (qc × (Mp Clock)))
 | (v46, v47, v48) =>
  if (decide (v46 < ((List.length a1.args : Nat) : Int))) then
   ((qC a1.args v46).bind fun y56 =>
   (f0 (qc.mk v47.finder v48) y56).bind fun y59 =>
   some ((qc.mk y59.2.finder y59.2.known), y59.2.known) : Option (qc × (Mp Clock))).bind fun (v54, v55) =>
   some (.inl ((IntKind.i64.wrap (v46 + (1 : Int))), (qc.mk v54.finder v55), v55))
  else
   some (.inr ((qc.mk v47.finder v48), v48))
noncomputable def zI (y11 : (List Expr)) (y8 : ((Clock × Bool) × qc)) (a1 : Expr) (f2 : qc → Int → Int → Option (Unit × qc)) (f1 : qc → Expr → Option ((Clock × Bool) × qc)) : (Int × qc × (Mp Clock)) → Option ((Int × qc × (Mp Clock)) ⊕ (qc × (Mp Clock)))
 | (v18, v19, v20) =>
  if (decide (v18 < ((List.length y11 : Nat) : Int))) then
   ((qC y11 v18).bind fun y28 =>
   (f1 (qc.mk v19.finder v20) y28).bind fun y31 =>
   (if (y31.1.2 && (!(decide (y31.1.1.period = y8.1.1.period) && (decide (y31.1.1.phase = y8.1.1.phase))))) then
    (f2 (qc.mk y31.2.finder y31.2.known) a1.at_ (5 : Int)).bind fun y39 =>
    some ((qc.mk y39.2.finder y39.2.known), y39.2.known)
   else
    some ((qc.mk y31.2.finder y31.2.known), y31.2.known) : Option (qc × (Mp Clock))).bind fun (v36, v37) =>
   some ((qc.mk v36.finder v37), v37) : Option (qc × (Mp Clock))).bind fun (v26, v27) =>
   some (.inl ((IntKind.i64.wrap (v18 + (1 : Int))), (qc.mk v26.finder v27), v27))
  else
   some (.inr ((qc.mk v19.finder v20), v20))
noncomputable def B_check_solver_calls (f0 : qc → Expr → Option (Unit × qc)) (f1 : qc → Expr → Option ((Clock × Bool) × qc)) (f2 : qc → Int → Int → Option (Unit × qc)) (a0 : qc) (a1 : Expr) : Option (Unit × qc) :=
 (if (decide (a1.kind = (2 : Int))) then
  (qC a1.args (0 : Int)).bind fun y6 =>
  (f1 (qc.mk a0.finder a0.known) y6).bind fun y8 =>
  (subL a1.args (1 : Int) ((List.length a1.args : Nat) : Int)).bind fun y11 =>
  (qy (zI y11 y8 a1 f2 f1) ((0 : Int), (qc.mk y8.2.finder y8.2.known), y8.2.known) : Option (qc × (Mp Clock))).bind fun (v16, v17) =>
  some ((qc.mk v16.finder v17), v17)
 else
  some ((qc.mk a0.finder a0.known), a0.known) : Option (qc × (Mp Clock))).bind fun (v3, v4) =>
 (qy (Qd a1 f0) ((0 : Int), (qc.mk v3.finder v4), v4) : Option (qc × (Mp Clock))).bind fun (v44, v45) =>
 some ((), (qc.mk v44.finder v45))
abbrev qr : Clock → PV := fun v : Clock => (PV.ag [(.v (.int .i64 v.period)), (.v (.int .i64 v.phase))])
abbrev C54_0 (z0 : Store) (z1 : Nat) (z2 : (Mp Clock)) : Prop := Gx z0 z1 (AObj.map .s (mpF (fun v : Clock => (PV.ag [(.v (.int .i64 v.period)), (.v (.int .i64 v.phase))])) (Mp.get z2)) (Mp.n z2))
abbrev C54_1 (z0 : Store) (z1 : Nat) (z2 : qc) (z3 : Nat) : Prop := Gx z0 z1 (AObj.box 123 [(.v (.int .i64 z2.finder.at_)), (.v (.int .i64 z2.finder.e)), (.mp z3)])
abbrev C54_2 (z0 : Store) (z1 : Nat) (z2 : ((Clock × Bool) × qc)) : Prop := Gx z0 z1 (AObj.map .s (mpF (fun v : Clock => (PV.ag [(.v (.int .i64 v.period)), (.v (.int .i64 v.phase))])) (Mp.get z2.2.known)) (Mp.n z2.2.known))
abbrev C54_3 (z0 : Store) (z1 : Nat) (z2 : ((Clock × Bool) × qc)) (z3 : Nat) : Prop := Gx z0 z1 (AObj.box 123 [(.v (.int .i64 z2.2.finder.at_)), (.v (.int .i64 z2.2.finder.e)), (.mp z3)])
theorem W_check_solver_calls (f0 f1 f2) (S0 : Sat_check_solver_calls f0) (S1 : Sat_check_solver_of f1) (S2 : Sat_check_finder_fail_in_check_solver f2) : Sat_check_solver_calls (B_check_solver_calls f0 f1 f2) := by
 intro a0 a1 r h σ K j0 j0_2 H0 H0_2 hK;refine w_fq (Q := fun r s => ∃ l : List (Nat × AObj), (l.map (·.1)).Nodup ∧ (∀ x ∈ l, x.1 < σ.length ∧ ClO σ.length x.2) ∧ Pq σ l K r s) Try.func54 rfl rfl (by kernel_rfl) (fun _ _ h => h) ?_;unfold B_check_solver_calls at h;have hP := Pre.refl σ;have jl0 := H0.lt;have jl0_2 := H0_2.lt;have hF := Fr.refl σ [j0, j0_2];have E0 : qz [(.pt j0 0), (.ag (Expr.cl a1))] 0 = (.pt j0 0) := rfl;have E1 : qz [(.pt j0 0), (.ag (Expr.cl a1))] 1 = (.ag (Expr.cl a1)) := rfl;have TT := Yl Clock.cle Expr.cle Expr.rlen T_106 T_120 T_121 T_123 T_2 T_3 T_30 T_37 T_39 T_43 T_9;refine qk (fun e s => ∃ i3 : Nat, ∃ τ : Store, C54_1 s j0 a0 j0_2 ∧ Gx s j0_2 (AObj.map .s (mpF qr (Mp.get a0.known)) (Mp.n a0.known)) ∧ Bx σ s i3 39 (Expr.cl a1) ∧ eP e 0 j0 ∧ eP e 3 i3 ∧ j0 ≠ i3 ∧ Fr σ τ [j0, j0_2] ∧ Pre τ s) ?_ ?_
 ·refine w_x (cj4 E1 H0.g3 H0_2.g3 TT) ?_;exact qe ⟨σ.length, σ, (H0.app [some (AObj.box 39 (Expr.cl a1))]), (H0_2.app [some (AObj.box 39 (Expr.cl a1))]), (Bx.newf hF hP 39 (Expr.cl a1)), E0, (xv (cj4 E1 H0.g3 H0_2.g3 TT)), (Nat.ne_of_lt H0.lt), hF, (hP.app _)⟩
 rintro e s ⟨i3, τ, X0, X0_2, X3, E0, E3, N0__3, hF, hP⟩
 refine ql (qd (w_x (cj3 E3 X3.get TT) ?_));refine qf ?_;obtain ⟨x1, h2, h⟩ := qb h;refine qk (fun e s => ∃ v3 v4, ∃ τ : Store, (v3, v4) = x1 ∧ C54_1 s j0 v3 j0_2 ∧ C54_0 s j0_2 v4 ∧ Bx σ s i3 39 (Expr.cl a1) ∧ eP e 0 j0 ∧ eP e 3 i3 ∧ j0 ≠ i3 ∧ Fr σ τ [j0, j0_2] ∧ Pre τ s) ?_ ?_
 ·rcases qi h2 with ⟨hb5, h2⟩ | ⟨hb5, h2⟩
  ·refine xt hb5 ?_;obtain ⟨y6, h7, h2⟩ := qb h2;obtain ⟨y8, h9, h2⟩ := qb h2;refine qk (fun e s => ∃ i4 : Nat, ∃ τ : Store, C54_3 s j0 y8 j0_2 ∧ C54_2 s j0_2 y8 ∧ Bx σ s i3 39 (Expr.cl a1) ∧ Bx σ s i4 43 (Clock.cl y8.1.1) ∧ eP e 0 j0 ∧ eP e 3 i3 ∧ eP e 4 i4 ∧ j0 ≠ i3 ∧ j0 ≠ i4 ∧ Fr σ τ [j0, j0_2] ∧ Pre τ s) ?_ ?_
   ·have R10 : (Expr.rows a1.args)[((0 : Int)).toNat]? = some (Expr.cl y6) := Expr.rget (qg h7).2;have q1 := Gx.ap X0_2 X0;have q2 := Gx.ap X0 X0_2;have q3 := Gx.ap X0_2 X3.gx;have q4 := Gx.same X0 (AObj.box 123 [(.v (.int .i64 y8.2.finder.at_)), (.v (.int .i64 y8.2.finder.e)), (.mp j0_2)]);have q5 := X0_2.ne q2 (some (AObj.box 123 [(.v (.int .i64 y8.2.finder.at_)), (.v (.int .i64 y8.2.finder.e)), (.mp j0_2)]));have q6 := X3.ne N0__3 (some (AObj.box 123 [(.v (.int .i64 y8.2.finder.at_)), (.v (.int .i64 y8.2.finder.e)), (.mp j0_2)]));have q7 := Gx.same q5 (AObj.map .s (mpF qr (Mp.get y8.2.known)) (Mp.n y8.2.known));have q8 := Yl E0 E3 X0.g3 X0_2.g3 X3.g3 R10 (qg h7).1 q4.get q5.get q6.get (q4.ne q1 (some (AObj.map .s (mpF qr (Mp.get y8.2.known)) (Mp.n y8.2.known)))).get q7.get (q6.ne q3 (some (AObj.map .s (mpF qr (Mp.get y8.2.known)) (Mp.n y8.2.known)))).get TT;refine w_x q8 ?_;refine S1 _ _ _ h9 _ _ _ _ X0 X0_2 ?_;refine w_y q8 ?_;exact qe ⟨(List.set (List.set s j0 (some (AObj.box 123 [(.v (.int .i64 y8.2.finder.at_)), (.v (.int .i64 y8.2.finder.e)), (.mp j0_2)]))) j0_2 (some (AObj.map .s (mpF qr (Mp.get y8.2.known)) (Mp.n y8.2.known)))).length, (List.set (List.set τ j0 (some (AObj.box 123 [(.v (.int .i64 y8.2.finder.at_)), (.v (.int .i64 y8.2.finder.e)), (.mp j0_2)]))) j0_2 (some (AObj.map .s (mpF qr (Mp.get y8.2.known)) (Mp.n y8.2.known)))), ((q4.ne q1 _).app _), (q7.app _), ((q6.ne q3 _).app _), (Bx.newf ((hF.set (by simp) (some (AObj.box 123 [(.v (.int .i64 y8.2.finder.at_)), (.v (.int .i64 y8.2.finder.e)), (.mp j0_2)]))).set (by simp) (some (AObj.map .s (mpF qr (Mp.get y8.2.known)) (Mp.n y8.2.known)))) ((hP.setp (hF.lt jl0) (some (AObj.box 123 [(.v (.int .i64 y8.2.finder.at_)), (.v (.int .i64 y8.2.finder.e)), (.mp j0_2)]))).setp ((hF.set (by simp) (some (AObj.box 123 [(.v (.int .i64 y8.2.finder.at_)), (.v (.int .i64 y8.2.finder.e)), (.mp j0_2)]))).lt jl0_2) (some (AObj.map .s (mpF qr (Mp.get y8.2.known)) (Mp.n y8.2.known)))) 43 (Clock.cl y8.1.1)), E0, E3, (xv q8), N0__3, (Nat.ne_of_lt (q4.ne q1 (some (AObj.map .s (mpF qr (Mp.get y8.2.known)) (Mp.n y8.2.known)))).lt), ((hF.set (by simp) (some (AObj.box 123 [(.v (.int .i64 y8.2.finder.at_)), (.v (.int .i64 y8.2.finder.e)), (.mp j0_2)]))).set (by simp) (some (AObj.map .s (mpF qr (Mp.get y8.2.known)) (Mp.n y8.2.known)))), (((hP.setp (hF.lt jl0) (some (AObj.box 123 [(.v (.int .i64 y8.2.finder.at_)), (.v (.int .i64 y8.2.finder.e)), (.mp j0_2)]))).setp ((hF.set (by simp) (some (AObj.box 123 [(.v (.int .i64 y8.2.finder.at_)), (.v (.int .i64 y8.2.finder.e)), (.mp j0_2)]))).lt jl0_2) (some (AObj.map .s (mpF qr (Mp.get y8.2.known)) (Mp.n y8.2.known)))).app _)⟩
   rintro e s ⟨i4, τ, X0, X0_2, X3, X4, E0, E3, E4, N0__3, N0__4, hF, hP⟩
   refine qd ?_;obtain ⟨y11, h12, h2⟩ := qb h2;have R13 : List.drop ((1 : Int)).toNat (List.take (((List.length a1.args : Nat) : Int)).toNat (Expr.rows a1.args)) = Expr.rows y11 := by rw [← (subL_some h12).2, Expr.rows_eq, Expr.rows_eq, List.map_drop, List.map_take]
   refine w_x (cj6 E3 X3.get (subL_some h12).1 R13 (eq_true (Expr.rall a1.args)) TT) ?_;refine qf ?_;obtain ⟨x14, h15, h2⟩ := qb h2;refine zE (fun e s => ∃ v16 v17, ∃ τ : Store, (v16, v17) = x14 ∧ C54_1 s j0 v16 j0_2 ∧ C54_0 s j0_2 v17 ∧ Bx σ s i3 39 (Expr.cl a1) ∧ eP e 0 j0 ∧ eP e 3 i3 ∧ j0 ≠ i3 ∧ Fr σ τ [j0, j0_2] ∧ Pre τ s) ?_ ?_
   ·refine qn (qH h15 (fun v e s => ∃ v18 v19 v20, ∃ τ : Store, (v18, v19, v20) = v ∧ C54_1 s j0 v19 j0_2 ∧ C54_0 s j0_2 v20 ∧ Bx σ s i3 39 (Expr.cl a1) ∧ Bx σ s i4 43 (Clock.cl y8.1.1) ∧ eP e 0 j0 ∧ eP e 3 i3 ∧ eP e 4 i4 ∧ e 26 = (.sl (Expr.rows y11)) ∧ eL e 27 y11 ∧ eI e 28 v18 ∧ j0 ≠ i3 ∧ j0 ≠ i4 ∧ Fr σ τ [j0, j0_2] ∧ Pre τ s) ⟨_, WkE.refl _, _, _, _, τ, rfl, X0, X0_2, X3, X4, E0, E3, E4, (xv TT), (xv TT), (xv TT), N0__3, N0__4, hF, hP⟩ ?_)
    rintro v x21 e s hf22 ⟨v18, v19, v20, τ, rfl, X0, X0_2, X3, X4, E0, E3, E4, E26, E27, E28, N0__3, N0__4, hF, hP⟩
    unfold zI at hf22;(try dsimp only at hf22);refine qd (w_x (cj3 E27 E28 TT) ?_);refine qf (qd ?_);rcases qi hf22 with ⟨hb23, hf22⟩ | ⟨hb23, hf22⟩
    ·refine xt hb23 (qm (qf ?_));obtain ⟨x24, h25, hf22⟩ := qb hf22;refine qk (fun e s => ∃ v26 v27, ∃ τ : Store, (v26, v27) = x24 ∧ C54_1 s j0 v26 j0_2 ∧ C54_0 s j0_2 v27 ∧ Bx σ s i3 39 (Expr.cl a1) ∧ Bx σ s i4 43 (Clock.cl y8.1.1) ∧ eP e 0 j0 ∧ eP e 3 i3 ∧ eP e 4 i4 ∧ e 26 = (.sl (Expr.rows y11)) ∧ eL e 27 y11 ∧ eI e 28 v18 ∧ j0 ≠ i3 ∧ j0 ≠ i4 ∧ Fr σ τ [j0, j0_2] ∧ Pre τ s) ?_ ?_
     ·refine qn ?_;obtain ⟨y28, h29, h25⟩ := qb h25;refine qk (fun e s => ∃ i7 : Nat, ∃ τ : Store, C54_1 s j0 v19 j0_2 ∧ C54_0 s j0_2 v20 ∧ Bx σ s i3 39 (Expr.cl a1) ∧ Bx σ s i4 43 (Clock.cl y8.1.1) ∧ Bx σ s i7 39 (Expr.cl y28) ∧ eP e 0 j0 ∧ eP e 3 i3 ∧ eP e 4 i4 ∧ eP e 7 i7 ∧ e 26 = (.sl (Expr.rows y11)) ∧ eL e 27 y11 ∧ eI e 28 v18 ∧ j0 ≠ i3 ∧ j0 ≠ i4 ∧ j0 ≠ i7 ∧ Fr σ τ [j0, j0_2] ∧ Pre τ s) ?_ ?_
      ·have R30 : (Expr.rows y11)[(v18).toNat]? = some (Expr.cl y28) := Expr.rget (qg h29).2;have q9 := cj5 E26 E28 R30 (qg h29).1 TT;refine w_x q9 ?_;exact qe ⟨s.length, τ, (X0.app _), (X0_2.app _), (X3.app _), (X4.app _), (Bx.newf hF hP 39 (Expr.cl y28)), E0, E3, E4, (xv q9), E26, E27, E28, N0__3, N0__4, (Nat.ne_of_lt X0.lt), hF, (hP.app _)⟩
      rintro e s ⟨i7, τ, X0, X0_2, X3, X4, X7, E0, E3, E4, E7, E26, E27, E28, N0__3, N0__4, N0__7, hF, hP⟩
      obtain ⟨y31, h32, h25⟩ := qb h25;refine qk (fun e s => ∃ i8 : Nat, ∃ τ : Store, C54_3 s j0 y31 j0_2 ∧ C54_2 s j0_2 y31 ∧ Bx σ s i3 39 (Expr.cl a1) ∧ Bx σ s i4 43 (Clock.cl y8.1.1) ∧ Bx σ s i8 43 (Clock.cl y31.1.1) ∧ eP e 0 j0 ∧ eP e 3 i3 ∧ eP e 4 i4 ∧ eP e 8 i8 ∧ eB e 9 y31.1.2 ∧ e 26 = (.sl (Expr.rows y11)) ∧ eL e 27 y11 ∧ eI e 28 v18 ∧ j0 ≠ i3 ∧ j0 ≠ i4 ∧ j0 ≠ i8 ∧ Fr σ τ [j0, j0_2] ∧ Pre τ s) ?_ ?_
      ·have q10 := Gx.ap X0_2 X0;have q11 := Gx.ap X0 X0_2;have q12 := Gx.ap X0_2 X7.gx;have q13 := Gx.same X0 (AObj.box 123 [(.v (.int .i64 y31.2.finder.at_)), (.v (.int .i64 y31.2.finder.e)), (.mp j0_2)]);have q14 := X7.ne N0__7 (some (AObj.box 123 [(.v (.int .i64 y31.2.finder.at_)), (.v (.int .i64 y31.2.finder.e)), (.mp j0_2)]));have q15 := X0_2.ne q11 (some (AObj.box 123 [(.v (.int .i64 y31.2.finder.at_)), (.v (.int .i64 y31.2.finder.e)), (.mp j0_2)]));have q16 := Gx.same q15 (AObj.map .s (mpF qr (Mp.get y31.2.known)) (Mp.n y31.2.known));have q17 := Jn E0 E7 X0.g3 X0_2.g3 X7.g3 q13.get q15.get q14.get (q13.ne q10 (some (AObj.map .s (mpF qr (Mp.get y31.2.known)) (Mp.n y31.2.known)))).get q16.get (q14.ne q12 (some (AObj.map .s (mpF qr (Mp.get y31.2.known)) (Mp.n y31.2.known)))).get TT;refine w_x q17 ?_;refine S1 _ _ _ h32 _ _ _ _ X0 X0_2 ?_;refine w_y q17 ?_;exact qe ⟨(List.set (List.set s j0 (some (AObj.box 123 [(.v (.int .i64 y31.2.finder.at_)), (.v (.int .i64 y31.2.finder.e)), (.mp j0_2)]))) j0_2 (some (AObj.map .s (mpF qr (Mp.get y31.2.known)) (Mp.n y31.2.known)))).length, (List.set (List.set τ j0 (some (AObj.box 123 [(.v (.int .i64 y31.2.finder.at_)), (.v (.int .i64 y31.2.finder.e)), (.mp j0_2)]))) j0_2 (some (AObj.map .s (mpF qr (Mp.get y31.2.known)) (Mp.n y31.2.known)))), ((q13.ne q10 _).app _), (q16.app _), (((X3.ne N0__3 _).ne (Gx.ap X0_2 X3.gx) _).app _), (((X4.ne N0__4 _).ne (Gx.ap X0_2 X4.gx) _).app _), (Bx.newf ((hF.set (by simp) (some (AObj.box 123 [(.v (.int .i64 y31.2.finder.at_)), (.v (.int .i64 y31.2.finder.e)), (.mp j0_2)]))).set (by simp) (some (AObj.map .s (mpF qr (Mp.get y31.2.known)) (Mp.n y31.2.known)))) ((hP.setp (hF.lt jl0) (some (AObj.box 123 [(.v (.int .i64 y31.2.finder.at_)), (.v (.int .i64 y31.2.finder.e)), (.mp j0_2)]))).setp ((hF.set (by simp) (some (AObj.box 123 [(.v (.int .i64 y31.2.finder.at_)), (.v (.int .i64 y31.2.finder.e)), (.mp j0_2)]))).lt jl0_2) (some (AObj.map .s (mpF qr (Mp.get y31.2.known)) (Mp.n y31.2.known)))) 43 (Clock.cl y31.1.1)), E0, E3, E4, (xv q17), (xv q17), E26, E27, E28, N0__3, N0__4, (Nat.ne_of_lt (q13.ne q10 (some (AObj.map .s (mpF qr (Mp.get y31.2.known)) (Mp.n y31.2.known)))).lt), ((hF.set (by simp) (some (AObj.box 123 [(.v (.int .i64 y31.2.finder.at_)), (.v (.int .i64 y31.2.finder.e)), (.mp j0_2)]))).set (by simp) (some (AObj.map .s (mpF qr (Mp.get y31.2.known)) (Mp.n y31.2.known)))), (((hP.setp (hF.lt jl0) (some (AObj.box 123 [(.v (.int .i64 y31.2.finder.at_)), (.v (.int .i64 y31.2.finder.e)), (.mp j0_2)]))).setp ((hF.set (by simp) (some (AObj.box 123 [(.v (.int .i64 y31.2.finder.at_)), (.v (.int .i64 y31.2.finder.e)), (.mp j0_2)]))).lt jl0_2) (some (AObj.map .s (mpF qr (Mp.get y31.2.known)) (Mp.n y31.2.known)))).app _)⟩
      rintro e s ⟨i8, τ, X0, X0_2, X3, X4, X8, E0, E3, E4, E8, E9, E26, E27, E28, N0__3, N0__4, N0__8, hF, hP⟩
      refine qk (fun e s => ∃ τ : Store, C54_3 s j0 y31 j0_2 ∧ C54_2 s j0_2 y31 ∧ Bx σ s i3 39 (Expr.cl a1) ∧ Bx σ s i4 43 (Clock.cl y8.1.1) ∧ eP e 0 j0 ∧ eP e 3 i3 ∧ eP e 4 i4 ∧ e 26 = (.sl (Expr.rows y11)) ∧ eL e 27 y11 ∧ eI e 28 v18 ∧ eB e 43 (y31.1.2 && (!(decide (y31.1.1.period = y8.1.1.period) && (decide (y31.1.1.phase = y8.1.1.phase))))) ∧ j0 ≠ i3 ∧ j0 ≠ i4 ∧ Fr σ τ [j0, j0_2] ∧ Pre τ s) ?_ ?_
      ·cases hb33 : y31.1.2
       ·have q18 := cj7 E4 E8 E9 X4.get X8.get hb33 TT;refine w_x q18 ?_;exact qe ⟨τ, X0, X0_2, X3, X4, E0, E3, E4, E26, E27, E28, (xv q18), N0__3, N0__4, hF, hP⟩
       ·have q19 := cj7 E4 E8 E9 X4.get X8.get hb33 TT;refine w_x q19 ?_;exact qe ⟨τ, X0, X0_2, X3, X4, E0, E3, E4, E26, E27, E28, (xv q19), N0__3, N0__4, hF, hP⟩
      rintro e s ⟨τ, X0, X0_2, X3, X4, E0, E3, E4, E26, E27, E28, E43, N0__3, N0__4, hF, hP⟩
      obtain ⟨x34, h35, h25⟩ := qb h25;refine zE (fun e s => ∃ v36 v37, ∃ τ : Store, (v36, v37) = x34 ∧ C54_1 s j0 v36 j0_2 ∧ C54_0 s j0_2 v37 ∧ Bx σ s i3 39 (Expr.cl a1) ∧ Bx σ s i4 43 (Clock.cl y8.1.1) ∧ eP e 0 j0 ∧ eP e 3 i3 ∧ eP e 4 i4 ∧ e 26 = (.sl (Expr.rows y11)) ∧ eL e 27 y11 ∧ eI e 28 v18 ∧ j0 ≠ i3 ∧ j0 ≠ i4 ∧ Fr σ τ [j0, j0_2] ∧ Pre τ s) ?_ ?_
      ·rcases qi h35 with ⟨hb38, h35⟩ | ⟨hb38, h35⟩
       ·refine xt (cj2 E43 hb38) ?_;obtain ⟨y39, h40, h35⟩ := qb h35;have q20 := Gx.ap X0_2 X0;have q21 := Gx.ap X0 X0_2;have q22 := Gx.ap X0_2 X3.gx;have q23 := Gx.same X0 (AObj.box 123 [(.v (.int .i64 y39.2.finder.at_)), (.v (.int .i64 y39.2.finder.e)), (.mp j0_2)]);have q24 := X0_2.ne q21 (some (AObj.box 123 [(.v (.int .i64 y39.2.finder.at_)), (.v (.int .i64 y39.2.finder.e)), (.mp j0_2)]));have q25 := X3.ne N0__3 (some (AObj.box 123 [(.v (.int .i64 y39.2.finder.at_)), (.v (.int .i64 y39.2.finder.e)), (.mp j0_2)]));have q26 := Gx.same q24 (AObj.map .s (mpF qr (Mp.get y39.2.known)) (Mp.n y39.2.known));have q27 := Jn E0 E3 X0.get X0_2.get X3.get q23.get q24.get q25.get (q23.ne q20 (some (AObj.map .s (mpF qr (Mp.get y39.2.known)) (Mp.n y39.2.known)))).get q26.get (q25.ne q22 (some (AObj.map .s (mpF qr (Mp.get y39.2.known)) (Mp.n y39.2.known)))).get TT;refine zn 5 0 q27 ?_;refine za q27 ?_;refine S2 _ _ _ _ h40 _ _ _ _ X0 X0_2 ?_;refine w_y q27 ?_;obtain rfl := qa h35;exact qS ⟨_, _, (List.set (List.set τ j0 (some (AObj.box 123 [(.v (.int .i64 y39.2.finder.at_)), (.v (.int .i64 y39.2.finder.e)), (.mp j0_2)]))) j0_2 (some (AObj.map .s (mpF qr (Mp.get y39.2.known)) (Mp.n y39.2.known)))), rfl, (q23.ne q20 _), q26, (q25.ne q22 _), ((X4.ne N0__4 _).ne (Gx.ap X0_2 X4.gx) _), E0, E3, E4, E26, E27, E28, N0__3, N0__4, ((hF.set (by simp) (some (AObj.box 123 [(.v (.int .i64 y39.2.finder.at_)), (.v (.int .i64 y39.2.finder.e)), (.mp j0_2)]))).set (by simp) (some (AObj.map .s (mpF qr (Mp.get y39.2.known)) (Mp.n y39.2.known)))), ((hP.setp (hF.lt jl0) (some (AObj.box 123 [(.v (.int .i64 y39.2.finder.at_)), (.v (.int .i64 y39.2.finder.e)), (.mp j0_2)]))).setp ((hF.set (by simp) (some (AObj.box 123 [(.v (.int .i64 y39.2.finder.at_)), (.v (.int .i64 y39.2.finder.e)), (.mp j0_2)]))).lt jl0_2) (some (AObj.map .s (mpF qr (Mp.get y39.2.known)) (Mp.n y39.2.known))))⟩
       ·refine xf (cj2 E43 hb38) (qm ?_);obtain rfl := qa h35;exact qS ⟨_, _, τ, rfl, X0, X0_2, X3, X4, E0, E3, E4, E26, E27, E28, N0__3, N0__4, hF, hP⟩
      rintro e s ⟨v36, v37, τ, rfl, X0, X0_2, X3, X4, E0, E3, E4, E26, E27, E28, N0__3, N0__4, hF, hP⟩
      (try dsimp only at h25);refine qQ ?_;obtain rfl := qa h25;exact qe ⟨_, _, τ, rfl, X0, X0_2, X3, X4, E0, E3, E4, E26, E27, E28, N0__3, N0__4, hF, hP⟩
     rintro e s ⟨v26, v27, τ, rfl, X0, X0_2, X3, X4, E0, E3, E4, E26, E27, E28, N0__3, N0__4, hF, hP⟩
     (try dsimp only at hf22);refine w_x (cj2 E28 TT) ?_;obtain rfl := qa hf22;exact qZ rfl ⟨_, _, _, τ, rfl, X0, X0_2, X3, X4, E0, E3, E4, E26, E27, (xv (cj2 E28 TT)), N0__3, N0__4, hF, hP⟩
    ·refine xf hb23 (qE (qM ?_));obtain rfl := qa hf22;refine qY rfl fun hr41 => ?_;obtain rfl := hr41;exact qK (qS ⟨_, _, τ, rfl, X0, X0_2, X3, E0, E3, N0__3, hF, hP⟩)
   rintro e s ⟨v16, v17, τ, rfl, X0, X0_2, X3, E0, E3, N0__3, hF, hP⟩
   (try dsimp only at h2);obtain rfl := qa h2;exact qe ⟨_, _, τ, rfl, X0, X0_2, X3, E0, E3, N0__3, hF, hP⟩
  ·refine xf hb5 (qm ?_);obtain rfl := qa h2;exact qe ⟨_, _, τ, rfl, X0, X0_2, X3, E0, E3, N0__3, hF, hP⟩
 rintro e s ⟨v3, v4, τ, rfl, X0, X0_2, X3, E0, E3, N0__3, hF, hP⟩
 (try dsimp only at h);refine qd (w_x (cj3 E3 X3.get TT) ?_);refine qf ?_;obtain ⟨x42, h43, h⟩ := qb h;refine zE (fun e s => ∃ v44 v45, ∃ τ : Store, (v44, v45) = x42 ∧ C54_1 s j0 v44 j0_2 ∧ C54_0 s j0_2 v45 ∧ Fr σ τ [j0, j0_2] ∧ Pre τ s) ?_ ?_
 ·refine qn (qH h43 (fun v e s => ∃ v46 v47 v48, ∃ τ : Store, (v46, v47, v48) = v ∧ C54_1 s j0 v47 j0_2 ∧ C54_0 s j0_2 v48 ∧ eP e 0 j0 ∧ e 52 = (.sl (Expr.rows a1.args)) ∧ eL e 53 a1.args ∧ eI e 54 v46 ∧ Fr σ τ [j0, j0_2] ∧ Pre τ s) ⟨_, WkE.refl _, _, _, _, τ, rfl, X0, X0_2, E0, (xv TT), (xv TT), (xv TT), hF, hP⟩ ?_)
  rintro v x49 e s hf50 ⟨v46, v47, v48, τ, rfl, X0, X0_2, E0, E52, E53, E54, hF, hP⟩
  unfold Qd at hf50;(try dsimp only at hf50);refine qd (w_x (cj3 E53 E54 TT) ?_);refine qf (qd ?_);rcases qi hf50 with ⟨hb51, hf50⟩ | ⟨hb51, hf50⟩
  ·refine xt hb51 (qm (qf ?_));obtain ⟨x52, h53, hf50⟩ := qb hf50;refine qk (fun e s => ∃ v54 v55, ∃ τ : Store, (v54, v55) = x52 ∧ C54_1 s j0 v54 j0_2 ∧ C54_0 s j0_2 v55 ∧ eP e 0 j0 ∧ e 52 = (.sl (Expr.rows a1.args)) ∧ eL e 53 a1.args ∧ eI e 54 v46 ∧ Fr σ τ [j0, j0_2] ∧ Pre τ s) ?_ ?_
   ·refine qn ?_;obtain ⟨y56, h57, h53⟩ := qb h53;refine qk (fun e s => ∃ i11 : Nat, ∃ τ : Store, C54_1 s j0 v47 j0_2 ∧ C54_0 s j0_2 v48 ∧ Bx σ s i11 39 (Expr.cl y56) ∧ eP e 0 j0 ∧ eP e 11 i11 ∧ e 52 = (.sl (Expr.rows a1.args)) ∧ eL e 53 a1.args ∧ eI e 54 v46 ∧ j0 ≠ i11 ∧ Fr σ τ [j0, j0_2] ∧ Pre τ s) ?_ ?_
    ·have R58 : (Expr.rows a1.args)[(v46).toNat]? = some (Expr.cl y56) := Expr.rget (qg h57).2;have q28 := cj5 E52 E54 R58 (qg h57).1 TT;refine w_x q28 ?_;exact qe ⟨s.length, τ, (X0.app _), (X0_2.app _), (Bx.newf hF hP 39 (Expr.cl y56)), E0, (xv q28), E52, E53, E54, (Nat.ne_of_lt X0.lt), hF, (hP.app _)⟩
    rintro e s ⟨i11, τ, X0, X0_2, X11, E0, E11, E52, E53, E54, N0__11, hF, hP⟩
    obtain ⟨y59, h60, h53⟩ := qb h53;have q29 := Gx.ap X0 X0_2;have q30 := Gx.same X0 (AObj.box 123 [(.v (.int .i64 y59.2.finder.at_)), (.v (.int .i64 y59.2.finder.e)), (.mp j0_2)]);have q31 := X0_2.ne q29 (some (AObj.box 123 [(.v (.int .i64 y59.2.finder.at_)), (.v (.int .i64 y59.2.finder.e)), (.mp j0_2)]));have q32 := X11.ne N0__11 (some (AObj.box 123 [(.v (.int .i64 y59.2.finder.at_)), (.v (.int .i64 y59.2.finder.e)), (.mp j0_2)]));have q33 := Gx.same q31 (AObj.map .s (mpF qr (Mp.get y59.2.known)) (Mp.n y59.2.known));have q34 := Jn E0 E11 X0.get X0_2.get X11.get q30.get q31.get q32.get (q30.ne (Gx.ap X0_2 X0) (some (AObj.map .s (mpF qr (Mp.get y59.2.known)) (Mp.n y59.2.known)))).get q33.get (q32.ne (Gx.ap X0_2 X11.gx) (some (AObj.map .s (mpF qr (Mp.get y59.2.known)) (Mp.n y59.2.known)))).get TT;refine w_x q34 ?_;refine S0 _ _ _ h60 _ _ _ _ X0 X0_2 ?_;refine w_y q34 ?_;refine qQ ?_;obtain rfl := qa h53;exact qe ⟨_, _, (List.set (List.set τ j0 (some (AObj.box 123 [(.v (.int .i64 y59.2.finder.at_)), (.v (.int .i64 y59.2.finder.e)), (.mp j0_2)]))) j0_2 (some (AObj.map .s (mpF qr (Mp.get y59.2.known)) (Mp.n y59.2.known)))), rfl, (q30.ne (Gx.ap X0_2 X0) _), q33, E0, E52, E53, E54, ((hF.set (by simp) (some (AObj.box 123 [(.v (.int .i64 y59.2.finder.at_)), (.v (.int .i64 y59.2.finder.e)), (.mp j0_2)]))).set (by simp) (some (AObj.map .s (mpF qr (Mp.get y59.2.known)) (Mp.n y59.2.known)))), ((hP.setp (hF.lt jl0) (some (AObj.box 123 [(.v (.int .i64 y59.2.finder.at_)), (.v (.int .i64 y59.2.finder.e)), (.mp j0_2)]))).setp ((hF.set (by simp) (some (AObj.box 123 [(.v (.int .i64 y59.2.finder.at_)), (.v (.int .i64 y59.2.finder.e)), (.mp j0_2)]))).lt jl0_2) (some (AObj.map .s (mpF qr (Mp.get y59.2.known)) (Mp.n y59.2.known))))⟩
   rintro e s ⟨v54, v55, τ, rfl, X0, X0_2, E0, E52, E53, E54, hF, hP⟩
   (try dsimp only at hf50);refine w_x (cj2 E54 TT) ?_;obtain rfl := qa hf50;exact qZ rfl ⟨_, _, _, τ, rfl, X0, X0_2, E0, E52, E53, (xv (cj2 E54 TT)), hF, hP⟩
  ·refine xf hb51 (qE (qM ?_));obtain rfl := qa hf50;refine qY rfl fun hr61 => ?_;obtain rfl := hr61;exact qK (qS ⟨_, _, τ, rfl, X0, X0_2, hF, hP⟩)
 rintro e s ⟨v44, v45, τ, rfl, X0, X0_2, hF, hP⟩
 (try dsimp only at h);obtain rfl := qa h;have hn62 : (List.map (·.1) ([(j0, (AObj.box 123 [(.v (.int .i64 v44.finder.at_)), (.v (.int .i64 v44.finder.e)), (.mp j0_2)])), (j0_2, (AObj.map .s (mpF qr (Mp.get v45)) (Mp.n v45)))] : List (Nat × AObj))).Nodup := (List.nodup_cons.2 ⟨(by simp only [List.map_cons, List.map_nil, List.mem_cons, List.not_mem_nil, or_false, not_or]; exact (Gx.ap X0 X0_2)), (List.nodup_cons.2 ⟨(fun h => by simp at h), List.nodup_nil⟩)⟩);have he63 := Fr.eq hF hn62 (List.forall_mem_cons.2 ⟨⟨jl0, (Gx.back X0 hP (hF.lt jl0))⟩, (List.forall_mem_cons.2 ⟨⟨jl0_2, (Gx.back X0_2 hP (hF.lt jl0_2))⟩, (fun x hx => absurd hx (by simp))⟩)⟩);exact ZV (fun h => absurd rfl h) (xr (rs := #[]) TT) ⟨_, hn62, (List.forall_mem_cons.2 ⟨⟨jl0, (ClO.bx (ClL.cons (Cn.cl (.v _) _) (ClL.cons (Cn.cl (.v _) _) (ClL.cons (Cl.mp jl0_2) ClL.nil))))⟩, (List.forall_mem_cons.2 ⟨⟨jl0_2, ((CnO.mp (fun _ => (.ag (CnL.cons (.v _) (CnL.cons (.v _) CnL.nil)))) _ _).cl _)⟩, (fun x hx => absurd hx (by simp))⟩)⟩), he63 ▸ hP, _, (.refl _), (.tu CnL.nil), hK⟩
noncomputable def Qc (a1 : Expr) (f0 : qc → Expr → Option ((Clock × Bool) × qc)) : (Int × qc × (Mp Clock) × Clock) → Option ((Int × qc × (Mp Clock) × Clock) ⊕ (((Clock × Bool) × qc) ⊕ (qc × (Mp Clock) × Clock)))
 | (v16, v17, v18, v19) =>
  if (decide (v16 < ((List.length a1.args : Nat) : Int))) then
   ((qC a1.args v16).bind fun y28 =>
   (f0 (qc.mk v17.finder v18) y28).bind fun y31 =>
   if y31.1.2 then
    some (.inl ((y31.1.1, true), (qc.mk y31.2.finder y31.2.known)))
   else
    some (.inr ((qc.mk y31.2.finder y31.2.known), y31.2.known, v19)) : Option (((Clock × Bool) × qc) ⊕ (qc × (Mp Clock) × Clock))).bind fun x => match x with
   | .inl r => some (.inr (.inl r))
   | .inr (v25, v26, v27) =>
    some (.inl ((IntKind.i64.wrap (v16 + (1 : Int))), (qc.mk v25.finder v26), v26, v27))
  else
   some (.inr (.inr ((qc.mk v17.finder v18), v18, v19)))
noncomputable def B_check_solver_of (f0 : qc → Expr → Option ((Clock × Bool) × qc)) (f1 : Clock → Op → Option (Clock × Int)) (f2 : qc → Int → Int → Option (Unit × qc)) (a0 : qc) (a1 : Expr) : Option ((Clock × Bool) × qc) :=
 (if (decide (a1.kind = (1 : Int))) then
  some (.inl (((Option.getD (Mp.get a0.known a1.name) (Clock.mk (0 : Int) (0 : Int))), (Option.isSome (Mp.get a0.known a1.name))), (qc.mk a0.finder a0.known)))
 else
  if (decide (a1.kind = (2 : Int))) then
   (qy (Qc a1 f0) ((0 : Int), (qc.mk a0.finder a0.known), a0.known, (Clock.mk (0 : Int) (0 : Int))) : Option (((Clock × Bool) × qc) ⊕ (qc × (Mp Clock) × Clock))).bind fun x => match x with
   | .inl r => some (.inl r)
   | .inr (v13, v14, v15) =>
    some (.inl (((Clock.mk (0 : Int) (0 : Int)), false), (qc.mk v13.finder v14)))
  else
   some (.inr ((qc.mk a0.finder a0.known), a0.known, (Clock.mk (0 : Int) (0 : Int)))) : Option (((Clock × Bool) × qc) ⊕ (qc × (Mp Clock) × Clock))).bind fun x => match x with
 | .inl r => some r
 | .inr (v3, v4, v5) =>
  (qC a1.args (0 : Int)).bind fun y40 =>
  (f0 (qc.mk v3.finder v4) y40).bind fun y42 =>
  if ((!y42.1.2) || (!decide (y42.2.finder.e = (0 : Int)))) then
   some (((Clock.mk (0 : Int) (0 : Int)), false), (qc.mk y42.2.finder y42.2.known))
  else
   (f1 y42.1.1 (Op.mk a1.kind a1.n a1.d)).bind fun y49 =>
   if (!decide (y49.2 = (0 : Int))) then
    (f2 (qc.mk y42.2.finder y42.2.known) a1.at_ y49.2).bind fun y52 =>
    some (((Clock.mk (0 : Int) (0 : Int)), false), (qc.mk y52.2.finder y52.2.known))
   else
    some ((y49.1, true), (qc.mk y42.2.finder y42.2.known))
abbrev qu : Clock → PV := fun v : Clock => (PV.ag [(.v (.int .i64 v.period)), (.v (.int .i64 v.phase))])
abbrev C55_0 (z0 : Store) (z1 : Nat) (z2 : ((Clock × Bool) × qc)) : Prop := Gx z0 z1 (AObj.map .s (mpF (fun v : Clock => (PV.ag [(.v (.int .i64 v.period)), (.v (.int .i64 v.phase))])) (Mp.get z2.2.known)) (Mp.n z2.2.known))
abbrev C55_1 (z0 : Store) (z1 : Nat) (z2 : qc) (z3 : Nat) : Prop := Gx z0 z1 (AObj.box 123 [(.v (.int .i64 z2.finder.at_)), (.v (.int .i64 z2.finder.e)), (.mp z3)])
abbrev C55_2 (z0 : Store) (z1 : Nat) (z2 : (Mp Clock)) : Prop := Gx z0 z1 (AObj.map .s (mpF (fun v : Clock => (PV.ag [(.v (.int .i64 v.period)), (.v (.int .i64 v.phase))])) (Mp.get z2)) (Mp.n z2))
abbrev C55_3 (z0 : Store) (z1 : Nat) (z2 : ((Clock × Bool) × qc)) (z3 : Nat) : Prop := Gx z0 z1 (AObj.box 123 [(.v (.int .i64 z2.2.finder.at_)), (.v (.int .i64 z2.2.finder.e)), (.mp z3)])
abbrev C55_4 (z0 : Store) (z1 : Nat) (z2 : qc) : Prop := Gx z0 z1 (AObj.map .s (mpF (fun v : Clock => (PV.ag [(.v (.int .i64 v.period)), (.v (.int .i64 v.phase))])) (Mp.get z2.known)) (Mp.n z2.known))
abbrev C55_5 (z0 z1 : Store) (z2 : Nat) (z3 : qc) (z4 : Expr) : Prop := Bx z0 z1 z2 43 [(.v (.int .i64 ((Option.getD (Mp.get z3.known z4.name) (Clock.mk (0 : Int) (0 : Int))).period))), (.v (.int .i64 ((Option.getD (Mp.get z3.known z4.name) (Clock.mk (0 : Int) (0 : Int))).phase)))]
abbrev C55_6 (z0 z1 : Store) (z2 : Nat) : Prop := Bx z0 z1 z2 43 [(.v (.int .i64 (0 : Int))), (.v (.int .i64 (0 : Int)))]
abbrev C55_7 (z0 : Store) (z1 : Nat) (z2 : (Unit × qc)) : Prop := Gx z0 z1 (AObj.map .s (mpF (fun v : Clock => (PV.ag [(.v (.int .i64 v.period)), (.v (.int .i64 v.phase))])) (Mp.get z2.2.known)) (Mp.n z2.2.known))
theorem W_check_solver_of (f0 f1 f2) (S0 : Sat_check_solver_of f0) (S1 : Sat_clock_Apply f1) (S2 : Sat_check_finder_fail_in_check_solver f2) : Sat_check_solver_of (B_check_solver_of f0 f1 f2) := by
 intro a0 a1 r h σ K j0 j0_2 H0 H0_2 hK;refine w_fq (Q := fun r s => ∃ l : List (Nat × AObj), (l.map (·.1)).Nodup ∧ (∀ x ∈ l, x.1 < σ.length ∧ ClO σ.length x.2) ∧ Pq σ l K r s) Try.func55 rfl rfl (by kernel_rfl) (fun _ _ h => h) ?_;unfold B_check_solver_of at h;have hP := Pre.refl σ;have jl0 := H0.lt;have jl0_2 := H0_2.lt;have hF := Fr.refl σ [j0, j0_2];have E0 : qz [(.pt j0 0), (.ag (Expr.cl a1))] 0 = (.pt j0 0) := rfl;have E1 : qz [(.pt j0 0), (.ag (Expr.cl a1))] 1 = (.ag (Expr.cl a1)) := rfl;have TT := cj15 Clock.cle Expr.cle Expr.rlen T_106 T_119 T_120 T_121 T_123 T_2 T_3 T_30 T_37 T_39 T_43 T_9;refine qk (fun e s => ∃ i3 i4 : Nat, ∃ τ : Store, C55_1 s j0 a0 j0_2 ∧ C55_4 s j0_2 a0 ∧ Bx σ s i3 39 (Expr.cl a1) ∧ C55_6 σ s i4 ∧ eP e 0 j0 ∧ eP e 3 i3 ∧ eP e 4 i4 ∧ j0 ≠ i3 ∧ j0 ≠ i4 ∧ i3 ≠ i4 ∧ Fr σ τ [j0, j0_2] ∧ Pre τ s) ?_ ?_
 ·have q1 := cj4 E1 H0.g3 H0_2.g3 TT;refine w_x q1 ?_;have q2 := Bx.newf hF hP 39 (Expr.cl a1);exact qe ⟨σ.length, (σ ++ [some (AObj.box 39 (Expr.cl a1))]).length, σ, ((H0.app [some (AObj.box 39 (Expr.cl a1))]).app [some (AObj.box 43 [(.v (.int .i64 (0 : Int))), (.v (.int .i64 (0 : Int)))])]), ((H0_2.app [some (AObj.box 39 (Expr.cl a1))]).app [some (AObj.box 43 [(.v (.int .i64 (0 : Int))), (.v (.int .i64 (0 : Int)))])]), (q2.app _), (Bx.newf hF (hP.app _) 43 [(.v (.int .i64 (0 : Int))), (.v (.int .i64 (0 : Int)))]), E0, (xv q1), (xv q1), (Nat.ne_of_lt H0.lt), (Nat.ne_of_lt (H0.app [some (AObj.box 39 (Expr.cl a1))]).lt), (Nat.ne_of_lt q2.lt), hF, ((hP.app _).app _)⟩
 rintro e s ⟨i3, i4, τ, X0, X0_2, X3, X4, E0, E3, E4, N0__3, N0__4, N3__4, hF, hP⟩
 refine ql (qd (w_x (cj3 E3 X3.get TT) ?_));refine qf ?_;obtain ⟨x1, h2, h⟩ := qb h;refine qk (fun e s => ∃ v3 : qc, ∃ v4 : (Mp Clock), ∃ v5 : Clock, ∃ τ : Store, .inr (v3, v4, v5) = x1 ∧ C55_1 s j0 v3 j0_2 ∧ C55_2 s j0_2 v4 ∧ Bx σ s i3 39 (Expr.cl a1) ∧ Bx σ s i4 43 (Clock.cl v5) ∧ eP e 0 j0 ∧ eP e 3 i3 ∧ eP e 4 i4 ∧ j0 ≠ i3 ∧ j0 ≠ i4 ∧ i3 ≠ i4 ∧ Fr σ τ [j0, j0_2] ∧ Pre τ s) ?_ ?_
 ·refine qn (qd (w_x TT ?_));refine qf ?_;rcases qi h2 with ⟨hb6, h2⟩ | ⟨hb6, h2⟩
  ·refine xt hb6 (qk (fun e s => ∃ i6 : Nat, ∃ τ : Store, C55_1 s j0 a0 j0_2 ∧ C55_4 s j0_2 a0 ∧ C55_6 σ s i4 ∧ C55_5 σ s i6 a0 a1 ∧ eP e 4 i4 ∧ eP e 6 i6 ∧ eB e 7 (Option.isSome (Mp.get a0.known a1.name)) ∧ j0 ≠ i4 ∧ j0 ≠ i6 ∧ i4 ≠ i6 ∧ Fr σ τ [j0, j0_2] ∧ Pre τ s) ?_ ?_)
   ·have R7 : Option.getD (Option.map qu (Mp.get a0.known a1.name)) (.ag [(.v (.int .i64 (0 : Int))), (.v (.int .i64 (0 : Int)))]) = (.ag [(.v (.int .i64 ((Option.getD (Mp.get a0.known a1.name) (Clock.mk (0 : Int) (0 : Int))).period))), (.v (.int .i64 ((Option.getD (Mp.get a0.known a1.name) (Clock.mk (0 : Int) (0 : Int))).phase)))]) := by cases Mp.get a0.known a1.name <;> rfl
    have q3 := X3.app [some (AObj.box 43 [(.v (.int .i64 ((Option.getD (Mp.get a0.known a1.name) (Clock.mk (0 : Int) (0 : Int))).period))), (.v (.int .i64 ((Option.getD (Mp.get a0.known a1.name) (Clock.mk (0 : Int) (0 : Int))).phase)))])];have q4 := X0.app [some (AObj.box 43 [(.v (.int .i64 ((Option.getD (Mp.get a0.known a1.name) (Clock.mk (0 : Int) (0 : Int))).period))), (.v (.int .i64 ((Option.getD (Mp.get a0.known a1.name) (Clock.mk (0 : Int) (0 : Int))).phase)))])];have q5 := X0_2.app [some (AObj.box 43 [(.v (.int .i64 ((Option.getD (Mp.get a0.known a1.name) (Clock.mk (0 : Int) (0 : Int))).period))), (.v (.int .i64 ((Option.getD (Mp.get a0.known a1.name) (Clock.mk (0 : Int) (0 : Int))).phase)))])];have q6 := Bx.atf hF hP (l := [some (AObj.box 43 [(.v (.int .i64 ((Option.getD (Mp.get a0.known a1.name) (Clock.mk (0 : Int) (0 : Int))).period))), (.v (.int .i64 ((Option.getD (Mp.get a0.known a1.name) (Clock.mk (0 : Int) (0 : Int))).phase)))])]) (j := 0) (t := 43) (c := [(.v (.int .i64 ((Option.getD (Mp.get a0.known a1.name) (Clock.mk (0 : Int) (0 : Int))).period))), (.v (.int .i64 ((Option.getD (Mp.get a0.known a1.name) (Clock.mk (0 : Int) (0 : Int))).phase)))]) rfl;have q7 := YH E0 E3 X0.g3 X0_2.g3 X3.g3 R7 q4.get q5.get q3.get q6.get TT;refine zn 12 1 q7 ?_;refine za q7 ?_;exact qe ⟨(s.length), τ, q4, q5, (X4.app _), q6, E4, (xv q7), (xv q7), N0__4, (Nat.ne_of_lt X0.lt), (Nat.ne_of_lt X4.lt), hF, (hP.app _)⟩
   rintro e s ⟨i6, τ, X0, X0_2, X4, X6, E4, E6, E7, N0__4, N0__6, N4__6, hF, hP⟩
   refine qk (fun e s => ∃ τ : Store, C55_1 s j0 a0 j0_2 ∧ C55_4 s j0_2 a0 ∧ C55_5 σ s i4 a0 a1 ∧ eP e 4 i4 ∧ eB e 5 (Option.isSome (Mp.get a0.known a1.name)) ∧ j0 ≠ i4 ∧ Fr σ τ [j0, j0_2] ∧ Pre τ s) ?_ ?_
   ·have q8 := X4.same 43 [(.v (.int .i64 ((Option.getD (Mp.get a0.known a1.name) (Clock.mk (0 : Int) (0 : Int))).period))), (.v (.int .i64 ((Option.getD (Mp.get a0.known a1.name) (Clock.mk (0 : Int) (0 : Int))).phase)))];have q9 := X6.ne N4__6 (some (AObj.box 43 [(.v (.int .i64 ((Option.getD (Mp.get a0.known a1.name) (Clock.mk (0 : Int) (0 : Int))).period))), (.v (.int .i64 ((Option.getD (Mp.get a0.known a1.name) (Clock.mk (0 : Int) (0 : Int))).phase)))]));have q10 := cj8 E4 E6 E7 X4.get X6.get q8.get q9.get TT;refine w_x q10 ?_;exact qe ⟨τ, (X0.ne (Ne.symm N0__4) _), (X0_2.ne (Gx.ap X4.gx X0_2) _), q8, E4, (xv q10), N0__4, hF, (hP.set (hF.ge X4.le) (some (AObj.box 43 [(.v (.int .i64 ((Option.getD (Mp.get a0.known a1.name) (Clock.mk (0 : Int) (0 : Int))).period))), (.v (.int .i64 ((Option.getD (Mp.get a0.known a1.name) (Clock.mk (0 : Int) (0 : Int))).phase)))])))⟩
   rintro e s ⟨τ, X0, X0_2, X4, E4, E5, N0__4, hF, hP⟩
   refine qp (qw ?_);obtain rfl := qa h2;refine qB ?_;(try dsimp only at h);obtain rfl := qa h;have hn8 : (List.map (·.1) ([(j0, (AObj.box 123 [(.v (.int .i64 a0.finder.at_)), (.v (.int .i64 a0.finder.e)), (.mp j0_2)])), (j0_2, (AObj.map .s (mpF qu (Mp.get a0.known)) (Mp.n a0.known)))] : List (Nat × AObj))).Nodup := (List.nodup_cons.2 ⟨(by simp only [List.map_cons, List.map_nil, List.mem_cons, List.not_mem_nil, or_false, not_or]; exact (Gx.ap X0 X0_2)), (List.nodup_cons.2 ⟨(fun h => by simp at h), List.nodup_nil⟩)⟩);have he9 := Fr.eq hF hn8 (List.forall_mem_cons.2 ⟨⟨jl0, (Gx.back X0 hP (hF.lt jl0))⟩, (List.forall_mem_cons.2 ⟨⟨jl0_2, (Gx.back X0_2 hP (hF.lt jl0_2))⟩, (fun x hx => absurd hx (by simp))⟩)⟩);exact ZV (fun _ => rfl) (xr (rs := #[.cell 4 43, .tmp 5]) (cj4 X4.get E4 E5 TT)) ⟨_, hn8, (List.forall_mem_cons.2 ⟨⟨jl0, (ClO.bx (ClL.cons (Cn.cl (.v _) _) (ClL.cons (Cn.cl (.v _) _) (ClL.cons (Cl.mp jl0_2) ClL.nil))))⟩, (List.forall_mem_cons.2 ⟨⟨jl0_2, ((CnO.mp (fun _ => (.ag (CnL.cons (.v _) (CnL.cons (.v _) CnL.nil)))) _ _).cl _)⟩, (fun x hx => absurd hx (by simp))⟩)⟩), he9 ▸ hP, _, (.refl _), (.tu (CnL.cons (.ag (CnL.cons (.v _) (CnL.cons (.v _) CnL.nil))) (CnL.cons (.v _) CnL.nil))), hK⟩
  ·refine xf hb6 (qd (w_x TT ?_));refine qf ?_;rcases qi h2 with ⟨hb10, h2⟩ | ⟨hb10, h2⟩
   ·refine xt hb10 (ql (qd (w_x (cj3 E3 X3.get TT) ?_)));refine qf ?_;obtain ⟨x11, h12, h2⟩ := qb h2;refine qk (fun e s => ∃ v13 : qc, ∃ v14 : (Mp Clock), ∃ v15 : Clock, ∃ τ : Store, .inr (v13, v14, v15) = x11 ∧ C55_1 s j0 v13 j0_2 ∧ C55_2 s j0_2 v14 ∧ Bx σ s i4 43 (Clock.cl v15) ∧ eP e 4 i4 ∧ j0 ≠ i4 ∧ Fr σ τ [j0, j0_2] ∧ Pre τ s) ?_ ?_
    ·refine qn (qH h12 (fun v e s => ∃ v16 v17 v18 v19, ∃ τ : Store, (v16, v17, v18, v19) = v ∧ C55_1 s j0 v17 j0_2 ∧ C55_2 s j0_2 v18 ∧ Bx σ s i4 43 (Clock.cl v19) ∧ eP e 0 j0 ∧ eP e 4 i4 ∧ e 35 = (.sl (Expr.rows a1.args)) ∧ eL e 36 a1.args ∧ eI e 37 v16 ∧ j0 ≠ i4 ∧ Fr σ τ [j0, j0_2] ∧ Pre τ s) ⟨_, WkE.refl _, _, _, _, _, τ, rfl, X0, X0_2, X4, E0, E4, (xv TT), (xv TT), (xv TT), N0__4, hF, hP⟩ ?_)
     rintro v x20 e s hf21 ⟨v16, v17, v18, v19, τ, rfl, X0, X0_2, X4, E0, E4, E35, E36, E37, N0__4, hF, hP⟩
     unfold Qc at hf21;(try dsimp only at hf21);refine qd (w_x (cj3 E36 E37 TT) ?_);refine qf (qd ?_);rcases qi hf21 with ⟨hb22, hf21⟩ | ⟨hb22, hf21⟩
     ·refine xt hb22 (qm (qf ?_));obtain ⟨x23, h24, hf21⟩ := qb hf21;refine qk (fun e s => ∃ v25 : qc, ∃ v26 : (Mp Clock), ∃ v27 : Clock, ∃ τ : Store, .inr (v25, v26, v27) = x23 ∧ C55_1 s j0 v25 j0_2 ∧ C55_2 s j0_2 v26 ∧ Bx σ s i4 43 (Clock.cl v27) ∧ eP e 0 j0 ∧ eP e 4 i4 ∧ e 35 = (.sl (Expr.rows a1.args)) ∧ eL e 36 a1.args ∧ eI e 37 v16 ∧ j0 ≠ i4 ∧ Fr σ τ [j0, j0_2] ∧ Pre τ s) ?_ ?_
      ·refine qn ?_;obtain ⟨y28, h29, h24⟩ := qb h24;refine qk (fun e s => ∃ i9 : Nat, ∃ τ : Store, C55_1 s j0 v17 j0_2 ∧ C55_2 s j0_2 v18 ∧ Bx σ s i4 43 (Clock.cl v19) ∧ Bx σ s i9 39 (Expr.cl y28) ∧ eP e 0 j0 ∧ eP e 4 i4 ∧ eP e 9 i9 ∧ e 35 = (.sl (Expr.rows a1.args)) ∧ eL e 36 a1.args ∧ eI e 37 v16 ∧ j0 ≠ i4 ∧ j0 ≠ i9 ∧ i4 ≠ i9 ∧ Fr σ τ [j0, j0_2] ∧ Pre τ s) ?_ ?_
       ·have R30 : (Expr.rows a1.args)[(v16).toNat]? = some (Expr.cl y28) := Expr.rget (qg h29).2;have q11 := cj5 E35 E37 R30 (qg h29).1 TT;refine w_x q11 ?_;exact qe ⟨s.length, τ, (X0.app _), (X0_2.app _), (X4.app _), (Bx.newf hF hP 39 (Expr.cl y28)), E0, E4, (xv q11), E35, E36, E37, N0__4, (Nat.ne_of_lt X0.lt), (Nat.ne_of_lt X4.lt), hF, (hP.app _)⟩
       rintro e s ⟨i9, τ, X0, X0_2, X4, X9, E0, E4, E9, E35, E36, E37, N0__4, N0__9, N4__9, hF, hP⟩
       obtain ⟨y31, h32, h24⟩ := qb h24;refine qk (fun e s => ∃ i10 : Nat, ∃ τ : Store, C55_3 s j0 y31 j0_2 ∧ C55_0 s j0_2 y31 ∧ Bx σ s i10 43 (Clock.cl y31.1.1) ∧ Bx σ s i4 43 (Clock.cl v19) ∧ eP e 0 j0 ∧ eP e 4 i4 ∧ eP e 10 i10 ∧ eB e 11 y31.1.2 ∧ e 35 = (.sl (Expr.rows a1.args)) ∧ eL e 36 a1.args ∧ eI e 37 v16 ∧ j0 ≠ i10 ∧ j0 ≠ i4 ∧ i10 ≠ i4 ∧ Fr σ τ [j0, j0_2] ∧ Pre τ s) ?_ ?_
       ·have q12 := Gx.ap X0_2 X0;have q13 := Gx.ap X0 X0_2;have q14 := Gx.ap X0_2 X9.gx;have q15 := Gx.same X0 (AObj.box 123 [(.v (.int .i64 y31.2.finder.at_)), (.v (.int .i64 y31.2.finder.e)), (.mp j0_2)]);have q17 := X9.ne N0__9 (some (AObj.box 123 [(.v (.int .i64 y31.2.finder.at_)), (.v (.int .i64 y31.2.finder.e)), (.mp j0_2)]));have q18 := X0_2.ne q13 (some (AObj.box 123 [(.v (.int .i64 y31.2.finder.at_)), (.v (.int .i64 y31.2.finder.e)), (.mp j0_2)]));have q19 := Gx.same q18 (AObj.map .s (mpF qu (Mp.get y31.2.known)) (Mp.n y31.2.known));have q20 := Jn E0 E9 X0.g3 X0_2.g3 X9.g3 q15.get q18.get q17.get (q15.ne q12 (some (AObj.map .s (mpF qu (Mp.get y31.2.known)) (Mp.n y31.2.known)))).get q19.get (q17.ne q14 (some (AObj.map .s (mpF qu (Mp.get y31.2.known)) (Mp.n y31.2.known)))).get TT;refine w_x q20 ?_;refine S0 _ _ _ h32 _ _ _ _ X0 X0_2 ?_;refine w_y q20 ?_;have q16 := X4.ne N0__4 (some (AObj.box 123 [(.v (.int .i64 y31.2.finder.at_)), (.v (.int .i64 y31.2.finder.e)), (.mp j0_2)]));exact qe ⟨(List.set (List.set s j0 (some (AObj.box 123 [(.v (.int .i64 y31.2.finder.at_)), (.v (.int .i64 y31.2.finder.e)), (.mp j0_2)]))) j0_2 (some (AObj.map .s (mpF qu (Mp.get y31.2.known)) (Mp.n y31.2.known)))).length, (List.set (List.set τ j0 (some (AObj.box 123 [(.v (.int .i64 y31.2.finder.at_)), (.v (.int .i64 y31.2.finder.e)), (.mp j0_2)]))) j0_2 (some (AObj.map .s (mpF qu (Mp.get y31.2.known)) (Mp.n y31.2.known)))), ((q15.ne q12 _).app _), (q19.app _), (Bx.newf ((hF.set (by simp) (some (AObj.box 123 [(.v (.int .i64 y31.2.finder.at_)), (.v (.int .i64 y31.2.finder.e)), (.mp j0_2)]))).set (by simp) (some (AObj.map .s (mpF qu (Mp.get y31.2.known)) (Mp.n y31.2.known)))) ((hP.setp (hF.lt jl0) (some (AObj.box 123 [(.v (.int .i64 y31.2.finder.at_)), (.v (.int .i64 y31.2.finder.e)), (.mp j0_2)]))).setp ((hF.set (by simp) (some (AObj.box 123 [(.v (.int .i64 y31.2.finder.at_)), (.v (.int .i64 y31.2.finder.e)), (.mp j0_2)]))).lt jl0_2) (some (AObj.map .s (mpF qu (Mp.get y31.2.known)) (Mp.n y31.2.known)))) 43 (Clock.cl y31.1.1)), ((q16.ne (Gx.ap X0_2 X4.gx) _).app _), E0, E4, (xv q20), (xv q20), E35, E36, E37, (Nat.ne_of_lt (q15.ne q12 (some (AObj.map .s (mpF qu (Mp.get y31.2.known)) (Mp.n y31.2.known)))).lt), N0__4, (Ne.symm (Nat.ne_of_lt (q16.ne (Gx.ap X0_2 X4.gx) (some (AObj.map .s (mpF qu (Mp.get y31.2.known)) (Mp.n y31.2.known)))).lt)), ((hF.set (by simp) (some (AObj.box 123 [(.v (.int .i64 y31.2.finder.at_)), (.v (.int .i64 y31.2.finder.e)), (.mp j0_2)]))).set (by simp) (some (AObj.map .s (mpF qu (Mp.get y31.2.known)) (Mp.n y31.2.known)))), (((hP.setp (hF.lt jl0) (some (AObj.box 123 [(.v (.int .i64 y31.2.finder.at_)), (.v (.int .i64 y31.2.finder.e)), (.mp j0_2)]))).setp ((hF.set (by simp) (some (AObj.box 123 [(.v (.int .i64 y31.2.finder.at_)), (.v (.int .i64 y31.2.finder.e)), (.mp j0_2)]))).lt jl0_2) (some (AObj.map .s (mpF qu (Mp.get y31.2.known)) (Mp.n y31.2.known)))).app _)⟩
       rintro e s ⟨i10, τ, X0, X0_2, X10, X4, E0, E4, E10, E11, E35, E36, E37, N0__10, N0__4, N10__4, hF, hP⟩
       refine qd (w_x (cj2 E11 TT) ?_);refine qf ?_;rcases qi h24 with ⟨hb33, h24⟩ | ⟨hb33, h24⟩
       ·refine xt hb33 (qk (fun e s => ∃ τ : Store, C55_3 s j0 y31 j0_2 ∧ C55_0 s j0_2 y31 ∧ Bx σ s i4 43 (Clock.cl y31.1.1) ∧ eP e 4 i4 ∧ eB e 5 true ∧ j0 ≠ i4 ∧ Fr σ τ [j0, j0_2] ∧ Pre τ s) ?_ ?_)
        ·have q21 := X4.same 43 (Clock.cl y31.1.1);have q22 := X10.ne (Ne.symm N10__4) (some (AObj.box 43 (Clock.cl y31.1.1)));have q23 := cj7 E4 E10 X10.get X4.get q22.get q21.get TT;refine w_x q23 ?_;exact qe ⟨τ, (X0.ne (Ne.symm N0__4) _), (X0_2.ne (Gx.ap X4.gx X0_2) _), q21, E4, (xv q23), N0__4, hF, (hP.set (hF.ge X4.le) (some (AObj.box 43 (Clock.cl y31.1.1))))⟩
        rintro e s ⟨τ, X0, X0_2, X4, E4, E5, N0__4, hF, hP⟩
        refine qp (qw ?_);obtain rfl := qa h24;refine qB ?_;(try dsimp only at hf21);obtain rfl := qa hf21;refine zv rfl fun hr34 => ?_;obtain rfl := hr34;refine qw (qB ?_);(try dsimp only at h2);refine qw ?_;obtain rfl := qa h2;refine qB ?_;(try dsimp only at h);obtain rfl := qa h;have hn35 : (List.map (·.1) ([(j0, (AObj.box 123 [(.v (.int .i64 y31.2.finder.at_)), (.v (.int .i64 y31.2.finder.e)), (.mp j0_2)])), (j0_2, (AObj.map .s (mpF qu (Mp.get y31.2.known)) (Mp.n y31.2.known)))] : List (Nat × AObj))).Nodup := (List.nodup_cons.2 ⟨(by simp only [List.map_cons, List.map_nil, List.mem_cons, List.not_mem_nil, or_false, not_or]; exact (Gx.ap X0 X0_2)), (List.nodup_cons.2 ⟨(fun h => by simp at h), List.nodup_nil⟩)⟩);have he36 := Fr.eq hF hn35 (List.forall_mem_cons.2 ⟨⟨jl0, (Gx.back X0 hP (hF.lt jl0))⟩, (List.forall_mem_cons.2 ⟨⟨jl0_2, (Gx.back X0_2 hP (hF.lt jl0_2))⟩, (fun x hx => absurd hx (by simp))⟩)⟩);exact ZV (fun _ => rfl) (xr (rs := #[.cell 4 43, .tmp 5]) (cj4 X4.get E4 E5 TT)) ⟨_, hn35, (List.forall_mem_cons.2 ⟨⟨jl0, (ClO.bx (ClL.cons (Cn.cl (.v _) _) (ClL.cons (Cn.cl (.v _) _) (ClL.cons (Cl.mp jl0_2) ClL.nil))))⟩, (List.forall_mem_cons.2 ⟨⟨jl0_2, ((CnO.mp (fun _ => (.ag (CnL.cons (.v _) (CnL.cons (.v _) CnL.nil)))) _ _).cl _)⟩, (fun x hx => absurd hx (by simp))⟩)⟩), he36 ▸ hP, _, (.refl _), (.tu (CnL.cons (.ag (CnL.cons (.v _) (CnL.cons (.v _) CnL.nil))) (CnL.cons (.v _) CnL.nil))), hK⟩
       ·refine xf hb33 (qm (qQ ?_));obtain rfl := qa h24;exact qe ⟨_, _, _, τ, rfl, X0, X0_2, X4, E0, E4, E35, E36, E37, N0__4, hF, hP⟩
      rintro e s ⟨v25, v26, v27, τ, rfl, X0, X0_2, X4, E0, E4, E35, E36, E37, N0__4, hF, hP⟩
      (try dsimp only at hf21);refine w_x (cj2 E37 TT) ?_;obtain rfl := qa hf21;exact qZ rfl ⟨_, _, _, _, τ, rfl, X0, X0_2, X4, E0, E4, E35, E36, (xv (cj2 E37 TT)), N0__4, hF, hP⟩
     ·refine xf hb22 (qE (qM ?_));obtain rfl := qa hf21;refine qY rfl fun hr37 => ?_;obtain rfl := hr37;exact qK (qe ⟨_, _, _, τ, rfl, X0, X0_2, X4, E4, N0__4, hF, hP⟩)
    rintro e s ⟨v13, v14, v15, τ, rfl, X0, X0_2, X4, E4, N0__4, hF, hP⟩
    (try dsimp only at h2);refine qk (fun e s => ∃ τ : Store, C55_1 s j0 v13 j0_2 ∧ C55_2 s j0_2 v14 ∧ C55_6 σ s i4 ∧ eP e 4 i4 ∧ eB e 5 false ∧ j0 ≠ i4 ∧ Fr σ τ [j0, j0_2] ∧ Pre τ s) ?_ ?_
    ·have q24 := X4.same 43 [(.v (.int .i64 (0 : Int))), (.v (.int .i64 (0 : Int)))];refine w_x (cj4 E4 X4.get q24.get TT) ?_;exact qe ⟨τ, (X0.ne (Ne.symm N0__4) _), (X0_2.ne (Gx.ap X4.gx X0_2) _), q24, E4, (xv (cj4 E4 X4.get q24.get TT)), N0__4, hF, (hP.set (hF.ge X4.le) (some (AObj.box 43 [(.v (.int .i64 (0 : Int))), (.v (.int .i64 (0 : Int)))])))⟩
    rintro e s ⟨τ, X0, X0_2, X4, E4, E5, N0__4, hF, hP⟩
    refine qp (qw ?_);obtain rfl := qa h2;refine qB ?_;(try dsimp only at h);obtain rfl := qa h;have hn38 : (List.map (·.1) ([(j0, (AObj.box 123 [(.v (.int .i64 v13.finder.at_)), (.v (.int .i64 v13.finder.e)), (.mp j0_2)])), (j0_2, (AObj.map .s (mpF qu (Mp.get v14)) (Mp.n v14)))] : List (Nat × AObj))).Nodup := (List.nodup_cons.2 ⟨(by simp only [List.map_cons, List.map_nil, List.mem_cons, List.not_mem_nil, or_false, not_or]; exact (Gx.ap X0 X0_2)), (List.nodup_cons.2 ⟨(fun h => by simp at h), List.nodup_nil⟩)⟩);have he39 := Fr.eq hF hn38 (List.forall_mem_cons.2 ⟨⟨jl0, (Gx.back X0 hP (hF.lt jl0))⟩, (List.forall_mem_cons.2 ⟨⟨jl0_2, (Gx.back X0_2 hP (hF.lt jl0_2))⟩, (fun x hx => absurd hx (by simp))⟩)⟩);exact ZV (fun _ => rfl) (xr (rs := #[.cell 4 43, .tmp 5]) (cj4 X4.get E4 E5 TT)) ⟨_, hn38, (List.forall_mem_cons.2 ⟨⟨jl0, (ClO.bx (ClL.cons (Cn.cl (.v _) _) (ClL.cons (Cn.cl (.v _) _) (ClL.cons (Cl.mp jl0_2) ClL.nil))))⟩, (List.forall_mem_cons.2 ⟨⟨jl0_2, ((CnO.mp (fun _ => (.ag (CnL.cons (.v _) (CnL.cons (.v _) CnL.nil)))) _ _).cl _)⟩, (fun x hx => absurd hx (by simp))⟩)⟩), he39 ▸ hP, _, (.refl _), (.tu (CnL.cons (.ag (CnL.cons (.v _) (CnL.cons (.v _) CnL.nil))) (CnL.cons (.v _) CnL.nil))), hK⟩
   ·refine xf hb10 (qm (qQ ?_));obtain rfl := qa h2;exact qe ⟨_, _, _, τ, rfl, X0, X0_2, X3, X4, E0, E3, E4, N0__3, N0__4, N3__4, hF, hP⟩
 rintro e s ⟨v3, v4, v5, τ, rfl, X0, X0_2, X3, X4, E0, E3, E4, N0__3, N0__4, N3__4, hF, hP⟩
 (try dsimp only at h);obtain ⟨y40, h41, h⟩ := qb h;obtain ⟨y42, h43, h⟩ := qb h;refine qk (fun e s => ∃ i12 : Nat, ∃ τ : Store, C55_3 s j0 y42 j0_2 ∧ C55_0 s j0_2 y42 ∧ Bx σ s i12 43 (Clock.cl y42.1.1) ∧ Bx σ s i3 39 (Expr.cl a1) ∧ Bx σ s i4 43 (Clock.cl v5) ∧ eP e 0 j0 ∧ eP e 3 i3 ∧ eP e 4 i4 ∧ eP e 12 i12 ∧ eB e 13 y42.1.2 ∧ j0 ≠ i12 ∧ j0 ≠ i3 ∧ j0 ≠ i4 ∧ i12 ≠ i4 ∧ i3 ≠ i4 ∧ Fr σ τ [j0, j0_2] ∧ Pre τ s) ?_ ?_
 ·have R44 : (Expr.rows a1.args)[((0 : Int)).toNat]? = some (Expr.cl y40) := Expr.rget (qg h41).2;have q25 := Gx.ap X0_2 X0;have q26 := Gx.ap X0 X0_2;have q27 := Gx.ap X0_2 X3.gx;have q28 := Gx.same X0 (AObj.box 123 [(.v (.int .i64 y42.2.finder.at_)), (.v (.int .i64 y42.2.finder.e)), (.mp j0_2)]);have q29 := X3.ne N0__3 (some (AObj.box 123 [(.v (.int .i64 y42.2.finder.at_)), (.v (.int .i64 y42.2.finder.e)), (.mp j0_2)]));have q30 := X0_2.ne q26 (some (AObj.box 123 [(.v (.int .i64 y42.2.finder.at_)), (.v (.int .i64 y42.2.finder.e)), (.mp j0_2)]));have q32 := Gx.same q30 (AObj.map .s (mpF qu (Mp.get y42.2.known)) (Mp.n y42.2.known));have q33 := Yl E0 E3 X0.g3 X0_2.g3 X3.g3 R44 (qg h41).1 q28.get q30.get q29.get (q28.ne q25 (some (AObj.map .s (mpF qu (Mp.get y42.2.known)) (Mp.n y42.2.known)))).get q32.get (q29.ne q27 (some (AObj.map .s (mpF qu (Mp.get y42.2.known)) (Mp.n y42.2.known)))).get TT;refine w_x q33 ?_;refine S0 _ _ _ h43 _ _ _ _ X0 X0_2 ?_;refine w_y q33 ?_;have q31 := X4.ne N0__4 (some (AObj.box 123 [(.v (.int .i64 y42.2.finder.at_)), (.v (.int .i64 y42.2.finder.e)), (.mp j0_2)]));exact qe ⟨(List.set (List.set s j0 (some (AObj.box 123 [(.v (.int .i64 y42.2.finder.at_)), (.v (.int .i64 y42.2.finder.e)), (.mp j0_2)]))) j0_2 (some (AObj.map .s (mpF qu (Mp.get y42.2.known)) (Mp.n y42.2.known)))).length, (List.set (List.set τ j0 (some (AObj.box 123 [(.v (.int .i64 y42.2.finder.at_)), (.v (.int .i64 y42.2.finder.e)), (.mp j0_2)]))) j0_2 (some (AObj.map .s (mpF qu (Mp.get y42.2.known)) (Mp.n y42.2.known)))), ((q28.ne q25 _).app _), (q32.app _), (Bx.newf ((hF.set (by simp) (some (AObj.box 123 [(.v (.int .i64 y42.2.finder.at_)), (.v (.int .i64 y42.2.finder.e)), (.mp j0_2)]))).set (by simp) (some (AObj.map .s (mpF qu (Mp.get y42.2.known)) (Mp.n y42.2.known)))) ((hP.setp (hF.lt jl0) (some (AObj.box 123 [(.v (.int .i64 y42.2.finder.at_)), (.v (.int .i64 y42.2.finder.e)), (.mp j0_2)]))).setp ((hF.set (by simp) (some (AObj.box 123 [(.v (.int .i64 y42.2.finder.at_)), (.v (.int .i64 y42.2.finder.e)), (.mp j0_2)]))).lt jl0_2) (some (AObj.map .s (mpF qu (Mp.get y42.2.known)) (Mp.n y42.2.known)))) 43 (Clock.cl y42.1.1)), ((q29.ne q27 _).app _), ((q31.ne (Gx.ap X0_2 X4.gx) _).app _), E0, E3, E4, (xv q33), (xv q33), (Nat.ne_of_lt (q28.ne q25 (some (AObj.map .s (mpF qu (Mp.get y42.2.known)) (Mp.n y42.2.known)))).lt), N0__3, N0__4, (Ne.symm (Nat.ne_of_lt (q31.ne (Gx.ap X0_2 X4.gx) (some (AObj.map .s (mpF qu (Mp.get y42.2.known)) (Mp.n y42.2.known)))).lt)), N3__4, ((hF.set (by simp) (some (AObj.box 123 [(.v (.int .i64 y42.2.finder.at_)), (.v (.int .i64 y42.2.finder.e)), (.mp j0_2)]))).set (by simp) (some (AObj.map .s (mpF qu (Mp.get y42.2.known)) (Mp.n y42.2.known)))), (((hP.setp (hF.lt jl0) (some (AObj.box 123 [(.v (.int .i64 y42.2.finder.at_)), (.v (.int .i64 y42.2.finder.e)), (.mp j0_2)]))).setp ((hF.set (by simp) (some (AObj.box 123 [(.v (.int .i64 y42.2.finder.at_)), (.v (.int .i64 y42.2.finder.e)), (.mp j0_2)]))).lt jl0_2) (some (AObj.map .s (mpF qu (Mp.get y42.2.known)) (Mp.n y42.2.known)))).app _)⟩
 rintro e s ⟨i12, τ, X0, X0_2, X12, X3, X4, E0, E3, E4, E12, E13, N0__12, N0__3, N0__4, N12__4, N3__4, hF, hP⟩
 refine ql (qk (fun e s => ∃ τ : Store, C55_3 s j0 y42 j0_2 ∧ C55_0 s j0_2 y42 ∧ Bx σ s i12 43 (Clock.cl y42.1.1) ∧ Bx σ s i3 39 (Expr.cl a1) ∧ Bx σ s i4 43 (Clock.cl v5) ∧ eP e 0 j0 ∧ eP e 3 i3 ∧ eP e 4 i4 ∧ eP e 12 i12 ∧ eB e 69 ((!y42.1.2) || (!decide (y42.2.finder.e = (0 : Int)))) ∧ j0 ≠ i12 ∧ j0 ≠ i3 ∧ j0 ≠ i4 ∧ i12 ≠ i4 ∧ i3 ≠ i4 ∧ Fr σ τ [j0, j0_2] ∧ Pre τ s) ?_ ?_)
 ·cases hb45 : (!y42.1.2)
  ·have q34 := cj6 E0 E13 X0.get X0_2.get hb45 TT;refine w_x q34 ?_;exact qe ⟨τ, X0, X0_2, X12, X3, X4, E0, E3, E4, E12, (xv q34), N0__12, N0__3, N0__4, N12__4, N3__4, hF, hP⟩
  ·have q35 := cj6 E0 E13 X0.get X0_2.get hb45 TT;refine w_x q35 ?_;exact qe ⟨τ, X0, X0_2, X12, X3, X4, E0, E3, E4, E12, (xv q35), N0__12, N0__3, N0__4, N12__4, N3__4, hF, hP⟩
 rintro e s ⟨τ, X0, X0_2, X12, X3, X4, E0, E3, E4, E12, E69, N0__12, N0__3, N0__4, N12__4, N3__4, hF, hP⟩
 refine qd ?_;rcases qi h with ⟨hb46, h⟩ | ⟨hb46, h⟩
 ·refine xt (cj2 E69 hb46) (qk (fun e s => ∃ τ : Store, C55_3 s j0 y42 j0_2 ∧ C55_0 s j0_2 y42 ∧ C55_6 σ s i4 ∧ eP e 4 i4 ∧ eB e 5 false ∧ j0 ≠ i4 ∧ Fr σ τ [j0, j0_2] ∧ Pre τ s) ?_ ?_)
  ·have q36 := X4.same 43 [(.v (.int .i64 (0 : Int))), (.v (.int .i64 (0 : Int)))];refine w_x (cj4 E4 X4.get q36.get TT) ?_;exact qe ⟨τ, (X0.ne (Ne.symm N0__4) _), (X0_2.ne (Gx.ap X4.gx X0_2) _), q36, E4, (xv (cj4 E4 X4.get q36.get TT)), N0__4, hF, (hP.set (hF.ge X4.le) (some (AObj.box 43 [(.v (.int .i64 (0 : Int))), (.v (.int .i64 (0 : Int)))])))⟩
  rintro e s ⟨τ, X0, X0_2, X4, E4, E5, N0__4, hF, hP⟩
  refine qp (zd ?_);obtain rfl := qa h;have hn47 : (List.map (·.1) ([(j0, (AObj.box 123 [(.v (.int .i64 y42.2.finder.at_)), (.v (.int .i64 y42.2.finder.e)), (.mp j0_2)])), (j0_2, (AObj.map .s (mpF qu (Mp.get y42.2.known)) (Mp.n y42.2.known)))] : List (Nat × AObj))).Nodup := (List.nodup_cons.2 ⟨(by simp only [List.map_cons, List.map_nil, List.mem_cons, List.not_mem_nil, or_false, not_or]; exact (Gx.ap X0 X0_2)), (List.nodup_cons.2 ⟨(fun h => by simp at h), List.nodup_nil⟩)⟩);have he48 := Fr.eq hF hn47 (List.forall_mem_cons.2 ⟨⟨jl0, (Gx.back X0 hP (hF.lt jl0))⟩, (List.forall_mem_cons.2 ⟨⟨jl0_2, (Gx.back X0_2 hP (hF.lt jl0_2))⟩, (fun x hx => absurd hx (by simp))⟩)⟩);exact ZV (fun _ => rfl) (xr (rs := #[.cell 4 43, .tmp 5]) (cj4 X4.get E4 E5 TT)) ⟨_, hn47, (List.forall_mem_cons.2 ⟨⟨jl0, (ClO.bx (ClL.cons (Cn.cl (.v _) _) (ClL.cons (Cn.cl (.v _) _) (ClL.cons (Cl.mp jl0_2) ClL.nil))))⟩, (List.forall_mem_cons.2 ⟨⟨jl0_2, ((CnO.mp (fun _ => (.ag (CnL.cons (.v _) (CnL.cons (.v _) CnL.nil)))) _ _).cl _)⟩, (fun x hx => absurd hx (by simp))⟩)⟩), he48 ▸ hP, _, (.refl _), (.tu (CnL.cons (.ag (CnL.cons (.v _) (CnL.cons (.v _) CnL.nil))) (CnL.cons (.v _) CnL.nil))), hK⟩
 ·refine xf (cj2 E69 hb46) (qm (qf ?_));obtain ⟨y49, h50, h⟩ := qb h;refine qk (fun e s => ∃ i14 : Nat, ∃ τ : Store, C55_3 s j0 y42 j0_2 ∧ C55_0 s j0_2 y42 ∧ Bx σ s i14 43 (Clock.cl y49.1) ∧ Bx σ s i3 39 (Expr.cl a1) ∧ Bx σ s i4 43 (Clock.cl v5) ∧ eP e 0 j0 ∧ eP e 3 i3 ∧ eP e 4 i4 ∧ eP e 14 i14 ∧ eI e 15 y49.2 ∧ j0 ≠ i14 ∧ j0 ≠ i3 ∧ j0 ≠ i4 ∧ i14 ≠ i4 ∧ i3 ≠ i4 ∧ Fr σ τ [j0, j0_2] ∧ Pre τ s) ?_ ?_
  ·have q37 := cj5 E3 E12 X12.g3 X3.g3 TT;refine w_x q37 ?_;refine S1 _ _ _ h50 _ _  ?_;refine w_y q37 ?_;exact qe ⟨s.length, τ, (X0.app _), (X0_2.app _), (Bx.newf hF hP 43 (Clock.cl y49.1)), (X3.app _), (X4.app _), E0, E3, E4, (xv q37), (xv q37), (Nat.ne_of_lt X0.lt), N0__3, N0__4, (Ne.symm (Nat.ne_of_lt X4.lt)), N3__4, hF, (hP.app _)⟩
  rintro e s ⟨i14, τ, X0, X0_2, X14, X3, X4, E0, E3, E4, E14, E15, N0__14, N0__3, N0__4, N14__4, N3__4, hF, hP⟩
  refine ql (qd (w_x (cj2 E15 TT) ?_));refine qf (qd ?_);rcases qi h with ⟨hb51, h⟩ | ⟨hb51, h⟩
  ·refine xt hb51 ?_;obtain ⟨y52, h53, h⟩ := qb h;refine qk (fun e s => ∃ τ : Store, Gx s j0 (AObj.box 123 [(.v (.int .i64 y52.2.finder.at_)), (.v (.int .i64 y52.2.finder.e)), (.mp j0_2)]) ∧ C55_7 s j0_2 y52 ∧ Bx σ s i4 43 (Clock.cl v5) ∧ eP e 4 i4 ∧ j0 ≠ i4 ∧ Fr σ τ [j0, j0_2] ∧ Pre τ s) ?_ ?_
   ·have q38 := Gx.ap X0 X0_2;have q39 := Gx.ap X0_2 X0;have q40 := Gx.ap X0_2 X3.gx;have q41 := Gx.same X0 (AObj.box 123 [(.v (.int .i64 y52.2.finder.at_)), (.v (.int .i64 y52.2.finder.e)), (.mp j0_2)]);have q42 := X0_2.ne q38 (some (AObj.box 123 [(.v (.int .i64 y52.2.finder.at_)), (.v (.int .i64 y52.2.finder.e)), (.mp j0_2)]));have q43 := X3.ne N0__3 (some (AObj.box 123 [(.v (.int .i64 y52.2.finder.at_)), (.v (.int .i64 y52.2.finder.e)), (.mp j0_2)]));have q44 := Gx.same q42 (AObj.map .s (mpF qu (Mp.get y52.2.known)) (Mp.n y52.2.known));have q45 := cj13 E0 E3 E15 X0.get X0_2.get X3.get q41.get q42.get q43.get (q41.ne q39 (some (AObj.map .s (mpF qu (Mp.get y52.2.known)) (Mp.n y52.2.known)))).get q44.get (q43.ne q40 (some (AObj.map .s (mpF qu (Mp.get y52.2.known)) (Mp.n y52.2.known)))).get TT;refine zn 6 0 q45 ?_;refine za q45 ?_;refine S2 _ _ _ _ h53 _ _ _ _ X0 X0_2 ?_;refine w_y q45 ?_;exact qe ⟨(List.set (List.set τ j0 (some (AObj.box 123 [(.v (.int .i64 y52.2.finder.at_)), (.v (.int .i64 y52.2.finder.e)), (.mp j0_2)]))) j0_2 (some (AObj.map .s (mpF qu (Mp.get y52.2.known)) (Mp.n y52.2.known)))), (q41.ne q39 _), q44, ((X4.ne N0__4 _).ne (Gx.ap X0_2 X4.gx) _), E4, N0__4, ((hF.set (by simp) (some (AObj.box 123 [(.v (.int .i64 y52.2.finder.at_)), (.v (.int .i64 y52.2.finder.e)), (.mp j0_2)]))).set (by simp) (some (AObj.map .s (mpF qu (Mp.get y52.2.known)) (Mp.n y52.2.known)))), ((hP.setp (hF.lt jl0) (some (AObj.box 123 [(.v (.int .i64 y52.2.finder.at_)), (.v (.int .i64 y52.2.finder.e)), (.mp j0_2)]))).setp ((hF.set (by simp) (some (AObj.box 123 [(.v (.int .i64 y52.2.finder.at_)), (.v (.int .i64 y52.2.finder.e)), (.mp j0_2)]))).lt jl0_2) (some (AObj.map .s (mpF qu (Mp.get y52.2.known)) (Mp.n y52.2.known))))⟩
   rintro e s ⟨τ, X0, X0_2, X4, E4, N0__4, hF, hP⟩
   refine qk (fun e s => ∃ τ : Store, Gx s j0 (AObj.box 123 [(.v (.int .i64 y52.2.finder.at_)), (.v (.int .i64 y52.2.finder.e)), (.mp j0_2)]) ∧ C55_7 s j0_2 y52 ∧ C55_6 σ s i4 ∧ eP e 4 i4 ∧ eB e 5 false ∧ j0 ≠ i4 ∧ Fr σ τ [j0, j0_2] ∧ Pre τ s) ?_ ?_
   ·have q46 := X4.same 43 [(.v (.int .i64 (0 : Int))), (.v (.int .i64 (0 : Int)))];refine w_x (cj4 E4 X4.get q46.get TT) ?_;exact qe ⟨τ, (X0.ne (Ne.symm N0__4) _), (X0_2.ne (Gx.ap X4.gx X0_2) _), q46, E4, (xv (cj4 E4 X4.get q46.get TT)), N0__4, hF, (hP.set (hF.ge X4.le) (some (AObj.box 43 [(.v (.int .i64 (0 : Int))), (.v (.int .i64 (0 : Int)))])))⟩
   rintro e s ⟨τ, X0, X0_2, X4, E4, E5, N0__4, hF, hP⟩
   refine qp (zd ?_);obtain rfl := qa h;have hn54 : (List.map (·.1) ([(j0, (AObj.box 123 [(.v (.int .i64 y52.2.finder.at_)), (.v (.int .i64 y52.2.finder.e)), (.mp j0_2)])), (j0_2, (AObj.map .s (mpF qu (Mp.get y52.2.known)) (Mp.n y52.2.known)))] : List (Nat × AObj))).Nodup := (List.nodup_cons.2 ⟨(by simp only [List.map_cons, List.map_nil, List.mem_cons, List.not_mem_nil, or_false, not_or]; exact (Gx.ap X0 X0_2)), (List.nodup_cons.2 ⟨(fun h => by simp at h), List.nodup_nil⟩)⟩);have he55 := Fr.eq hF hn54 (List.forall_mem_cons.2 ⟨⟨jl0, (Gx.back X0 hP (hF.lt jl0))⟩, (List.forall_mem_cons.2 ⟨⟨jl0_2, (Gx.back X0_2 hP (hF.lt jl0_2))⟩, (fun x hx => absurd hx (by simp))⟩)⟩);exact ZV (fun _ => rfl) (xr (rs := #[.cell 4 43, .tmp 5]) (cj4 X4.get E4 E5 TT)) ⟨_, hn54, (List.forall_mem_cons.2 ⟨⟨jl0, (ClO.bx (ClL.cons (Cn.cl (.v _) _) (ClL.cons (Cn.cl (.v _) _) (ClL.cons (Cl.mp jl0_2) ClL.nil))))⟩, (List.forall_mem_cons.2 ⟨⟨jl0_2, ((CnO.mp (fun _ => (.ag (CnL.cons (.v _) (CnL.cons (.v _) CnL.nil)))) _ _).cl _)⟩, (fun x hx => absurd hx (by simp))⟩)⟩), he55 ▸ hP, _, (.refl _), (.tu (CnL.cons (.ag (CnL.cons (.v _) (CnL.cons (.v _) CnL.nil))) (CnL.cons (.v _) CnL.nil))), hK⟩
  ·refine xf hb51 (qm (qf (qk (fun e s => ∃ τ : Store, C55_3 s j0 y42 j0_2 ∧ C55_0 s j0_2 y42 ∧ Bx σ s i4 43 (Clock.cl y49.1) ∧ eP e 4 i4 ∧ eB e 5 true ∧ j0 ≠ i4 ∧ Fr σ τ [j0, j0_2] ∧ Pre τ s) ?_ ?_)))
   ·have q47 := X4.same 43 (Clock.cl y49.1);have q48 := X14.ne (Ne.symm N14__4) (some (AObj.box 43 (Clock.cl y49.1)));have q49 := cj7 E4 E14 X14.get X4.get q48.get q47.get TT;refine w_x q49 ?_;exact qe ⟨τ, (X0.ne (Ne.symm N0__4) _), (X0_2.ne (Gx.ap X4.gx X0_2) _), q47, E4, (xv q49), N0__4, hF, (hP.set (hF.ge X4.le) (some (AObj.box 43 (Clock.cl y49.1))))⟩
   rintro e s ⟨τ, X0, X0_2, X4, E4, E5, N0__4, hF, hP⟩
   refine qp ?_;obtain rfl := qa h;have hn56 : (List.map (·.1) ([(j0, (AObj.box 123 [(.v (.int .i64 y42.2.finder.at_)), (.v (.int .i64 y42.2.finder.e)), (.mp j0_2)])), (j0_2, (AObj.map .s (mpF qu (Mp.get y42.2.known)) (Mp.n y42.2.known)))] : List (Nat × AObj))).Nodup := (List.nodup_cons.2 ⟨(by simp only [List.map_cons, List.map_nil, List.mem_cons, List.not_mem_nil, or_false, not_or]; exact (Gx.ap X0 X0_2)), (List.nodup_cons.2 ⟨(fun h => by simp at h), List.nodup_nil⟩)⟩);have he57 := Fr.eq hF hn56 (List.forall_mem_cons.2 ⟨⟨jl0, (Gx.back X0 hP (hF.lt jl0))⟩, (List.forall_mem_cons.2 ⟨⟨jl0_2, (Gx.back X0_2 hP (hF.lt jl0_2))⟩, (fun x hx => absurd hx (by simp))⟩)⟩);exact ZV (fun _ => rfl) (xr (rs := #[.cell 4 43, .tmp 5]) (cj4 X4.get E4 E5 TT)) ⟨_, hn56, (List.forall_mem_cons.2 ⟨⟨jl0, (ClO.bx (ClL.cons (Cn.cl (.v _) _) (ClL.cons (Cn.cl (.v _) _) (ClL.cons (Cl.mp jl0_2) ClL.nil))))⟩, (List.forall_mem_cons.2 ⟨⟨jl0_2, ((CnO.mp (fun _ => (.ag (CnL.cons (.v _) (CnL.cons (.v _) CnL.nil)))) _ _).cl _)⟩, (fun x hx => absurd hx (by simp))⟩)⟩), he57 ▸ hP, _, (.refl _), (.tu (CnL.cons (.ag (CnL.cons (.v _) (CnL.cons (.v _) CnL.nil))) (CnL.cons (.v _) CnL.nil))), hK⟩
end Go.Proofs.Ytohmmfimedgccaa.E
end
