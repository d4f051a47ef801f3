import Derived.KernelRfl
import Derived.Test.YtohmmfimedgccaaRows
import Derived.WalkKit
import Derived.ProofKit
import Derived.OpenShut
import Derived.ShutString
import Derived.ChangeOld
import Derived.Below
import Derived.SizedLaws
import Derived.Test.YtohmmfimedgccaaQD5
/- SyntaxDepth returns true at every input. PART 7 OF 7: G35 SC G75 G36 G32 G8 SD SE OP RowSyntaxDepth -/
section
namespace Go.Proofs.Ytohmmfimedgccaa.E
set_option maxRecDepth 100000
set_option maxHeartbeats 4000000
set_option linter.unusedVariables false
set_option linter.unusedSimpArgs false
noncomputable def syntax_Parse_L0 (f_syntax_reader_can : syntax_reader → ByteArray → Option (Bool × syntax_reader)) (f_syntax_reader_fail : syntax_reader → Int → Int → Option (Unit × syntax_reader)) (f_syntax_reader_flow : syntax_reader → Option (Unit × syntax_reader)) (f_syntax_reader_now : syntax_reader → Option lex_Token) : (Int × syntax_reader) → Option ((Int × syntax_reader) ⊕ syntax_reader)
 | (v9_7, v27_8) =>
  if ((decide (v27_8.e = (0 : Int))) && (decide (v27_8.pos < ((List.length v27_8.l : Nat) : Int)))) then
   ((f_syntax_reader_now v27_8).bind fun y16 =>
   (if (((((decide (y16.text = (⟨#[110, 111, 100, 101]⟩ : ByteArray))) || (decide (y16.text = (⟨#[105, 110, 112, 117, 116]⟩ : ByteArray)))) || (decide (y16.text = (⟨#[102, 108, 111, 119]⟩ : ByteArray)))) || (decide (y16.text = (⟨#[111, 117, 116, 112, 117, 116]⟩ : ByteArray)))) && (decide (v9_7 = (40 : Int)))) then
    (f_syntax_reader_fail v27_8 y16.at_ (8 : Int)).bind fun y26 =>
    some y26.2
   else
    some v27_8 : Option syntax_reader).bind fun v27_24 =>
   ((f_syntax_reader_can v27_24 (⟨#[110, 111, 100, 101]⟩ : ByteArray)).bind fun y31 =>
   (if y31.1 then
    none
   else
    (f_syntax_reader_can y31.2 (⟨#[105, 110, 112, 117, 116]⟩ : ByteArray)).bind fun y37 =>
    (if y37.1 then
     none
    else
     (f_syntax_reader_can y37.2 (⟨#[102, 108, 111, 119]⟩ : ByteArray)).bind fun y43 =>
     (if y43.1 then
      (f_syntax_reader_flow y43.2).bind fun y49 =>
      some y49.2
     else
      (f_syntax_reader_can y43.2 (⟨#[111, 117, 116, 112, 117, 116]⟩ : ByteArray)).bind fun y51 =>
      (if y51.1 then
       none
      else
       (f_syntax_reader_fail y51.2 y16.at_ (1 : Int)).bind fun y57 =>
       some y57.2 : Option syntax_reader).bind fun v27_55 =>
      some v27_55 : Option syntax_reader).bind fun v27_47 =>
     some v27_47 : Option syntax_reader).bind fun v27_41 =>
    some v27_41 : Option syntax_reader).bind fun v27_35 =>
   some v27_35 : Option syntax_reader).bind fun v27_30 =>
   some v27_30 : Option syntax_reader).bind fun v27_15 =>
   some (.inl ((IntKind.i64.wrap (v9_7 + (1 : Int))), v27_15))
  else
   some (.inr v27_8)
noncomputable def B_syntax_Parse (f_lex_Lex : ByteArray → Option ((List lex_Token) × Int × Int)) (f_syntax_reader_now : syntax_reader → Option lex_Token) (f_syntax_reader_fail : syntax_reader → Int → Int → Option (Unit × syntax_reader)) (f_syntax_reader_can : syntax_reader → ByteArray → Option (Bool × syntax_reader)) (f_syntax_reader_flow : syntax_reader → Option (Unit × syntax_reader)) (a0 : ByteArray) : Option (Program × Int × Int) :=
 (f_lex_Lex a0).bind fun y1 =>
 if (!decide (y1.2.2 = (0 : Int))) then
  some ((Program.mk ([]) ([]) ([]) ([])), y1.2.1, y1.2.2)
 else
  (iterO (syntax_Parse_L0 f_syntax_reader_can f_syntax_reader_fail f_syntax_reader_flow f_syntax_reader_now) ((0 : Int), (syntax_reader.mk y1.1 ((ByteArray.size a0 : Nat) : Int) (0 : Int) (0 : Int) (0 : Int) (Program.mk ([]) ([]) ([]) ([])))) : Option syntax_reader).bind fun v27_6 =>
  if (!decide (v27_6.e = (0 : Int))) then
   some ((Program.mk ([]) ([]) ([]) ([])), v27_6.at_, v27_6.e)
  else
   some (v27_6.p, (0 : Int), (0 : Int))
theorem W_syntax_Parse (f_lex_Lex : ByteArray → Option ((List lex_Token) × Int × Int)) (f_syntax_reader_now : syntax_reader → Option lex_Token) (f_syntax_reader_fail : syntax_reader → Int → Int → Option (Unit × syntax_reader)) (f_syntax_reader_can : syntax_reader → ByteArray → Option (Bool × syntax_reader)) (f_syntax_reader_flow : syntax_reader → Option (Unit × syntax_reader)) (S_lex_Lex : Sat_lex_Lex f_lex_Lex) (S_syntax_reader_now : Sat_syntax_reader_now f_syntax_reader_now) (S_syntax_reader_fail : Sat_syntax_reader_fail f_syntax_reader_fail) (S_syntax_reader_can : Sat_syntax_reader_can f_syntax_reader_can) (S_syntax_reader_flow : Sat_syntax_reader_flow f_syntax_reader_flow) : Sat_syntax_Parse (B_syntax_Parse f_lex_Lex f_syntax_reader_now f_syntax_reader_fail f_syntax_reader_can f_syntax_reader_flow) := by
 intro a0 r h σ K hK
 refine w_fp Try.func35 rfl rfl (by kernel_rfl) ?_
 unfold B_syntax_Parse at h
 have hP := Pre.refl σ
 have E0 : argE [(.v (.string a0))] 0 = (.v (.string a0)) := rfl
 have TT := cj14 Expr.rlen T_153 T_155 T_2 T_22 T_23 T_24 T_25 T_27 T_3 T_30 T_81 T_85 T_9
 refine w_sa (fun e s => ∃ i2 : Nat, Bx σ s i2 27 [(.sl []), (.sl []), (.sl []), (.sl [])] ∧ e 0 = (.v (.string a0)) ∧ e 2 = (.pt i2 0) ∧ Pre σ s) ?_ fun e s hI => ?_
 ·refine w_x (cj2 E0 TT) (k := ?_)
  exact cw_n ⟨_, WkE.refl _, σ.length, (Bx.new hP 27 [(.sl []), (.sl []), (.sl []), (.sl [])]), (xv (cj2 E0 TT)), (xv (cj2 E0 TT)), (hP.app _)⟩
 obtain ⟨i2, X2, E0, E2, hP⟩ := hI
 obtain ⟨y1, h2, h⟩ := bnd_some h
 refine w_sa (fun e s => Bx σ s i2 27 [(.sl []), (.sl []), (.sl []), (.sl [])] ∧ e 0 = (.v (.string a0)) ∧ e 2 = (.pt i2 0) ∧ e 5 = (.sl (List.map lex_Token.cl y1.1)) ∧ e 6 = (.v (.int .i64 y1.2.1)) ∧ e 7 = (.v (.int .i64 y1.2.2)) ∧ Pre σ s) ?_ fun e s hI => ?_
 ·refine w_x (cj4 E0 E2 X2.get TT) (k := ?_)
  refine EC.wka (.cons (.refl _) .nil) (S_lex_Lex _ _ h2 _ _  ?_)
  refine w_y (cj4 E0 E2 X2.get TT) (k := ?_)
  have q1 := cj4 E0 E2 X2.get TT
  exact cw_n ⟨_, WkE.refl _, X2, (xv q1), (xv q1), (xv q1), (xv q1), (xv q1), hP⟩
 obtain ⟨X2, E0, E2, E5, E6, E7, hP⟩ := hI
 refine w_assoc ?_
 refine w_sa (fun e s => Bx σ s i2 27 [(.sl []), (.sl []), (.sl []), (.sl [])] ∧ e 0 = (.v (.string a0)) ∧ e 2 = (.pt i2 0) ∧ e 5 = (.sl (List.map lex_Token.cl y1.1)) ∧ e 6 = (.v (.int .i64 y1.2.1)) ∧ e 7 = (.v (.int .i64 y1.2.2)) ∧ e 19 = (.v (.bool (!decide (y1.2.2 = (0 : Int))))) ∧ Pre σ s) ?_ fun e s hI => ?_
 ·refine w_x (cj7 E0 E2 E5 E6 E7 X2.get TT) (k := ?_)
  have q2 := cj7 E0 E2 E5 E6 E7 X2.get TT
  exact cw_n ⟨_, WkE.refl _, X2, (xv q2), (xv q2), (xv q2), (xv q2), (xv q2), (xv q2), hP⟩
 obtain ⟨X2, E0, E2, E5, E6, E7, E19, hP⟩ := hI
 refine w_seq ?_
 rcases ite_some h with ⟨hb3, h⟩ | ⟨hb3, h⟩
 ·refine xt (cj7 E0 E2 E5 E6 E7 E19 hb3) ?_
  refine w_sa (fun e s => Bx σ s i2 27 [(.sl []), (.sl []), (.sl []), (.sl [])] ∧ e 2 = (.pt i2 0) ∧ e 3 = (.v (.int .i64 y1.2.1)) ∧ e 4 = (.v (.int .i64 y1.2.2)) ∧ Pre σ s) ?_ fun e s hI => ?_
  ·refine w_x (cj9 E0 E2 E5 E6 E7 E19 X2.get (X2.same 27 [(.sl []), (.sl []), (.sl []), (.sl [])]).get TT) (k := ?_)
   have q3 := X2.same 27 [(.sl []), (.sl []), (.sl []), (.sl [])]
   have q4 := cj9 E0 E2 E5 E6 E7 E19 X2.get q3.get TT
   exact cw_n ⟨_, WkE.refl _, q3, (xv q4), (xv q4), (xv q4), (hP.set X2.le (some (AObj.box 27 [(.sl []), (.sl []), (.sl []), (.sl [])])))⟩
  obtain ⟨X2, E2, E3, E4, hP⟩ := hI
  refine w_ret ?_
  refine w_sqr ?_
  obtain rfl := some_inj h
  exact w_fin (fun _ => rfl) (xr (rs := #[.cell 2 27, .tmp 3, .tmp 4]) (cj5 X2.get E2 E3 E4 TT)) hP (r' := (.tu [(.ag [(.sl []), (.sl []), (.sl []), (.sl [])]), (.v (.int .i64 y1.2.1)), (.v (.int .i64 y1.2.2))])) (.refl _) (.tu (CnL.cons (.ag (CnL.cons Cn.sl0 (CnL.cons Cn.sl0 (CnL.cons Cn.sl0 (CnL.cons Cn.sl0 CnL.nil))))) (CnL.cons (.v _) (CnL.cons (.v _) CnL.nil)))) hK
 ·refine xf (cj7 E0 E2 E5 E6 E7 E19 hb3) ?_
  refine w_skip ?_
  refine w_sq ?_
  refine w_sa (fun e s => ∃ i27 : Nat, Bx σ s i2 27 [(.sl []), (.sl []), (.sl []), (.sl [])] ∧ Bx σ s i27 155 [(.sl (List.map lex_Token.cl y1.1)), (.v (.int .i64 ((ByteArray.size a0 : Nat) : Int))), (.v (.int .i64 (0 : Int))), (.v (.int .i64 (0 : Int))), (.v (.int .i64 (0 : Int))), (oz []), (oz []), (oz []), (oz [])] ∧ e 2 = (.pt i2 0) ∧ e 8 = (.pt i27 0) ∧ i2 ≠ i27 ∧ Pre σ s) ?_ fun e s hI => ?_
  ·refine w_x (cj10 E0 E2 E5 E6 E7 E19 X2.get X2.any X2.any2 TT) (k := ?_)
   have q5 := cj10 E0 E2 E5 E6 E7 E19 X2.get X2.any X2.any2 TT
   exact cw_n ⟨_, WkE.refl _, s.length, (X2.app [some (AObj.box 155 [(.sl (List.map lex_Token.cl y1.1)), (.v (.int .i64 ((ByteArray.size a0 : Nat) : Int))), (.v (.int .i64 (0 : Int))), (.v (.int .i64 (0 : Int))), (.v (.int .i64 (0 : Int))), (oz []), (oz []), (oz []), (oz [])])]), (Bx.new hP 155 [(.sl (List.map lex_Token.cl y1.1)), (.v (.int .i64 ((ByteArray.size a0 : Nat) : Int))), (.v (.int .i64 (0 : Int))), (.v (.int .i64 (0 : Int))), (.v (.int .i64 (0 : Int))), (oz []), (oz []), (oz []), (oz [])]), (xv q5), (xv q5), (Nat.ne_of_lt X2.lt), (hP.app _)⟩
  obtain ⟨i27, X2, X27, E2, E8, N2__27, hP⟩ := hI
  refine w_assoc ?_
  refine w_sa (fun e s => Bx σ s i2 27 [(.sl []), (.sl []), (.sl []), (.sl [])] ∧ Bx σ s i27 155 [(.sl (List.map lex_Token.cl y1.1)), (.v (.int .i64 ((ByteArray.size a0 : Nat) : Int))), (.v (.int .i64 (0 : Int))), (.v (.int .i64 (0 : Int))), (.v (.int .i64 (0 : Int))), (oz []), (oz []), (oz []), (oz [])] ∧ e 2 = (.pt i2 0) ∧ e 8 = (.pt i27 0) ∧ e 9 = (.v (.int .i64 (0 : Int))) ∧ i2 ≠ i27 ∧ Pre σ s) ?_ fun e s hI => ?_
  ·refine w_x (cj5 E2 E8 X2.get X27.get TT) (k := ?_)
   have q6 := cj5 E2 E8 X2.get X27.get TT
   exact cw_n ⟨_, WkE.refl _, X2, X27, (xv q6), (xv q6), (xv q6), N2__27, hP⟩
  obtain ⟨X2, X27, E2, E8, E9, N2__27, hP⟩ := hI
  obtain ⟨x4, h5, h⟩ := bnd_some h
  refine w_sa (fun e s => ∃ v27_6 : syntax_reader, v27_6 = x4 ∧ Bx σ s i2 27 [(.sl []), (.sl []), (.sl []), (.sl [])] ∧ Bx σ s i27 155 [(.sl (List.map lex_Token.cl v27_6.l)), (.v (.int .i64 v27_6.end_)), (.v (.int .i64 v27_6.pos)), (.v (.int .i64 v27_6.at_)), (.v (.int .i64 v27_6.e)), (oz (List.map Node.cl v27_6.p.nodes)), (oz (List.map Input.cl v27_6.p.inputs)), (oz (List.map Flow.cl v27_6.p.flows)), (oz (List.map Output.cl v27_6.p.outputs))] ∧ e 2 = (.pt i2 0) ∧ e 8 = (.pt i27 0) ∧ i2 ≠ i27 ∧ Pre σ s) ?_ fun e s hI => ?_
  ·refine w_block ?_
   refine w_iter h5 (fun v e s => ∃ v9_7 : Int, ∃ v27_8 : syntax_reader, (v9_7, v27_8) = v ∧ Bx σ s i2 27 [(.sl []), (.sl []), (.sl []), (.sl [])] ∧ Bx σ s i27 155 [(.sl (List.map lex_Token.cl v27_8.l)), (.v (.int .i64 v27_8.end_)), (.v (.int .i64 v27_8.pos)), (.v (.int .i64 v27_8.at_)), (.v (.int .i64 v27_8.e)), (oz (List.map Node.cl v27_8.p.nodes)), (oz (List.map Input.cl v27_8.p.inputs)), (oz (List.map Flow.cl v27_8.p.flows)), (oz (List.map Output.cl v27_8.p.outputs))] ∧ e 2 = (.pt i2 0) ∧ e 8 = (.pt i27 0) ∧ e 9 = (.v (.int .i64 v9_7)) ∧ i2 ≠ i27 ∧ Pre σ s) ⟨_, WkE.refl _, _, _, rfl, X2, X27, (xv (cj3 E2 E8 E9)), (xv (cj3 E2 E8 E9)), (xv (cj3 E2 E8 E9)), N2__27, hP⟩ fun v x9 e s hf10 hI => ?_
   obtain ⟨v9_7, v27_8, rfl, X2, X27, E2, E8, E9, N2__27, hP⟩ := hI
   unfold syntax_Parse_L0 at hf10
   try dsimp only at hf10
   refine w_assoc ?_
   refine w_sa (fun e s => Bx σ s i2 27 [(.sl []), (.sl []), (.sl []), (.sl [])] ∧ Bx σ s i27 155 [(.sl (List.map lex_Token.cl v27_8.l)), (.v (.int .i64 v27_8.end_)), (.v (.int .i64 v27_8.pos)), (.v (.int .i64 v27_8.at_)), (.v (.int .i64 v27_8.e)), (oz (List.map Node.cl v27_8.p.nodes)), (oz (List.map Input.cl v27_8.p.inputs)), (oz (List.map Flow.cl v27_8.p.flows)), (oz (List.map Output.cl v27_8.p.outputs))] ∧ e 2 = (.pt i2 0) ∧ e 8 = (.pt i27 0) ∧ e 9 = (.v (.int .i64 v9_7)) ∧ e 44 = (.v (.bool ((decide (v27_8.e = (0 : Int))) && (decide (v27_8.pos < ((List.length v27_8.l : Nat) : Int)))))) ∧ i2 ≠ i27 ∧ Pre σ s) ?_ fun e s hI => ?_
   ·cases hb11 : (decide (v27_8.e = (0 : Int)))
    ·refine w_xp (cj7 E2 E8 E9 X2.get X27.get hb11 TT) (k := ?_)
     have q7 := cj7 E2 E8 E9 X2.get X27.get hb11 TT
     exact cw_n ⟨_, WkE.refl _, X2, X27, (xv q7), (xv q7), (xv q7), (xv q7), N2__27, hP⟩
    ·refine w_xp (cj7 E2 E8 E9 X2.get X27.get hb11 TT) (k := ?_)
     have q8 := cj7 E2 E8 E9 X2.get X27.get hb11 TT
     exact cw_n ⟨_, WkE.refl _, X2, X27, (xv q8), (xv q8), (xv q8), (xv q8), N2__27, hP⟩
   obtain ⟨X2, X27, E2, E8, E9, E44, N2__27, hP⟩ := hI
   refine w_seq ?_
   rcases ite_some hf10 with ⟨hb12, hf10⟩ | ⟨hb12, hf10⟩
   ·refine xt (cj5 E2 E8 E9 E44 hb12) ?_
    refine w_skip ?_
    refine w_sq ?_
    obtain ⟨x13, h14, hf10⟩ := bnd_some hf10
    refine w_sa (fun e s => ∃ v27_15 : syntax_reader, v27_15 = x13 ∧ Bx σ s i2 27 [(.sl []), (.sl []), (.sl []), (.sl [])] ∧ Bx σ s i27 155 [(.sl (List.map lex_Token.cl v27_15.l)), (.v (.int .i64 v27_15.end_)), (.v (.int .i64 v27_15.pos)), (.v (.int .i64 v27_15.at_)), (.v (.int .i64 v27_15.e)), (oz (List.map Node.cl v27_15.p.nodes)), (oz (List.map Input.cl v27_15.p.inputs)), (oz (List.map Flow.cl v27_15.p.flows)), (oz (List.map Output.cl v27_15.p.outputs))] ∧ e 2 = (.pt i2 0) ∧ e 8 = (.pt i27 0) ∧ e 9 = (.v (.int .i64 v9_7)) ∧ i2 ≠ i27 ∧ Pre σ s) ?_ fun e s hI => ?_
    ·refine w_block ?_
     obtain ⟨y16, h17, h14⟩ := bnd_some h14
     refine w_sa (fun e s => ∃ i10 : Nat, Bx σ s i10 85 [(.v (.int .i64 y16.kind)), (.v (.string y16.text)), (.v (.int .i64 y16.n)), (.v (.int .i64 y16.at_))] ∧ Bx σ s i2 27 [(.sl []), (.sl []), (.sl []), (.sl [])] ∧ Bx σ s i27 155 [(.sl (List.map lex_Token.cl v27_8.l)), (.v (.int .i64 v27_8.end_)), (.v (.int .i64 v27_8.pos)), (.v (.int .i64 v27_8.at_)), (.v (.int .i64 v27_8.e)), (oz (List.map Node.cl v27_8.p.nodes)), (oz (List.map Input.cl v27_8.p.inputs)), (oz (List.map Flow.cl v27_8.p.flows)), (oz (List.map Output.cl v27_8.p.outputs))] ∧ e 2 = (.pt i2 0) ∧ e 8 = (.pt i27 0) ∧ e 9 = (.v (.int .i64 v9_7)) ∧ e 10 = (.pt i10 0) ∧ i10 ≠ i2 ∧ i10 ≠ i27 ∧ i2 ≠ i27 ∧ Pre σ s) ?_ fun e s hI => ?_
     ·refine w_x (cj11 E2 E8 E9 E44 X2.get X2.any X2.any2 X27.get X27.any X27.any2 TT) (k := ?_)
      refine EC.wka (.cons (.refl _) .nil) (S_syntax_reader_now _ _ h17 _ _ _ X27.gx ?_)
      refine w_y (cj11 E2 E8 E9 E44 X2.get X2.any X2.any2 X27.get X27.any X27.any2 TT) (k := ?_)
      have q9 := cj11 E2 E8 E9 E44 X2.get X2.any X2.any2 X27.get X27.any X27.any2 TT
      exact cw_n ⟨_, WkE.refl _, s.length, (Bx.new hP 85 [(.v (.int .i64 y16.kind)), (.v (.string y16.text)), (.v (.int .i64 y16.n)), (.v (.int .i64 y16.at_))]), (X2.app [some (AObj.box 85 [(.v (.int .i64 y16.kind)), (.v (.string y16.text)), (.v (.int .i64 y16.n)), (.v (.int .i64 y16.at_))])]), (X27.app [some (AObj.box 85 [(.v (.int .i64 y16.kind)), (.v (.string y16.text)), (.v (.int .i64 y16.n)), (.v (.int .i64 y16.at_))])]), (xv q9), (xv q9), (xv q9), (xv q9), (Ne.symm (Nat.ne_of_lt X2.lt)), (Ne.symm (Nat.ne_of_lt X27.lt)), N2__27, (hP.app _)⟩
     obtain ⟨i10, X10, X2, X27, E2, E8, E9, E10, N10__2, N10__27, N2__27, hP⟩ := hI
     refine w_sa (fun e s => Bx σ s i10 85 [(.v (.int .i64 y16.kind)), (.v (.string y16.text)), (.v (.int .i64 y16.n)), (.v (.int .i64 y16.at_))] ∧ Bx σ s i2 27 [(.sl []), (.sl []), (.sl []), (.sl [])] ∧ Bx σ s i27 155 [(.sl (List.map lex_Token.cl v27_8.l)), (.v (.int .i64 v27_8.end_)), (.v (.int .i64 v27_8.pos)), (.v (.int .i64 v27_8.at_)), (.v (.int .i64 v27_8.e)), (oz (List.map Node.cl v27_8.p.nodes)), (oz (List.map Input.cl v27_8.p.inputs)), (oz (List.map Flow.cl v27_8.p.flows)), (oz (List.map Output.cl v27_8.p.outputs))] ∧ e 2 = (.pt i2 0) ∧ e 8 = (.pt i27 0) ∧ e 9 = (.v (.int .i64 v9_7)) ∧ e 10 = (.pt i10 0) ∧ e 11 = (.v (.bool ((((decide (y16.text = (⟨#[110, 111, 100, 101]⟩ : ByteArray))) || (decide (y16.text = (⟨#[105, 110, 112, 117, 116]⟩ : ByteArray)))) || (decide (y16.text = (⟨#[102, 108, 111, 119]⟩ : ByteArray)))) || (decide (y16.text = (⟨#[111, 117, 116, 112, 117, 116]⟩ : ByteArray)))))) ∧ i10 ≠ i2 ∧ i10 ≠ i27 ∧ i2 ≠ i27 ∧ Pre σ s) ?_ fun e s hI => ?_
     ·cases hb18 : (decide (y16.text = (⟨#[110, 111, 100, 101]⟩ : ByteArray)))
      ·cases hb19 : (decide (y16.text = (⟨#[105, 110, 112, 117, 116]⟩ : ByteArray)))
       ·cases hb20 : (decide (y16.text = (⟨#[102, 108, 111, 119]⟩ : ByteArray)))
        ·refine w_x (cj11 E2 E8 E9 E10 X10.get X2.get X27.get hb18 hb19 hb20 TT) (k := ?_)
         have q10 := cj11 E2 E8 E9 E10 X10.get X2.get X27.get hb18 hb19 hb20 TT
         exact cw_n ⟨_, WkE.refl _, X10, X2, X27, (xv q10), (xv q10), (xv q10), (xv q10), (xv q10), N10__2, N10__27, N2__27, hP⟩
        ·refine w_x (cj11 E2 E8 E9 E10 X10.get X2.get X27.get hb18 hb19 hb20 TT) (k := ?_)
         have q11 := cj11 E2 E8 E9 E10 X10.get X2.get X27.get hb18 hb19 hb20 TT
         exact cw_n ⟨_, WkE.refl _, X10, X2, X27, (xv q11), (xv q11), (xv q11), (xv q11), (xv q11), N10__2, N10__27, N2__27, hP⟩
       ·refine w_x (cj10 E2 E8 E9 E10 X10.get X2.get X27.get hb18 hb19 TT) (k := ?_)
        have q12 := cj10 E2 E8 E9 E10 X10.get X2.get X27.get hb18 hb19 TT
        exact cw_n ⟨_, WkE.refl _, X10, X2, X27, (xv q12), (xv q12), (xv q12), (xv q12), (xv q12), N10__2, N10__27, N2__27, hP⟩
      ·refine w_x (cj9 E2 E8 E9 E10 X10.get X2.get X27.get hb18 TT) (k := ?_)
       have q13 := cj9 E2 E8 E9 E10 X10.get X2.get X27.get hb18 TT
       exact cw_n ⟨_, WkE.refl _, X10, X2, X27, (xv q13), (xv q13), (xv q13), (xv q13), (xv q13), N10__2, N10__27, N2__27, hP⟩
     obtain ⟨X10, X2, X27, E2, E8, E9, E10, E11, N10__2, N10__27, N2__27, hP⟩ := hI
     refine w_assoc ?_
     refine w_sa (fun e s => Bx σ s i10 85 [(.v (.int .i64 y16.kind)), (.v (.string y16.text)), (.v (.int .i64 y16.n)), (.v (.int .i64 y16.at_))] ∧ Bx σ s i2 27 [(.sl []), (.sl []), (.sl []), (.sl [])] ∧ Bx σ s i27 155 [(.sl (List.map lex_Token.cl v27_8.l)), (.v (.int .i64 v27_8.end_)), (.v (.int .i64 v27_8.pos)), (.v (.int .i64 v27_8.at_)), (.v (.int .i64 v27_8.e)), (oz (List.map Node.cl v27_8.p.nodes)), (oz (List.map Input.cl v27_8.p.inputs)), (oz (List.map Flow.cl v27_8.p.flows)), (oz (List.map Output.cl v27_8.p.outputs))] ∧ e 2 = (.pt i2 0) ∧ e 8 = (.pt i27 0) ∧ e 9 = (.v (.int .i64 v9_7)) ∧ e 10 = (.pt i10 0) ∧ e 71 = (.v (.bool (((((decide (y16.text = (⟨#[110, 111, 100, 101]⟩ : ByteArray))) || (decide (y16.text = (⟨#[105, 110, 112, 117, 116]⟩ : ByteArray)))) || (decide (y16.text = (⟨#[102, 108, 111, 119]⟩ : ByteArray)))) || (decide (y16.text = (⟨#[111, 117, 116, 112, 117, 116]⟩ : ByteArray)))) && (decide (v9_7 = (40 : Int)))))) ∧ i10 ≠ i2 ∧ i10 ≠ i27 ∧ i2 ≠ i27 ∧ Pre σ s) ?_ fun e s hI => ?_
     ·cases hb21 : ((((decide (y16.text = (⟨#[110, 111, 100, 101]⟩ : ByteArray))) || (decide (y16.text = (⟨#[105, 110, 112, 117, 116]⟩ : ByteArray)))) || (decide (y16.text = (⟨#[102, 108, 111, 119]⟩ : ByteArray)))) || (decide (y16.text = (⟨#[111, 117, 116, 112, 117, 116]⟩ : ByteArray))))
      ·refine w_x (cj10 E2 E8 E9 E10 E11 X10.get X2.get X27.get hb21 TT) (k := ?_)
       have q14 := cj10 E2 E8 E9 E10 E11 X10.get X2.get X27.get hb21 TT
       exact cw_n ⟨_, WkE.refl _, X10, X2, X27, (xv q14), (xv q14), (xv q14), (xv q14), (xv q14), N10__2, N10__27, N2__27, hP⟩
      ·refine w_x (cj10 E2 E8 E9 E10 E11 X10.get X2.get X27.get hb21 TT) (k := ?_)
       have q15 := cj10 E2 E8 E9 E10 E11 X10.get X2.get X27.get hb21 TT
       exact cw_n ⟨_, WkE.refl _, X10, X2, X27, (xv q15), (xv q15), (xv q15), (xv q15), (xv q15), N10__2, N10__27, N2__27, hP⟩
     obtain ⟨X10, X2, X27, E2, E8, E9, E10, E71, N10__2, N10__27, N2__27, hP⟩ := hI
     obtain ⟨x22, h23, h14⟩ := bnd_some h14
     refine w_sa (fun e s => ∃ v27_24 : syntax_reader, v27_24 = x22 ∧ Bx σ s i10 85 [(.v (.int .i64 y16.kind)), (.v (.string y16.text)), (.v (.int .i64 y16.n)), (.v (.int .i64 y16.at_))] ∧ Bx σ s i2 27 [(.sl []), (.sl []), (.sl []), (.sl [])] ∧ Bx σ s i27 155 [(.sl (List.map lex_Token.cl v27_24.l)), (.v (.int .i64 v27_24.end_)), (.v (.int .i64 v27_24.pos)), (.v (.int .i64 v27_24.at_)), (.v (.int .i64 v27_24.e)), (oz (List.map Node.cl v27_24.p.nodes)), (oz (List.map Input.cl v27_24.p.inputs)), (oz (List.map Flow.cl v27_24.p.flows)), (oz (List.map Output.cl v27_24.p.outputs))] ∧ e 2 = (.pt i2 0) ∧ e 8 = (.pt i27 0) ∧ e 9 = (.v (.int .i64 v9_7)) ∧ e 10 = (.pt i10 0) ∧ i10 ≠ i2 ∧ i10 ≠ i27 ∧ i2 ≠ i27 ∧ Pre σ s) ?_ fun e s hI => ?_
     ·rcases ite_some h23 with ⟨hb25, h23⟩ | ⟨hb25, h23⟩
      ·refine xt (cj6 E2 E8 E9 E10 E71 hb25) ?_
       obtain ⟨y26, h27, h23⟩ := bnd_some h23
       refine w_x (cj12 E2 E8 E9 E10 E71 X10.get X2.get X27.get (X10.ne (Ne.symm N10__27) (some (AObj.box 155 [(.sl (List.map lex_Token.cl y26.2.l)), (.v (.int .i64 y26.2.end_)), (.v (.int .i64 y26.2.pos)), (.v (.int .i64 y26.2.at_)), (.v (.int .i64 y26.2.e)), (oz (List.map Node.cl y26.2.p.nodes)), (oz (List.map Input.cl y26.2.p.inputs)), (oz (List.map Flow.cl y26.2.p.flows)), (oz (List.map Output.cl y26.2.p.outputs))]))).get (X2.ne (Ne.symm N2__27) (some (AObj.box 155 [(.sl (List.map lex_Token.cl y26.2.l)), (.v (.int .i64 y26.2.end_)), (.v (.int .i64 y26.2.pos)), (.v (.int .i64 y26.2.at_)), (.v (.int .i64 y26.2.e)), (oz (List.map Node.cl y26.2.p.nodes)), (oz (List.map Input.cl y26.2.p.inputs)), (oz (List.map Flow.cl y26.2.p.flows)), (oz (List.map Output.cl y26.2.p.outputs))]))).get (X27.same 155 [(.sl (List.map lex_Token.cl y26.2.l)), (.v (.int .i64 y26.2.end_)), (.v (.int .i64 y26.2.pos)), (.v (.int .i64 y26.2.at_)), (.v (.int .i64 y26.2.e)), (oz (List.map Node.cl y26.2.p.nodes)), (oz (List.map Input.cl y26.2.p.inputs)), (oz (List.map Flow.cl y26.2.p.flows)), (oz (List.map Output.cl y26.2.p.outputs))]).get TT) (k := ?_)
       refine EC.wka (.cons (.refl _) (.cons (.refl _) (.cons (.refl _) .nil))) (S_syntax_reader_fail _ _ _ _ h27 _ _ _ X27.gx ?_)
       refine w_y (cj12 E2 E8 E9 E10 E71 X10.get X2.get X27.get (X10.ne (Ne.symm N10__27) (some (AObj.box 155 [(.sl (List.map lex_Token.cl y26.2.l)), (.v (.int .i64 y26.2.end_)), (.v (.int .i64 y26.2.pos)), (.v (.int .i64 y26.2.at_)), (.v (.int .i64 y26.2.e)), (oz (List.map Node.cl y26.2.p.nodes)), (oz (List.map Input.cl y26.2.p.inputs)), (oz (List.map Flow.cl y26.2.p.flows)), (oz (List.map Output.cl y26.2.p.outputs))]))).get (X2.ne (Ne.symm N2__27) (some (AObj.box 155 [(.sl (List.map lex_Token.cl y26.2.l)), (.v (.int .i64 y26.2.end_)), (.v (.int .i64 y26.2.pos)), (.v (.int .i64 y26.2.at_)), (.v (.int .i64 y26.2.e)), (oz (List.map Node.cl y26.2.p.nodes)), (oz (List.map Input.cl y26.2.p.inputs)), (oz (List.map Flow.cl y26.2.p.flows)), (oz (List.map Output.cl y26.2.p.outputs))]))).get (X27.same 155 [(.sl (List.map lex_Token.cl y26.2.l)), (.v (.int .i64 y26.2.end_)), (.v (.int .i64 y26.2.pos)), (.v (.int .i64 y26.2.at_)), (.v (.int .i64 y26.2.e)), (oz (List.map Node.cl y26.2.p.nodes)), (oz (List.map Input.cl y26.2.p.inputs)), (oz (List.map Flow.cl y26.2.p.flows)), (oz (List.map Output.cl y26.2.p.outputs))]).get TT) (k := ?_)
       obtain rfl := some_inj h23
       have q16 := X27.same 155 [(.sl (List.map lex_Token.cl y26.2.l)), (.v (.int .i64 y26.2.end_)), (.v (.int .i64 y26.2.pos)), (.v (.int .i64 y26.2.at_)), (.v (.int .i64 y26.2.e)), (oz (List.map Node.cl y26.2.p.nodes)), (oz (List.map Input.cl y26.2.p.inputs)), (oz (List.map Flow.cl y26.2.p.flows)), (oz (List.map Output.cl y26.2.p.outputs))]
       have q17 := X2.ne (Ne.symm N2__27) (some (AObj.box 155 [(.sl (List.map lex_Token.cl y26.2.l)), (.v (.int .i64 y26.2.end_)), (.v (.int .i64 y26.2.pos)), (.v (.int .i64 y26.2.at_)), (.v (.int .i64 y26.2.e)), (oz (List.map Node.cl y26.2.p.nodes)), (oz (List.map Input.cl y26.2.p.inputs)), (oz (List.map Flow.cl y26.2.p.flows)), (oz (List.map Output.cl y26.2.p.outputs))]))
       have q18 := X10.ne (Ne.symm N10__27) (some (AObj.box 155 [(.sl (List.map lex_Token.cl y26.2.l)), (.v (.int .i64 y26.2.end_)), (.v (.int .i64 y26.2.pos)), (.v (.int .i64 y26.2.at_)), (.v (.int .i64 y26.2.e)), (oz (List.map Node.cl y26.2.p.nodes)), (oz (List.map Input.cl y26.2.p.inputs)), (oz (List.map Flow.cl y26.2.p.flows)), (oz (List.map Output.cl y26.2.p.outputs))]))
       have q19 := cj12 E2 E8 E9 E10 E71 X10.get X2.get X27.get q18.get q17.get q16.get TT
       exact cw_n ⟨_, WkE.refl _, _, rfl, q18, q17, q16, (xv q19), (xv q19), (xv q19), (xv q19), N10__2, N10__27, N2__27, (hP.set X27.le (some (AObj.box 155 [(.sl (List.map lex_Token.cl y26.2.l)), (.v (.int .i64 y26.2.end_)), (.v (.int .i64 y26.2.pos)), (.v (.int .i64 y26.2.at_)), (.v (.int .i64 y26.2.e)), (oz (List.map Node.cl y26.2.p.nodes)), (oz (List.map Input.cl y26.2.p.inputs)), (oz (List.map Flow.cl y26.2.p.flows)), (oz (List.map Output.cl y26.2.p.outputs))])))⟩
      ·refine xf (cj6 E2 E8 E9 E10 E71 hb25) ?_
       refine w_skip ?_
       obtain rfl := some_inj h23
       have q20 := cj5 E2 E8 E9 E10 E71
       exact cw_n ⟨_, WkE.refl _, _, rfl, X10, X2, X27, (xv q20), (xv q20), (xv q20), (xv q20), N10__2, N10__27, N2__27, hP⟩
     obtain ⟨v27_24, rfl, X10, X2, X27, E2, E8, E9, E10, N10__2, N10__27, N2__27, hP⟩ := hI
     try dsimp only at h14
     obtain ⟨x28, h29, h14⟩ := bnd_some h14
     refine w_an (fun e s => ∃ v27_30 : syntax_reader, v27_30 = x28 ∧ Bx σ s i2 27 [(.sl []), (.sl []), (.sl []), (.sl [])] ∧ Bx σ s i27 155 [(.sl (List.map lex_Token.cl v27_30.l)), (.v (.int .i64 v27_30.end_)), (.v (.int .i64 v27_30.pos)), (.v (.int .i64 v27_30.at_)), (.v (.int .i64 v27_30.e)), (oz (List.map Node.cl v27_30.p.nodes)), (oz (List.map Input.cl v27_30.p.inputs)), (oz (List.map Flow.cl v27_30.p.flows)), (oz (List.map Output.cl v27_30.p.outputs))] ∧ e 2 = (.pt i2 0) ∧ e 8 = (.pt i27 0) ∧ e 9 = (.v (.int .i64 v9_7)) ∧ i2 ≠ i27 ∧ Pre σ s) ?_ fun e s hI => ?_
     ·refine w_block ?_
      obtain ⟨y31, h32, h29⟩ := bnd_some h29
      refine w_sa (fun e s => Bx σ s i10 85 [(.v (.int .i64 y16.kind)), (.v (.string y16.text)), (.v (.int .i64 y16.n)), (.v (.int .i64 y16.at_))] ∧ Bx σ s i2 27 [(.sl []), (.sl []), (.sl []), (.sl [])] ∧ Bx σ s i27 155 [(.sl (List.map lex_Token.cl y31.2.l)), (.v (.int .i64 y31.2.end_)), (.v (.int .i64 y31.2.pos)), (.v (.int .i64 y31.2.at_)), (.v (.int .i64 y31.2.e)), (oz (List.map Node.cl y31.2.p.nodes)), (oz (List.map Input.cl y31.2.p.inputs)), (oz (List.map Flow.cl y31.2.p.flows)), (oz (List.map Output.cl y31.2.p.outputs))] ∧ e 2 = (.pt i2 0) ∧ e 8 = (.pt i27 0) ∧ e 9 = (.v (.int .i64 v9_7)) ∧ e 10 = (.pt i10 0) ∧ e 80 = (.v (.bool y31.1)) ∧ i10 ≠ i2 ∧ i10 ≠ i27 ∧ i2 ≠ i27 ∧ Pre σ s) ?_ fun e s hI => ?_
      ·refine w_x (cj11 E2 E8 E9 E10 X10.get X2.get X27.get (X10.ne (Ne.symm N10__27) (some (AObj.box 155 [(.sl (List.map lex_Token.cl y31.2.l)), (.v (.int .i64 y31.2.end_)), (.v (.int .i64 y31.2.pos)), (.v (.int .i64 y31.2.at_)), (.v (.int .i64 y31.2.e)), (oz (List.map Node.cl y31.2.p.nodes)), (oz (List.map Input.cl y31.2.p.inputs)), (oz (List.map Flow.cl y31.2.p.flows)), (oz (List.map Output.cl y31.2.p.outputs))]))).get (X2.ne (Ne.symm N2__27) (some (AObj.box 155 [(.sl (List.map lex_Token.cl y31.2.l)), (.v (.int .i64 y31.2.end_)), (.v (.int .i64 y31.2.pos)), (.v (.int .i64 y31.2.at_)), (.v (.int .i64 y31.2.e)), (oz (List.map Node.cl y31.2.p.nodes)), (oz (List.map Input.cl y31.2.p.inputs)), (oz (List.map Flow.cl y31.2.p.flows)), (oz (List.map Output.cl y31.2.p.outputs))]))).get (X27.same 155 [(.sl (List.map lex_Token.cl y31.2.l)), (.v (.int .i64 y31.2.end_)), (.v (.int .i64 y31.2.pos)), (.v (.int .i64 y31.2.at_)), (.v (.int .i64 y31.2.e)), (oz (List.map Node.cl y31.2.p.nodes)), (oz (List.map Input.cl y31.2.p.inputs)), (oz (List.map Flow.cl y31.2.p.flows)), (oz (List.map Output.cl y31.2.p.outputs))]).get TT) (k := ?_)
       refine EC.wka (.cons (.refl _) (.cons (.refl _) .nil)) (S_syntax_reader_can _ _ _ h32 _ _ _ X27.gx ?_)
       refine w_y (cj11 E2 E8 E9 E10 X10.get X2.get X27.get (X10.ne (Ne.symm N10__27) (some (AObj.box 155 [(.sl (List.map lex_Token.cl y31.2.l)), (.v (.int .i64 y31.2.end_)), (.v (.int .i64 y31.2.pos)), (.v (.int .i64 y31.2.at_)), (.v (.int .i64 y31.2.e)), (oz (List.map Node.cl y31.2.p.nodes)), (oz (List.map Input.cl y31.2.p.inputs)), (oz (List.map Flow.cl y31.2.p.flows)), (oz (List.map Output.cl y31.2.p.outputs))]))).get (X2.ne (Ne.symm N2__27) (some (AObj.box 155 [(.sl (List.map lex_Token.cl y31.2.l)), (.v (.int .i64 y31.2.end_)), (.v (.int .i64 y31.2.pos)), (.v (.int .i64 y31.2.at_)), (.v (.int .i64 y31.2.e)), (oz (List.map Node.cl y31.2.p.nodes)), (oz (List.map Input.cl y31.2.p.inputs)), (oz (List.map Flow.cl y31.2.p.flows)), (oz (List.map Output.cl y31.2.p.outputs))]))).get (X27.same 155 [(.sl (List.map lex_Token.cl y31.2.l)), (.v (.int .i64 y31.2.end_)), (.v (.int .i64 y31.2.pos)), (.v (.int .i64 y31.2.at_)), (.v (.int .i64 y31.2.e)), (oz (List.map Node.cl y31.2.p.nodes)), (oz (List.map Input.cl y31.2.p.inputs)), (oz (List.map Flow.cl y31.2.p.flows)), (oz (List.map Output.cl y31.2.p.outputs))]).get TT) (k := ?_)
       have q21 := X27.same 155 [(.sl (List.map lex_Token.cl y31.2.l)), (.v (.int .i64 y31.2.end_)), (.v (.int .i64 y31.2.pos)), (.v (.int .i64 y31.2.at_)), (.v (.int .i64 y31.2.e)), (oz (List.map Node.cl y31.2.p.nodes)), (oz (List.map Input.cl y31.2.p.inputs)), (oz (List.map Flow.cl y31.2.p.flows)), (oz (List.map Output.cl y31.2.p.outputs))]
       have q22 := X2.ne (Ne.symm N2__27) (some (AObj.box 155 [(.sl (List.map lex_Token.cl y31.2.l)), (.v (.int .i64 y31.2.end_)), (.v (.int .i64 y31.2.pos)), (.v (.int .i64 y31.2.at_)), (.v (.int .i64 y31.2.e)), (oz (List.map Node.cl y31.2.p.nodes)), (oz (List.map Input.cl y31.2.p.inputs)), (oz (List.map Flow.cl y31.2.p.flows)), (oz (List.map Output.cl y31.2.p.outputs))]))
       have q23 := X10.ne (Ne.symm N10__27) (some (AObj.box 155 [(.sl (List.map lex_Token.cl y31.2.l)), (.v (.int .i64 y31.2.end_)), (.v (.int .i64 y31.2.pos)), (.v (.int .i64 y31.2.at_)), (.v (.int .i64 y31.2.e)), (oz (List.map Node.cl y31.2.p.nodes)), (oz (List.map Input.cl y31.2.p.inputs)), (oz (List.map Flow.cl y31.2.p.flows)), (oz (List.map Output.cl y31.2.p.outputs))]))
       have q24 := cj11 E2 E8 E9 E10 X10.get X2.get X27.get q23.get q22.get q21.get TT
       exact cw_n ⟨_, WkE.refl _, q23, q22, q21, (xv q24), (xv q24), (xv q24), (xv q24), (xv q24), N10__2, N10__27, N2__27, (hP.set X27.le (some (AObj.box 155 [(.sl (List.map lex_Token.cl y31.2.l)), (.v (.int .i64 y31.2.end_)), (.v (.int .i64 y31.2.pos)), (.v (.int .i64 y31.2.at_)), (.v (.int .i64 y31.2.e)), (oz (List.map Node.cl y31.2.p.nodes)), (oz (List.map Input.cl y31.2.p.inputs)), (oz (List.map Flow.cl y31.2.p.flows)), (oz (List.map Output.cl y31.2.p.outputs))])))⟩
      obtain ⟨X10, X2, X27, E2, E8, E9, E10, E80, N10__2, N10__27, N2__27, hP⟩ := hI
      obtain ⟨x33, h34, h29⟩ := bnd_some h29
      refine w_an (fun e s => ∃ v27_35 : syntax_reader, v27_35 = x33 ∧ Bx σ s i2 27 [(.sl []), (.sl []), (.sl []), (.sl [])] ∧ Bx σ s i27 155 [(.sl (List.map lex_Token.cl v27_35.l)), (.v (.int .i64 v27_35.end_)), (.v (.int .i64 v27_35.pos)), (.v (.int .i64 v27_35.at_)), (.v (.int .i64 v27_35.e)), (oz (List.map Node.cl v27_35.p.nodes)), (oz (List.map Input.cl v27_35.p.inputs)), (oz (List.map Flow.cl v27_35.p.flows)), (oz (List.map Output.cl v27_35.p.outputs))] ∧ e 2 = (.pt i2 0) ∧ e 8 = (.pt i27 0) ∧ e 9 = (.v (.int .i64 v9_7)) ∧ i2 ≠ i27 ∧ Pre σ s) ?_ fun e s hI => ?_
      ·rcases ite_some h34 with ⟨hb36, h34⟩ | ⟨hb36, h34⟩
       ·refine xt (cj6 E2 E8 E9 E10 E80 hb36) ?_
        cases h34
       ·refine xf (cj6 E2 E8 E9 E10 E80 hb36) ?_
        obtain ⟨y37, h38, h34⟩ := bnd_some h34
        refine w_sa (fun e s => Bx σ s i10 85 [(.v (.int .i64 y16.kind)), (.v (.string y16.text)), (.v (.int .i64 y16.n)), (.v (.int .i64 y16.at_))] ∧ Bx σ s i2 27 [(.sl []), (.sl []), (.sl []), (.sl [])] ∧ Bx σ s i27 155 [(.sl (List.map lex_Token.cl y37.2.l)), (.v (.int .i64 y37.2.end_)), (.v (.int .i64 y37.2.pos)), (.v (.int .i64 y37.2.at_)), (.v (.int .i64 y37.2.e)), (oz (List.map Node.cl y37.2.p.nodes)), (oz (List.map Input.cl y37.2.p.inputs)), (oz (List.map Flow.cl y37.2.p.flows)), (oz (List.map Output.cl y37.2.p.outputs))] ∧ e 2 = (.pt i2 0) ∧ e 8 = (.pt i27 0) ∧ e 9 = (.v (.int .i64 v9_7)) ∧ e 10 = (.pt i10 0) ∧ e 85 = (.v (.bool y37.1)) ∧ i10 ≠ i2 ∧ i10 ≠ i27 ∧ i2 ≠ i27 ∧ Pre σ s) ?_ fun e s hI => ?_
        ·refine w_x (cj12 E2 E8 E9 E10 E80 X10.get X2.get X27.get (X10.ne (Ne.symm N10__27) (some (AObj.box 155 [(.sl (List.map lex_Token.cl y37.2.l)), (.v (.int .i64 y37.2.end_)), (.v (.int .i64 y37.2.pos)), (.v (.int .i64 y37.2.at_)), (.v (.int .i64 y37.2.e)), (oz (List.map Node.cl y37.2.p.nodes)), (oz (List.map Input.cl y37.2.p.inputs)), (oz (List.map Flow.cl y37.2.p.flows)), (oz (List.map Output.cl y37.2.p.outputs))]))).get (X2.ne (Ne.symm N2__27) (some (AObj.box 155 [(.sl (List.map lex_Token.cl y37.2.l)), (.v (.int .i64 y37.2.end_)), (.v (.int .i64 y37.2.pos)), (.v (.int .i64 y37.2.at_)), (.v (.int .i64 y37.2.e)), (oz (List.map Node.cl y37.2.p.nodes)), (oz (List.map Input.cl y37.2.p.inputs)), (oz (List.map Flow.cl y37.2.p.flows)), (oz (List.map Output.cl y37.2.p.outputs))]))).get (X27.same 155 [(.sl (List.map lex_Token.cl y37.2.l)), (.v (.int .i64 y37.2.end_)), (.v (.int .i64 y37.2.pos)), (.v (.int .i64 y37.2.at_)), (.v (.int .i64 y37.2.e)), (oz (List.map Node.cl y37.2.p.nodes)), (oz (List.map Input.cl y37.2.p.inputs)), (oz (List.map Flow.cl y37.2.p.flows)), (oz (List.map Output.cl y37.2.p.outputs))]).get TT) (k := ?_)
         refine EC.wka (.cons (.refl _) (.cons (.refl _) .nil)) (S_syntax_reader_can _ _ _ h38 _ _ _ X27.gx ?_)
         refine w_y (cj12 E2 E8 E9 E10 E80 X10.get X2.get X27.get (X10.ne (Ne.symm N10__27) (some (AObj.box 155 [(.sl (List.map lex_Token.cl y37.2.l)), (.v (.int .i64 y37.2.end_)), (.v (.int .i64 y37.2.pos)), (.v (.int .i64 y37.2.at_)), (.v (.int .i64 y37.2.e)), (oz (List.map Node.cl y37.2.p.nodes)), (oz (List.map Input.cl y37.2.p.inputs)), (oz (List.map Flow.cl y37.2.p.flows)), (oz (List.map Output.cl y37.2.p.outputs))]))).get (X2.ne (Ne.symm N2__27) (some (AObj.box 155 [(.sl (List.map lex_Token.cl y37.2.l)), (.v (.int .i64 y37.2.end_)), (.v (.int .i64 y37.2.pos)), (.v (.int .i64 y37.2.at_)), (.v (.int .i64 y37.2.e)), (oz (List.map Node.cl y37.2.p.nodes)), (oz (List.map Input.cl y37.2.p.inputs)), (oz (List.map Flow.cl y37.2.p.flows)), (oz (List.map Output.cl y37.2.p.outputs))]))).get (X27.same 155 [(.sl (List.map lex_Token.cl y37.2.l)), (.v (.int .i64 y37.2.end_)), (.v (.int .i64 y37.2.pos)), (.v (.int .i64 y37.2.at_)), (.v (.int .i64 y37.2.e)), (oz (List.map Node.cl y37.2.p.nodes)), (oz (List.map Input.cl y37.2.p.inputs)), (oz (List.map Flow.cl y37.2.p.flows)), (oz (List.map Output.cl y37.2.p.outputs))]).get TT) (k := ?_)
         have q25 := X27.same 155 [(.sl (List.map lex_Token.cl y37.2.l)), (.v (.int .i64 y37.2.end_)), (.v (.int .i64 y37.2.pos)), (.v (.int .i64 y37.2.at_)), (.v (.int .i64 y37.2.e)), (oz (List.map Node.cl y37.2.p.nodes)), (oz (List.map Input.cl y37.2.p.inputs)), (oz (List.map Flow.cl y37.2.p.flows)), (oz (List.map Output.cl y37.2.p.outputs))]
         have q26 := X2.ne (Ne.symm N2__27) (some (AObj.box 155 [(.sl (List.map lex_Token.cl y37.2.l)), (.v (.int .i64 y37.2.end_)), (.v (.int .i64 y37.2.pos)), (.v (.int .i64 y37.2.at_)), (.v (.int .i64 y37.2.e)), (oz (List.map Node.cl y37.2.p.nodes)), (oz (List.map Input.cl y37.2.p.inputs)), (oz (List.map Flow.cl y37.2.p.flows)), (oz (List.map Output.cl y37.2.p.outputs))]))
         have q27 := X10.ne (Ne.symm N10__27) (some (AObj.box 155 [(.sl (List.map lex_Token.cl y37.2.l)), (.v (.int .i64 y37.2.end_)), (.v (.int .i64 y37.2.pos)), (.v (.int .i64 y37.2.at_)), (.v (.int .i64 y37.2.e)), (oz (List.map Node.cl y37.2.p.nodes)), (oz (List.map Input.cl y37.2.p.inputs)), (oz (List.map Flow.cl y37.2.p.flows)), (oz (List.map Output.cl y37.2.p.outputs))]))
         have q28 := cj12 E2 E8 E9 E10 E80 X10.get X2.get X27.get q27.get q26.get q25.get TT
         exact cw_n ⟨_, WkE.refl _, q27, q26, q25, (xv q28), (xv q28), (xv q28), (xv q28), (xv q28), N10__2, N10__27, N2__27, (hP.set X27.le (some (AObj.box 155 [(.sl (List.map lex_Token.cl y37.2.l)), (.v (.int .i64 y37.2.end_)), (.v (.int .i64 y37.2.pos)), (.v (.int .i64 y37.2.at_)), (.v (.int .i64 y37.2.e)), (oz (List.map Node.cl y37.2.p.nodes)), (oz (List.map Input.cl y37.2.p.inputs)), (oz (List.map Flow.cl y37.2.p.flows)), (oz (List.map Output.cl y37.2.p.outputs))])))⟩
        obtain ⟨X10, X2, X27, E2, E8, E9, E10, E85, N10__2, N10__27, N2__27, hP⟩ := hI
        obtain ⟨x39, h40, h34⟩ := bnd_some h34
        refine w_an (fun e s => ∃ v27_41 : syntax_reader, v27_41 = x39 ∧ Bx σ s i2 27 [(.sl []), (.sl []), (.sl []), (.sl [])] ∧ Bx σ s i27 155 [(.sl (List.map lex_Token.cl v27_41.l)), (.v (.int .i64 v27_41.end_)), (.v (.int .i64 v27_41.pos)), (.v (.int .i64 v27_41.at_)), (.v (.int .i64 v27_41.e)), (oz (List.map Node.cl v27_41.p.nodes)), (oz (List.map Input.cl v27_41.p.inputs)), (oz (List.map Flow.cl v27_41.p.flows)), (oz (List.map Output.cl v27_41.p.outputs))] ∧ e 2 = (.pt i2 0) ∧ e 8 = (.pt i27 0) ∧ e 9 = (.v (.int .i64 v9_7)) ∧ i2 ≠ i27 ∧ Pre σ s) ?_ fun e s hI => ?_
        ·rcases ite_some h40 with ⟨hb42, h40⟩ | ⟨hb42, h40⟩
         ·refine xt (cj6 E2 E8 E9 E10 E85 hb42) ?_
          cases h40
         ·refine xf (cj6 E2 E8 E9 E10 E85 hb42) ?_
          obtain ⟨y43, h44, h40⟩ := bnd_some h40
          refine w_sa (fun e s => Bx σ s i10 85 [(.v (.int .i64 y16.kind)), (.v (.string y16.text)), (.v (.int .i64 y16.n)), (.v (.int .i64 y16.at_))] ∧ Bx σ s i2 27 [(.sl []), (.sl []), (.sl []), (.sl [])] ∧ Bx σ s i27 155 [(.sl (List.map lex_Token.cl y43.2.l)), (.v (.int .i64 y43.2.end_)), (.v (.int .i64 y43.2.pos)), (.v (.int .i64 y43.2.at_)), (.v (.int .i64 y43.2.e)), (oz (List.map Node.cl y43.2.p.nodes)), (oz (List.map Input.cl y43.2.p.inputs)), (oz (List.map Flow.cl y43.2.p.flows)), (oz (List.map Output.cl y43.2.p.outputs))] ∧ e 2 = (.pt i2 0) ∧ e 8 = (.pt i27 0) ∧ e 9 = (.v (.int .i64 v9_7)) ∧ e 10 = (.pt i10 0) ∧ e 90 = (.v (.bool y43.1)) ∧ i10 ≠ i2 ∧ i10 ≠ i27 ∧ i2 ≠ i27 ∧ Pre σ s) ?_ fun e s hI => ?_
          ·refine w_x (cj12 E2 E8 E9 E10 E85 X10.get X2.get X27.get (X10.ne (Ne.symm N10__27) (some (AObj.box 155 [(.sl (List.map lex_Token.cl y43.2.l)), (.v (.int .i64 y43.2.end_)), (.v (.int .i64 y43.2.pos)), (.v (.int .i64 y43.2.at_)), (.v (.int .i64 y43.2.e)), (oz (List.map Node.cl y43.2.p.nodes)), (oz (List.map Input.cl y43.2.p.inputs)), (oz (List.map Flow.cl y43.2.p.flows)), (oz (List.map Output.cl y43.2.p.outputs))]))).get (X2.ne (Ne.symm N2__27) (some (AObj.box 155 [(.sl (List.map lex_Token.cl y43.2.l)), (.v (.int .i64 y43.2.end_)), (.v (.int .i64 y43.2.pos)), (.v (.int .i64 y43.2.at_)), (.v (.int .i64 y43.2.e)), (oz (List.map Node.cl y43.2.p.nodes)), (oz (List.map Input.cl y43.2.p.inputs)), (oz (List.map Flow.cl y43.2.p.flows)), (oz (List.map Output.cl y43.2.p.outputs))]))).get (X27.same 155 [(.sl (List.map lex_Token.cl y43.2.l)), (.v (.int .i64 y43.2.end_)), (.v (.int .i64 y43.2.pos)), (.v (.int .i64 y43.2.at_)), (.v (.int .i64 y43.2.e)), (oz (List.map Node.cl y43.2.p.nodes)), (oz (List.map Input.cl y43.2.p.inputs)), (oz (List.map Flow.cl y43.2.p.flows)), (oz (List.map Output.cl y43.2.p.outputs))]).get TT) (k := ?_)
           refine EC.wka (.cons (.refl _) (.cons (.refl _) .nil)) (S_syntax_reader_can _ _ _ h44 _ _ _ X27.gx ?_)
           refine w_y (cj12 E2 E8 E9 E10 E85 X10.get X2.get X27.get (X10.ne (Ne.symm N10__27) (some (AObj.box 155 [(.sl (List.map lex_Token.cl y43.2.l)), (.v (.int .i64 y43.2.end_)), (.v (.int .i64 y43.2.pos)), (.v (.int .i64 y43.2.at_)), (.v (.int .i64 y43.2.e)), (oz (List.map Node.cl y43.2.p.nodes)), (oz (List.map Input.cl y43.2.p.inputs)), (oz (List.map Flow.cl y43.2.p.flows)), (oz (List.map Output.cl y43.2.p.outputs))]))).get (X2.ne (Ne.symm N2__27) (some (AObj.box 155 [(.sl (List.map lex_Token.cl y43.2.l)), (.v (.int .i64 y43.2.end_)), (.v (.int .i64 y43.2.pos)), (.v (.int .i64 y43.2.at_)), (.v (.int .i64 y43.2.e)), (oz (List.map Node.cl y43.2.p.nodes)), (oz (List.map Input.cl y43.2.p.inputs)), (oz (List.map Flow.cl y43.2.p.flows)), (oz (List.map Output.cl y43.2.p.outputs))]))).get (X27.same 155 [(.sl (List.map lex_Token.cl y43.2.l)), (.v (.int .i64 y43.2.end_)), (.v (.int .i64 y43.2.pos)), (.v (.int .i64 y43.2.at_)), (.v (.int .i64 y43.2.e)), (oz (List.map Node.cl y43.2.p.nodes)), (oz (List.map Input.cl y43.2.p.inputs)), (oz (List.map Flow.cl y43.2.p.flows)), (oz (List.map Output.cl y43.2.p.outputs))]).get TT) (k := ?_)
           have q29 := X27.same 155 [(.sl (List.map lex_Token.cl y43.2.l)), (.v (.int .i64 y43.2.end_)), (.v (.int .i64 y43.2.pos)), (.v (.int .i64 y43.2.at_)), (.v (.int .i64 y43.2.e)), (oz (List.map Node.cl y43.2.p.nodes)), (oz (List.map Input.cl y43.2.p.inputs)), (oz (List.map Flow.cl y43.2.p.flows)), (oz (List.map Output.cl y43.2.p.outputs))]
           have q30 := X2.ne (Ne.symm N2__27) (some (AObj.box 155 [(.sl (List.map lex_Token.cl y43.2.l)), (.v (.int .i64 y43.2.end_)), (.v (.int .i64 y43.2.pos)), (.v (.int .i64 y43.2.at_)), (.v (.int .i64 y43.2.e)), (oz (List.map Node.cl y43.2.p.nodes)), (oz (List.map Input.cl y43.2.p.inputs)), (oz (List.map Flow.cl y43.2.p.flows)), (oz (List.map Output.cl y43.2.p.outputs))]))
           have q31 := X10.ne (Ne.symm N10__27) (some (AObj.box 155 [(.sl (List.map lex_Token.cl y43.2.l)), (.v (.int .i64 y43.2.end_)), (.v (.int .i64 y43.2.pos)), (.v (.int .i64 y43.2.at_)), (.v (.int .i64 y43.2.e)), (oz (List.map Node.cl y43.2.p.nodes)), (oz (List.map Input.cl y43.2.p.inputs)), (oz (List.map Flow.cl y43.2.p.flows)), (oz (List.map Output.cl y43.2.p.outputs))]))
           have q32 := cj12 E2 E8 E9 E10 E85 X10.get X2.get X27.get q31.get q30.get q29.get TT
           exact cw_n ⟨_, WkE.refl _, q31, q30, q29, (xv q32), (xv q32), (xv q32), (xv q32), (xv q32), N10__2, N10__27, N2__27, (hP.set X27.le (some (AObj.box 155 [(.sl (List.map lex_Token.cl y43.2.l)), (.v (.int .i64 y43.2.end_)), (.v (.int .i64 y43.2.pos)), (.v (.int .i64 y43.2.at_)), (.v (.int .i64 y43.2.e)), (oz (List.map Node.cl y43.2.p.nodes)), (oz (List.map Input.cl y43.2.p.inputs)), (oz (List.map Flow.cl y43.2.p.flows)), (oz (List.map Output.cl y43.2.p.outputs))])))⟩
          obtain ⟨X10, X2, X27, E2, E8, E9, E10, E90, N10__2, N10__27, N2__27, hP⟩ := hI
          obtain ⟨x45, h46, h40⟩ := bnd_some h40
          refine w_an (fun e s => ∃ v27_47 : syntax_reader, v27_47 = x45 ∧ Bx σ s i2 27 [(.sl []), (.sl []), (.sl []), (.sl [])] ∧ Bx σ s i27 155 [(.sl (List.map lex_Token.cl v27_47.l)), (.v (.int .i64 v27_47.end_)), (.v (.int .i64 v27_47.pos)), (.v (.int .i64 v27_47.at_)), (.v (.int .i64 v27_47.e)), (oz (List.map Node.cl v27_47.p.nodes)), (oz (List.map Input.cl v27_47.p.inputs)), (oz (List.map Flow.cl v27_47.p.flows)), (oz (List.map Output.cl v27_47.p.outputs))] ∧ e 2 = (.pt i2 0) ∧ e 8 = (.pt i27 0) ∧ e 9 = (.v (.int .i64 v9_7)) ∧ i2 ≠ i27 ∧ Pre σ s) ?_ fun e s hI => ?_
          ·rcases ite_some h46 with ⟨hb48, h46⟩ | ⟨hb48, h46⟩
           ·refine xt (cj6 E2 E8 E9 E10 E90 hb48) ?_
            obtain ⟨y49, h50, h46⟩ := bnd_some h46
            refine w_x (cj12 E2 E8 E9 E10 E90 X10.get X2.get X27.get (X10.ne (Ne.symm N10__27) (some (AObj.box 155 [(.sl (List.map lex_Token.cl y49.2.l)), (.v (.int .i64 y49.2.end_)), (.v (.int .i64 y49.2.pos)), (.v (.int .i64 y49.2.at_)), (.v (.int .i64 y49.2.e)), (oz (List.map Node.cl y49.2.p.nodes)), (oz (List.map Input.cl y49.2.p.inputs)), (oz (List.map Flow.cl y49.2.p.flows)), (oz (List.map Output.cl y49.2.p.outputs))]))).get (X2.ne (Ne.symm N2__27) (some (AObj.box 155 [(.sl (List.map lex_Token.cl y49.2.l)), (.v (.int .i64 y49.2.end_)), (.v (.int .i64 y49.2.pos)), (.v (.int .i64 y49.2.at_)), (.v (.int .i64 y49.2.e)), (oz (List.map Node.cl y49.2.p.nodes)), (oz (List.map Input.cl y49.2.p.inputs)), (oz (List.map Flow.cl y49.2.p.flows)), (oz (List.map Output.cl y49.2.p.outputs))]))).get (X27.same 155 [(.sl (List.map lex_Token.cl y49.2.l)), (.v (.int .i64 y49.2.end_)), (.v (.int .i64 y49.2.pos)), (.v (.int .i64 y49.2.at_)), (.v (.int .i64 y49.2.e)), (oz (List.map Node.cl y49.2.p.nodes)), (oz (List.map Input.cl y49.2.p.inputs)), (oz (List.map Flow.cl y49.2.p.flows)), (oz (List.map Output.cl y49.2.p.outputs))]).get TT) (k := ?_)
            refine EC.wka (.cons (.refl _) .nil) (S_syntax_reader_flow _ _ h50 _ _ _ X27.gx ?_)
            refine w_y (cj12 E2 E8 E9 E10 E90 X10.get X2.get X27.get (X10.ne (Ne.symm N10__27) (some (AObj.box 155 [(.sl (List.map lex_Token.cl y49.2.l)), (.v (.int .i64 y49.2.end_)), (.v (.int .i64 y49.2.pos)), (.v (.int .i64 y49.2.at_)), (.v (.int .i64 y49.2.e)), (oz (List.map Node.cl y49.2.p.nodes)), (oz (List.map Input.cl y49.2.p.inputs)), (oz (List.map Flow.cl y49.2.p.flows)), (oz (List.map Output.cl y49.2.p.outputs))]))).get (X2.ne (Ne.symm N2__27) (some (AObj.box 155 [(.sl (List.map lex_Token.cl y49.2.l)), (.v (.int .i64 y49.2.end_)), (.v (.int .i64 y49.2.pos)), (.v (.int .i64 y49.2.at_)), (.v (.int .i64 y49.2.e)), (oz (List.map Node.cl y49.2.p.nodes)), (oz (List.map Input.cl y49.2.p.inputs)), (oz (List.map Flow.cl y49.2.p.flows)), (oz (List.map Output.cl y49.2.p.outputs))]))).get (X27.same 155 [(.sl (List.map lex_Token.cl y49.2.l)), (.v (.int .i64 y49.2.end_)), (.v (.int .i64 y49.2.pos)), (.v (.int .i64 y49.2.at_)), (.v (.int .i64 y49.2.e)), (oz (List.map Node.cl y49.2.p.nodes)), (oz (List.map Input.cl y49.2.p.inputs)), (oz (List.map Flow.cl y49.2.p.flows)), (oz (List.map Output.cl y49.2.p.outputs))]).get TT) (k := ?_)
            obtain rfl := some_inj h46
            have q33 := X27.same 155 [(.sl (List.map lex_Token.cl y49.2.l)), (.v (.int .i64 y49.2.end_)), (.v (.int .i64 y49.2.pos)), (.v (.int .i64 y49.2.at_)), (.v (.int .i64 y49.2.e)), (oz (List.map Node.cl y49.2.p.nodes)), (oz (List.map Input.cl y49.2.p.inputs)), (oz (List.map Flow.cl y49.2.p.flows)), (oz (List.map Output.cl y49.2.p.outputs))]
            have q34 := X2.ne (Ne.symm N2__27) (some (AObj.box 155 [(.sl (List.map lex_Token.cl y49.2.l)), (.v (.int .i64 y49.2.end_)), (.v (.int .i64 y49.2.pos)), (.v (.int .i64 y49.2.at_)), (.v (.int .i64 y49.2.e)), (oz (List.map Node.cl y49.2.p.nodes)), (oz (List.map Input.cl y49.2.p.inputs)), (oz (List.map Flow.cl y49.2.p.flows)), (oz (List.map Output.cl y49.2.p.outputs))]))
            have q35 := X10.ne (Ne.symm N10__27) (some (AObj.box 155 [(.sl (List.map lex_Token.cl y49.2.l)), (.v (.int .i64 y49.2.end_)), (.v (.int .i64 y49.2.pos)), (.v (.int .i64 y49.2.at_)), (.v (.int .i64 y49.2.e)), (oz (List.map Node.cl y49.2.p.nodes)), (oz (List.map Input.cl y49.2.p.inputs)), (oz (List.map Flow.cl y49.2.p.flows)), (oz (List.map Output.cl y49.2.p.outputs))]))
            have q36 := cj12 E2 E8 E9 E10 E90 X10.get X2.get X27.get q35.get q34.get q33.get TT
            exact ct_n ⟨_, rfl, q34, q33, (xv q36), (xv q36), (xv q36), N2__27, (hP.set X27.le (some (AObj.box 155 [(.sl (List.map lex_Token.cl y49.2.l)), (.v (.int .i64 y49.2.end_)), (.v (.int .i64 y49.2.pos)), (.v (.int .i64 y49.2.at_)), (.v (.int .i64 y49.2.e)), (oz (List.map Node.cl y49.2.p.nodes)), (oz (List.map Input.cl y49.2.p.inputs)), (oz (List.map Flow.cl y49.2.p.flows)), (oz (List.map Output.cl y49.2.p.outputs))])))⟩
           ·refine xf (cj6 E2 E8 E9 E10 E90 hb48) ?_
            obtain ⟨y51, h52, h46⟩ := bnd_some h46
            refine w_sa (fun e s => Bx σ s i10 85 [(.v (.int .i64 y16.kind)), (.v (.string y16.text)), (.v (.int .i64 y16.n)), (.v (.int .i64 y16.at_))] ∧ Bx σ s i2 27 [(.sl []), (.sl []), (.sl []), (.sl [])] ∧ Bx σ s i27 155 [(.sl (List.map lex_Token.cl y51.2.l)), (.v (.int .i64 y51.2.end_)), (.v (.int .i64 y51.2.pos)), (.v (.int .i64 y51.2.at_)), (.v (.int .i64 y51.2.e)), (oz (List.map Node.cl y51.2.p.nodes)), (oz (List.map Input.cl y51.2.p.inputs)), (oz (List.map Flow.cl y51.2.p.flows)), (oz (List.map Output.cl y51.2.p.outputs))] ∧ e 2 = (.pt i2 0) ∧ e 8 = (.pt i27 0) ∧ e 9 = (.v (.int .i64 v9_7)) ∧ e 10 = (.pt i10 0) ∧ e 95 = (.v (.bool y51.1)) ∧ i10 ≠ i2 ∧ i10 ≠ i27 ∧ i2 ≠ i27 ∧ Pre σ s) ?_ fun e s hI => ?_
            ·refine w_x (cj12 E2 E8 E9 E10 E90 X10.get X2.get X27.get (X10.ne (Ne.symm N10__27) (some (AObj.box 155 [(.sl (List.map lex_Token.cl y51.2.l)), (.v (.int .i64 y51.2.end_)), (.v (.int .i64 y51.2.pos)), (.v (.int .i64 y51.2.at_)), (.v (.int .i64 y51.2.e)), (oz (List.map Node.cl y51.2.p.nodes)), (oz (List.map Input.cl y51.2.p.inputs)), (oz (List.map Flow.cl y51.2.p.flows)), (oz (List.map Output.cl y51.2.p.outputs))]))).get (X2.ne (Ne.symm N2__27) (some (AObj.box 155 [(.sl (List.map lex_Token.cl y51.2.l)), (.v (.int .i64 y51.2.end_)), (.v (.int .i64 y51.2.pos)), (.v (.int .i64 y51.2.at_)), (.v (.int .i64 y51.2.e)), (oz (List.map Node.cl y51.2.p.nodes)), (oz (List.map Input.cl y51.2.p.inputs)), (oz (List.map Flow.cl y51.2.p.flows)), (oz (List.map Output.cl y51.2.p.outputs))]))).get (X27.same 155 [(.sl (List.map lex_Token.cl y51.2.l)), (.v (.int .i64 y51.2.end_)), (.v (.int .i64 y51.2.pos)), (.v (.int .i64 y51.2.at_)), (.v (.int .i64 y51.2.e)), (oz (List.map Node.cl y51.2.p.nodes)), (oz (List.map Input.cl y51.2.p.inputs)), (oz (List.map Flow.cl y51.2.p.flows)), (oz (List.map Output.cl y51.2.p.outputs))]).get TT) (k := ?_)
             refine EC.wka (.cons (.refl _) (.cons (.refl _) .nil)) (S_syntax_reader_can _ _ _ h52 _ _ _ X27.gx ?_)
             refine w_y (cj12 E2 E8 E9 E10 E90 X10.get X2.get X27.get (X10.ne (Ne.symm N10__27) (some (AObj.box 155 [(.sl (List.map lex_Token.cl y51.2.l)), (.v (.int .i64 y51.2.end_)), (.v (.int .i64 y51.2.pos)), (.v (.int .i64 y51.2.at_)), (.v (.int .i64 y51.2.e)), (oz (List.map Node.cl y51.2.p.nodes)), (oz (List.map Input.cl y51.2.p.inputs)), (oz (List.map Flow.cl y51.2.p.flows)), (oz (List.map Output.cl y51.2.p.outputs))]))).get (X2.ne (Ne.symm N2__27) (some (AObj.box 155 [(.sl (List.map lex_Token.cl y51.2.l)), (.v (.int .i64 y51.2.end_)), (.v (.int .i64 y51.2.pos)), (.v (.int .i64 y51.2.at_)), (.v (.int .i64 y51.2.e)), (oz (List.map Node.cl y51.2.p.nodes)), (oz (List.map Input.cl y51.2.p.inputs)), (oz (List.map Flow.cl y51.2.p.flows)), (oz (List.map Output.cl y51.2.p.outputs))]))).get (X27.same 155 [(.sl (List.map lex_Token.cl y51.2.l)), (.v (.int .i64 y51.2.end_)), (.v (.int .i64 y51.2.pos)), (.v (.int .i64 y51.2.at_)), (.v (.int .i64 y51.2.e)), (oz (List.map Node.cl y51.2.p.nodes)), (oz (List.map Input.cl y51.2.p.inputs)), (oz (List.map Flow.cl y51.2.p.flows)), (oz (List.map Output.cl y51.2.p.outputs))]).get TT) (k := ?_)
             have q37 := X27.same 155 [(.sl (List.map lex_Token.cl y51.2.l)), (.v (.int .i64 y51.2.end_)), (.v (.int .i64 y51.2.pos)), (.v (.int .i64 y51.2.at_)), (.v (.int .i64 y51.2.e)), (oz (List.map Node.cl y51.2.p.nodes)), (oz (List.map Input.cl y51.2.p.inputs)), (oz (List.map Flow.cl y51.2.p.flows)), (oz (List.map Output.cl y51.2.p.outputs))]
             have q38 := X2.ne (Ne.symm N2__27) (some (AObj.box 155 [(.sl (List.map lex_Token.cl y51.2.l)), (.v (.int .i64 y51.2.end_)), (.v (.int .i64 y51.2.pos)), (.v (.int .i64 y51.2.at_)), (.v (.int .i64 y51.2.e)), (oz (List.map Node.cl y51.2.p.nodes)), (oz (List.map Input.cl y51.2.p.inputs)), (oz (List.map Flow.cl y51.2.p.flows)), (oz (List.map Output.cl y51.2.p.outputs))]))
             have q39 := X10.ne (Ne.symm N10__27) (some (AObj.box 155 [(.sl (List.map lex_Token.cl y51.2.l)), (.v (.int .i64 y51.2.end_)), (.v (.int .i64 y51.2.pos)), (.v (.int .i64 y51.2.at_)), (.v (.int .i64 y51.2.e)), (oz (List.map Node.cl y51.2.p.nodes)), (oz (List.map Input.cl y51.2.p.inputs)), (oz (List.map Flow.cl y51.2.p.flows)), (oz (List.map Output.cl y51.2.p.outputs))]))
             have q40 := cj12 E2 E8 E9 E10 E90 X10.get X2.get X27.get q39.get q38.get q37.get TT
             exact cw_n ⟨_, WkE.refl _, q39, q38, q37, (xv q40), (xv q40), (xv q40), (xv q40), (xv q40), N10__2, N10__27, N2__27, (hP.set X27.le (some (AObj.box 155 [(.sl (List.map lex_Token.cl y51.2.l)), (.v (.int .i64 y51.2.end_)), (.v (.int .i64 y51.2.pos)), (.v (.int .i64 y51.2.at_)), (.v (.int .i64 y51.2.e)), (oz (List.map Node.cl y51.2.p.nodes)), (oz (List.map Input.cl y51.2.p.inputs)), (oz (List.map Flow.cl y51.2.p.flows)), (oz (List.map Output.cl y51.2.p.outputs))])))⟩
            obtain ⟨X10, X2, X27, E2, E8, E9, E10, E95, N10__2, N10__27, N2__27, hP⟩ := hI
            obtain ⟨x53, h54, h46⟩ := bnd_some h46
            refine w_an (fun e s => ∃ v27_55 : syntax_reader, v27_55 = x53 ∧ Bx σ s i2 27 [(.sl []), (.sl []), (.sl []), (.sl [])] ∧ Bx σ s i27 155 [(.sl (List.map lex_Token.cl v27_55.l)), (.v (.int .i64 v27_55.end_)), (.v (.int .i64 v27_55.pos)), (.v (.int .i64 v27_55.at_)), (.v (.int .i64 v27_55.e)), (oz (List.map Node.cl v27_55.p.nodes)), (oz (List.map Input.cl v27_55.p.inputs)), (oz (List.map Flow.cl v27_55.p.flows)), (oz (List.map Output.cl v27_55.p.outputs))] ∧ e 2 = (.pt i2 0) ∧ e 8 = (.pt i27 0) ∧ e 9 = (.v (.int .i64 v9_7)) ∧ i2 ≠ i27 ∧ Pre σ s) ?_ fun e s hI => ?_
            ·rcases ite_some h54 with ⟨hb56, h54⟩ | ⟨hb56, h54⟩
             ·refine xt (cj6 E2 E8 E9 E10 E95 hb56) ?_
              cases h54
             ·refine xf (cj6 E2 E8 E9 E10 E95 hb56) ?_
              obtain ⟨y57, h58, h54⟩ := bnd_some h54
              refine w_x (cj12 E2 E8 E9 E10 E95 X10.get X2.get X27.get (X10.ne (Ne.symm N10__27) (some (AObj.box 155 [(.sl (List.map lex_Token.cl y57.2.l)), (.v (.int .i64 y57.2.end_)), (.v (.int .i64 y57.2.pos)), (.v (.int .i64 y57.2.at_)), (.v (.int .i64 y57.2.e)), (oz (List.map Node.cl y57.2.p.nodes)), (oz (List.map Input.cl y57.2.p.inputs)), (oz (List.map Flow.cl y57.2.p.flows)), (oz (List.map Output.cl y57.2.p.outputs))]))).get (X2.ne (Ne.symm N2__27) (some (AObj.box 155 [(.sl (List.map lex_Token.cl y57.2.l)), (.v (.int .i64 y57.2.end_)), (.v (.int .i64 y57.2.pos)), (.v (.int .i64 y57.2.at_)), (.v (.int .i64 y57.2.e)), (oz (List.map Node.cl y57.2.p.nodes)), (oz (List.map Input.cl y57.2.p.inputs)), (oz (List.map Flow.cl y57.2.p.flows)), (oz (List.map Output.cl y57.2.p.outputs))]))).get (X27.same 155 [(.sl (List.map lex_Token.cl y57.2.l)), (.v (.int .i64 y57.2.end_)), (.v (.int .i64 y57.2.pos)), (.v (.int .i64 y57.2.at_)), (.v (.int .i64 y57.2.e)), (oz (List.map Node.cl y57.2.p.nodes)), (oz (List.map Input.cl y57.2.p.inputs)), (oz (List.map Flow.cl y57.2.p.flows)), (oz (List.map Output.cl y57.2.p.outputs))]).get TT) (k := ?_)
              refine EC.wka (.cons (.refl _) (.cons (.refl _) (.cons (.refl _) .nil))) (S_syntax_reader_fail _ _ _ _ h58 _ _ _ X27.gx ?_)
              refine w_y (cj12 E2 E8 E9 E10 E95 X10.get X2.get X27.get (X10.ne (Ne.symm N10__27) (some (AObj.box 155 [(.sl (List.map lex_Token.cl y57.2.l)), (.v (.int .i64 y57.2.end_)), (.v (.int .i64 y57.2.pos)), (.v (.int .i64 y57.2.at_)), (.v (.int .i64 y57.2.e)), (oz (List.map Node.cl y57.2.p.nodes)), (oz (List.map Input.cl y57.2.p.inputs)), (oz (List.map Flow.cl y57.2.p.flows)), (oz (List.map Output.cl y57.2.p.outputs))]))).get (X2.ne (Ne.symm N2__27) (some (AObj.box 155 [(.sl (List.map lex_Token.cl y57.2.l)), (.v (.int .i64 y57.2.end_)), (.v (.int .i64 y57.2.pos)), (.v (.int .i64 y57.2.at_)), (.v (.int .i64 y57.2.e)), (oz (List.map Node.cl y57.2.p.nodes)), (oz (List.map Input.cl y57.2.p.inputs)), (oz (List.map Flow.cl y57.2.p.flows)), (oz (List.map Output.cl y57.2.p.outputs))]))).get (X27.same 155 [(.sl (List.map lex_Token.cl y57.2.l)), (.v (.int .i64 y57.2.end_)), (.v (.int .i64 y57.2.pos)), (.v (.int .i64 y57.2.at_)), (.v (.int .i64 y57.2.e)), (oz (List.map Node.cl y57.2.p.nodes)), (oz (List.map Input.cl y57.2.p.inputs)), (oz (List.map Flow.cl y57.2.p.flows)), (oz (List.map Output.cl y57.2.p.outputs))]).get TT) (k := ?_)
              obtain rfl := some_inj h54
              have q41 := X27.same 155 [(.sl (List.map lex_Token.cl y57.2.l)), (.v (.int .i64 y57.2.end_)), (.v (.int .i64 y57.2.pos)), (.v (.int .i64 y57.2.at_)), (.v (.int .i64 y57.2.e)), (oz (List.map Node.cl y57.2.p.nodes)), (oz (List.map Input.cl y57.2.p.inputs)), (oz (List.map Flow.cl y57.2.p.flows)), (oz (List.map Output.cl y57.2.p.outputs))]
              have q42 := X2.ne (Ne.symm N2__27) (some (AObj.box 155 [(.sl (List.map lex_Token.cl y57.2.l)), (.v (.int .i64 y57.2.end_)), (.v (.int .i64 y57.2.pos)), (.v (.int .i64 y57.2.at_)), (.v (.int .i64 y57.2.e)), (oz (List.map Node.cl y57.2.p.nodes)), (oz (List.map Input.cl y57.2.p.inputs)), (oz (List.map Flow.cl y57.2.p.flows)), (oz (List.map Output.cl y57.2.p.outputs))]))
              have q43 := X10.ne (Ne.symm N10__27) (some (AObj.box 155 [(.sl (List.map lex_Token.cl y57.2.l)), (.v (.int .i64 y57.2.end_)), (.v (.int .i64 y57.2.pos)), (.v (.int .i64 y57.2.at_)), (.v (.int .i64 y57.2.e)), (oz (List.map Node.cl y57.2.p.nodes)), (oz (List.map Input.cl y57.2.p.inputs)), (oz (List.map Flow.cl y57.2.p.flows)), (oz (List.map Output.cl y57.2.p.outputs))]))
              have q44 := cj12 E2 E8 E9 E10 E95 X10.get X2.get X27.get q43.get q42.get q41.get TT
              exact ct_n ⟨_, rfl, q42, q41, (xv q44), (xv q44), (xv q44), N2__27, (hP.set X27.le (some (AObj.box 155 [(.sl (List.map lex_Token.cl y57.2.l)), (.v (.int .i64 y57.2.end_)), (.v (.int .i64 y57.2.pos)), (.v (.int .i64 y57.2.at_)), (.v (.int .i64 y57.2.e)), (oz (List.map Node.cl y57.2.p.nodes)), (oz (List.map Input.cl y57.2.p.inputs)), (oz (List.map Flow.cl y57.2.p.flows)), (oz (List.map Output.cl y57.2.p.outputs))])))⟩
            obtain ⟨v27_55, rfl, X2, X27, E2, E8, E9, N2__27, hP⟩ := hI
            try dsimp only at h46
            obtain rfl := some_inj h46
            exact ct_n ⟨_, rfl, X2, X27, (xv (cj3 E2 E8 E9)), (xv (cj3 E2 E8 E9)), (xv (cj3 E2 E8 E9)), N2__27, hP⟩
          obtain ⟨v27_47, rfl, X2, X27, E2, E8, E9, N2__27, hP⟩ := hI
          try dsimp only at h40
          obtain rfl := some_inj h40
          exact ct_n ⟨_, rfl, X2, X27, (xv (cj3 E2 E8 E9)), (xv (cj3 E2 E8 E9)), (xv (cj3 E2 E8 E9)), N2__27, hP⟩
        obtain ⟨v27_41, rfl, X2, X27, E2, E8, E9, N2__27, hP⟩ := hI
        try dsimp only at h34
        obtain rfl := some_inj h34
        exact ct_n ⟨_, rfl, X2, X27, (xv (cj3 E2 E8 E9)), (xv (cj3 E2 E8 E9)), (xv (cj3 E2 E8 E9)), N2__27, hP⟩
      obtain ⟨v27_35, rfl, X2, X27, E2, E8, E9, N2__27, hP⟩ := hI
      try dsimp only at h29
      refine w_bk ?_
      obtain rfl := some_inj h29
      exact ct_n ⟨_, rfl, X2, X27, (xv (cj3 E2 E8 E9)), (xv (cj3 E2 E8 E9)), (xv (cj3 E2 E8 E9)), N2__27, hP⟩
     obtain ⟨v27_30, rfl, X2, X27, E2, E8, E9, N2__27, hP⟩ := hI
     try dsimp only at h14
     refine w_bk ?_
     obtain rfl := some_inj h14
     exact cw_n ⟨_, WkE.refl _, _, rfl, X2, X27, (xv (cj3 E2 E8 E9)), (xv (cj3 E2 E8 E9)), (xv (cj3 E2 E8 E9)), N2__27, hP⟩
    obtain ⟨v27_15, rfl, X2, X27, E2, E8, E9, N2__27, hP⟩ := hI
    try dsimp only at hf10
    refine w_x (cj6 E2 E8 E9 X2.get X27.get TT) (k := ?_)
    obtain rfl := some_inj hf10
    have q45 := cj6 E2 E8 E9 X2.get X27.get TT
    exact iq_n rfl ⟨_, WkE.refl _, _, _, rfl, X2, X27, (xv q45), (xv q45), (xv q45), N2__27, hP⟩
   ·refine xf (cj5 E2 E8 E9 E44 hb12) ?_
    refine w_exit ?_
    refine w_sqx ?_
    obtain rfl := some_inj hf10
    refine iq_x rfl fun hr59 => ?_
    obtain rfl := hr59
    refine w_bkx ?_
    exact cw_n ⟨_, WkE.refl _, _, rfl, X2, X27, (xv (cj4 E2 E8 E9 E44)), (xv (cj4 E2 E8 E9 E44)), N2__27, hP⟩
  obtain ⟨v27_6, rfl, X2, X27, E2, E8, N2__27, hP⟩ := hI
  try dsimp only at h
  refine w_assoc ?_
  refine w_sa (fun e s => Bx σ s i2 27 [(.sl []), (.sl []), (.sl []), (.sl [])] ∧ Bx σ s i27 155 [(.sl (List.map lex_Token.cl v27_6.l)), (.v (.int .i64 v27_6.end_)), (.v (.int .i64 v27_6.pos)), (.v (.int .i64 v27_6.at_)), (.v (.int .i64 v27_6.e)), (oz (List.map Node.cl v27_6.p.nodes)), (oz (List.map Input.cl v27_6.p.inputs)), (oz (List.map Flow.cl v27_6.p.flows)), (oz (List.map Output.cl v27_6.p.outputs))] ∧ e 2 = (.pt i2 0) ∧ e 8 = (.pt i27 0) ∧ e 104 = (.v (.bool (!decide (v27_6.e = (0 : Int))))) ∧ i2 ≠ i27 ∧ Pre σ s) ?_ fun e s hI => ?_
  ·refine w_x (cj5 E2 E8 X2.get X27.get TT) (k := ?_)
   have q46 := cj5 E2 E8 X2.get X27.get TT
   exact cw_n ⟨_, WkE.refl _, X2, X27, (xv q46), (xv q46), (xv q46), N2__27, hP⟩
  obtain ⟨X2, X27, E2, E8, E104, N2__27, hP⟩ := hI
  refine w_seq ?_
  rcases ite_some h with ⟨hb60, h⟩ | ⟨hb60, h⟩
  ·refine xt (cj4 E2 E8 E104 hb60) ?_
   refine w_sa (fun e s => Bx σ s i2 27 [(.sl []), (.sl []), (.sl []), (.sl [])] ∧ e 2 = (.pt i2 0) ∧ e 3 = (.v (.int .i64 v27_6.at_)) ∧ e 4 = (.v (.int .i64 v27_6.e)) ∧ Pre σ s) ?_ fun e s hI => ?_
   ·refine w_xh i2 11 0 (cj9 E2 E8 E104 (hget X27.get N2__27) X2.get X27.get (X2.same 27 [(.sl []), (.sl []), (.sl []), (.sl [])]).get (X27.ne N2__27 (some (AObj.box 27 [(.sl []), (.sl []), (.sl []), (.sl [])]))).get TT) (hk := ?_)
    refine w_xs (cj9 E2 E8 E104 (hget X27.get N2__27) X2.get X27.get (X2.same 27 [(.sl []), (.sl []), (.sl []), (.sl [])]).get (X27.ne N2__27 (some (AObj.box 27 [(.sl []), (.sl []), (.sl []), (.sl [])]))).get TT) (k := ?_)
    have q47 := X2.same 27 [(.sl []), (.sl []), (.sl []), (.sl [])]
    have q48 := X27.ne N2__27 (some (AObj.box 27 [(.sl []), (.sl []), (.sl []), (.sl [])]))
    have q49 := cj9 E2 E8 E104 (hget X27.get N2__27) X2.get X27.get q47.get q48.get TT
    exact cw_n ⟨_, WkE.refl _, q47, (xv q49), (xv q49), (xv q49), (hP.set X2.le (some (AObj.box 27 [(.sl []), (.sl []), (.sl []), (.sl [])])))⟩
   obtain ⟨X2, E2, E3, E4, hP⟩ := hI
   refine w_ret ?_
   refine w_sqr ?_
   obtain rfl := some_inj h
   exact w_fin (fun _ => rfl) (xr (rs := #[.cell 2 27, .tmp 3, .tmp 4]) (cj5 X2.get E2 E3 E4 TT)) hP (r' := (.tu [(.ag [(.sl []), (.sl []), (.sl []), (.sl [])]), (.v (.int .i64 v27_6.at_)), (.v (.int .i64 v27_6.e))])) (.refl _) (.tu (CnL.cons (.ag (CnL.cons Cn.sl0 (CnL.cons Cn.sl0 (CnL.cons Cn.sl0 (CnL.cons Cn.sl0 CnL.nil))))) (CnL.cons (.v _) (CnL.cons (.v _) CnL.nil)))) hK
  ·refine xf (cj4 E2 E8 E104 hb60) ?_
   refine w_skip ?_
   refine w_sq ?_
   refine w_sa (fun e s => Bx σ s i2 27 [(oz (List.map Node.cl v27_6.p.nodes)), (oz (List.map Input.cl v27_6.p.inputs)), (oz (List.map Flow.cl v27_6.p.flows)), (oz (List.map Output.cl v27_6.p.outputs))] ∧ e 2 = (.pt i2 0) ∧ e 3 = (.v (.int .i64 (0 : Int))) ∧ e 4 = (.v (.int .i64 (0 : Int))) ∧ Pre σ s) ?_ fun e s hI => ?_
   ·refine w_x (cj8 E2 E8 E104 X2.get X27.get (X2.same 27 [(oz (List.map Node.cl v27_6.p.nodes)), (oz (List.map Input.cl v27_6.p.inputs)), (oz (List.map Flow.cl v27_6.p.flows)), (oz (List.map Output.cl v27_6.p.outputs))]).get (X27.ne N2__27 (some (AObj.box 27 [(oz (List.map Node.cl v27_6.p.nodes)), (oz (List.map Input.cl v27_6.p.inputs)), (oz (List.map Flow.cl v27_6.p.flows)), (oz (List.map Output.cl v27_6.p.outputs))]))).get TT) (k := ?_)
    have q50 := X2.same 27 [(oz (List.map Node.cl v27_6.p.nodes)), (oz (List.map Input.cl v27_6.p.inputs)), (oz (List.map Flow.cl v27_6.p.flows)), (oz (List.map Output.cl v27_6.p.outputs))]
    have q51 := X27.ne N2__27 (some (AObj.box 27 [(oz (List.map Node.cl v27_6.p.nodes)), (oz (List.map Input.cl v27_6.p.inputs)), (oz (List.map Flow.cl v27_6.p.flows)), (oz (List.map Output.cl v27_6.p.outputs))]))
    have q52 := cj8 E2 E8 E104 X2.get X27.get q50.get q51.get TT
    exact cw_n ⟨_, WkE.refl _, q50, (xv q52), (xv q52), (xv q52), (hP.set X2.le (some (AObj.box 27 [(oz (List.map Node.cl v27_6.p.nodes)), (oz (List.map Input.cl v27_6.p.inputs)), (oz (List.map Flow.cl v27_6.p.flows)), (oz (List.map Output.cl v27_6.p.outputs))])))⟩
   obtain ⟨X2, E2, E3, E4, hP⟩ := hI
   refine w_ret ?_
   obtain rfl := some_inj h
   exact w_fin (fun _ => rfl) (xr (rs := #[.cell 2 27, .tmp 3, .tmp 4]) (cj5 X2.get E2 E3 E4 TT)) hP (r' := (.tu [(.ag [(.sl (List.map Node.cl v27_6.p.nodes)), (.sl (List.map Input.cl v27_6.p.inputs)), (.sl (List.map Flow.cl v27_6.p.flows)), (.sl (List.map Output.cl v27_6.p.outputs))]), (.v (.int .i64 (0 : Int))), (.v (.int .i64 (0 : Int)))])) (Wk.tul (.cons (Wk.agl (.cons (Wk.oz _) (.cons (Wk.oz _) (.cons (Wk.oz _) (.cons (Wk.oz _) .nil))))) (.cons (.refl _) (.cons (.refl _) .nil)))) (.tu (CnL.cons (.ag (CnL.cons (Cn.rows Node.cn _) (CnL.cons (Cn.rows Input.cn _) (CnL.cons (Cn.rows Flow.cn _) (CnL.cons (Cn.rows Output.cn _) CnL.nil))))) (CnL.cons (.v _) (CnL.cons (.v _) CnL.nil)))) hK
end Go.Proofs.Ytohmmfimedgccaa.E
end
section
namespace Go.Proofs.Ytohmmfimedgccaa.E
set_option linter.unusedVariables false
set_option linter.unusedSimpArgs false
noncomputable def m_now := B_syntax_reader_now
noncomputable def m_fail := B_syntax_reader_fail
noncomputable def m_take := B_syntax_reader_take m_now
noncomputable def m_is := B_syntax_reader_is m_now
noncomputable def m_can := B_syntax_reader_can m_is
noncomputable def m_words := B_lex_Words
noncomputable def m_sidx := B_slices_Index_string
noncomputable def m_cont := B_slices_Contains_string m_sidx
noncomputable def m_name := B_syntax_reader_name m_fail m_words m_take m_cont
noncomputable def m_number := B_syntax_reader_number m_fail m_take
noncomputable def m_must := B_syntax_reader_must m_now m_fail m_can
noncomputable def Dp : Nat → Expr → Option Int
 | 0 => fun _ => none
 | k + 1 => B_syntax_Depth (Dp k)
noncomputable def m_depth := Dp 100
noncomputable def m_made := B_syntax_reader_made m_depth m_fail
noncomputable def mA (E : syntax_reader → Option (Expr × syntax_reader)) := B_syntax_reader_atom m_can m_name m_must E m_made
noncomputable def mP (E : syntax_reader → Option (Expr × syntax_reader)) := B_syntax_reader_post m_now m_can m_must m_number m_made (mA E)
noncomputable def mE : Nat → syntax_reader → Option (Expr × syntax_reader)
 | 0 => fun _ => none
 | k + 1 => B_syntax_reader_expr m_now m_can m_is m_must m_number (mE k) m_made (mP (mE k))
noncomputable def m_flow := B_syntax_reader_flow m_name m_must (mE 100)
noncomputable def m_Parse := B_syntax_Parse m_Lex m_now m_fail m_can m_flow
theorem s_now : Sat_syntax_reader_now m_now := W_syntax_reader_now
theorem s_fail : Sat_syntax_reader_fail m_fail := W_syntax_reader_fail
theorem s_take : Sat_syntax_reader_take m_take := W_syntax_reader_take _ s_now
theorem s_is : Sat_syntax_reader_is m_is := W_syntax_reader_is _ s_now
theorem s_can : Sat_syntax_reader_can m_can := W_syntax_reader_can _ s_is
theorem s_words : Sat_lex_Words m_words := W_lex_Words
theorem s_sidx : Sat_slices_Index_string m_sidx := W_slices_Index_string
theorem s_cont : Sat_slices_Contains_string m_cont := W_slices_Contains_string _ s_sidx
theorem s_name : Sat_syntax_reader_name m_name := W_syntax_reader_name _ _ _ _ s_fail s_words s_take s_cont
theorem s_number : Sat_syntax_reader_number m_number := W_syntax_reader_number _ _ s_fail s_take
theorem s_must : Sat_syntax_reader_must m_must := W_syntax_reader_must _ _ _ s_now s_fail s_can
theorem s_Dp : ∀ k, Sat_syntax_Depth (Dp k)
 | 0 => fun _ _ h => by cases h
 | k + 1 => W_syntax_Depth _ (s_Dp k)
theorem s_made : Sat_syntax_reader_made m_made := W_syntax_reader_made _ _ (s_Dp _) s_fail
theorem s_mA {E : syntax_reader → Option (Expr × syntax_reader)} (h : Sat_syntax_reader_expr E) : Sat_syntax_reader_atom (mA E) := W_syntax_reader_atom _ _ _ _ _ s_can s_name s_must h s_made
theorem s_mP {E : syntax_reader → Option (Expr × syntax_reader)} (h : Sat_syntax_reader_expr E) : Sat_syntax_reader_post (mP E) := W_syntax_reader_post _ _ _ _ _ _ s_now s_can s_must s_number s_made (s_mA h)
theorem s_mE : ∀ k, Sat_syntax_reader_expr (mE k)
 | 0 => fun _ _ h => by cases h
 | k + 1 => W_syntax_reader_expr _ _ _ _ _ _ _ _ s_now s_can s_is s_must s_number (s_mE k) s_made (s_mP (s_mE k))
theorem s_flow : Sat_syntax_reader_flow m_flow := W_syntax_reader_flow _ _ _ s_name s_must (s_mE _)
theorem s_Parse : Sat_syntax_Parse m_Parse := W_syntax_Parse _ _ _ _ _ s_Lex s_now s_fail s_can s_flow
abbrev Key := Int × ByteArray × Int
structure At (p0 : Program) (r : syntax_reader) (ts : List Key) : Prop where
 e : r.e = 0
 pos : 0 ≤ r.pos
 len : r.l.length ≤ 4000
 drop : (r.l.map key).drop r.pos.toNat = ts
 p : r.p = p0
structure Err (p0 : Program) (r : syntax_reader) : Prop where
 e : r.e = 2
 pos : 0 ≤ r.pos
 p : r.p = p0
variable {p0 : Program} {r : syntax_reader} {t : Key} {ts : List Key}
theorem At.get (h : At p0 r (t :: ts)) : ∃ k : lex_Token, r.l[r.pos.toNat]? = some k ∧ key k = t := by
 have h1 : (r.l.map key)[r.pos.toNat]? = some t := by
  have := congrArg (fun x => x[0]?) h.drop
  simpa using this
 rw [List.getElem?_map] at h1
 obtain ⟨k, h2, h3⟩ := Option.map_eq_some_iff.1 h1
 exact ⟨k, h2, h3⟩
theorem At.lt (h : At p0 r (t :: ts)) : r.pos < (r.l.length : Int) := by
 obtain ⟨k, h1, _⟩ := h.get
 have := (List.getElem?_eq_some_iff.1 h1).1
 have := h.pos
 omega
theorem At.end (h : At p0 r []) : (r.l.length : Int) ≤ r.pos := by
 have := congrArg List.length h.drop
 simp at this
 have := h.pos
 omega
theorem At.now (h : At p0 r (t :: ts)) : ∃ k, m_now r = some k ∧ key k = t := by
 obtain ⟨k, h1, h2⟩ := h.get
 refine ⟨k, ?_, h2⟩
 unfold m_now B_syntax_reader_now
 rw [decide_eq_false (by have := h.lt; omega)]
 unfold getI
 rw [if_pos h.pos, h1]
 rfl
theorem At.step (h : At p0 r (t :: ts)) : At p0 ⟨r.l, r.end_, IntKind.i64.wrap (r.pos + 1), r.at_, r.e, r.p⟩ ts := by
 have h1 := h.lt
 have h2 := h.pos
 have h3 := h.len
 have hw : IntKind.i64.wrap (r.pos + 1) = r.pos + 1 := wrap_i (by omega) (by omega)
 rw [hw]
 refine ⟨h.e, by show 0 ≤ r.pos + 1; omega, h.len, ?_, h.p⟩
 show (r.l.map key).drop (r.pos + 1).toNat = ts
 rw [show (r.pos + 1).toNat = r.pos.toNat + 1 by omega]
 have := congrArg List.tail h.drop
 simpa using this
theorem At.is (h : At p0 r (t :: ts)) (s : ByteArray) : m_is r s = some (decide (t.2.1 = s) && !decide (t.1 = 0)) := by
 obtain ⟨k, h1, h2⟩ := h.now
 unfold m_is B_syntax_reader_is
 rw [h1, ← h2]
 simp [h.e, key]
 rfl
theorem At.yes (h : At p0 r (t :: ts)) {s : ByteArray} (hs : t.2.1 = s) (hk : t.1 ≠ 0) : ∃ r', m_can r s = some (true, r') ∧ At p0 r' ts := by
 refine ⟨_, ?_, h.step⟩
 unfold m_can B_syntax_reader_can
 rw [h.is s, decide_eq_true hs, decide_eq_false hk]
 rfl
theorem At.no (h : At p0 r (t :: ts)) {s : ByteArray} (hs : t.2.1 ≠ s) : m_can r s = some (false, r) := by
 unfold m_can B_syntax_reader_can
 rw [h.is s, decide_eq_false hs]
 rfl
theorem At.take (h : At p0 r (t :: ts)) : ∃ k r', m_take r = some (k, r') ∧ key k = t ∧ At p0 r' ts := by
 obtain ⟨k, h1, h2⟩ := h.now
 refine ⟨k, _, ?_, h2, h.step⟩
 unfold m_take B_syntax_reader_take
 rw [h1]
 rfl
theorem At.must (h : At p0 r (t :: ts)) {s : ByteArray} (hs : t.2.1 = s) (hk : t.1 ≠ 0) : ∃ r', m_must r s = some ((), r') ∧ At p0 r' ts := by
 obtain ⟨r', h1, h2⟩ := h.yes hs hk
 refine ⟨r', ?_, h2⟩
 unfold m_must B_syntax_reader_must
 rw [h1]
 rfl
theorem At.num (h : At p0 r (t :: ts)) {lo hi : Int} (hk : t.1 = 2) (h1 : lo ≤ t.2.2) (h2 : t.2.2 ≤ hi) : ∃ r', m_number r lo hi = some (t.2.2, r') ∧ At p0 r' ts := by
 obtain ⟨k, r', h3, h4, h5⟩ := h.take
 refine ⟨r', ?_, h5⟩
 subst h4
 have hk' : k.kind = 2 := hk
 unfold m_number B_syntax_reader_number
 rw [h3]
 simp only [Option.bind_some, hk', decide_true, Bool.not_true, Bool.false_eq_true, if_false, decide_eq_false (show ¬ k.n < lo from by have : lo ≤ k.n := h1; omega), decide_eq_false (show ¬ hi < k.n from by have : k.n ≤ hi := h2; omega), Bool.or_self]
 rfl
theorem t_cont (l : List ByteArray) (s : ByteArray) (hl : l.length ≤ 100) (hs : s ∉ l) : m_cont l s = some false := by
 unfold m_cont B_slices_Contains_string m_sidx B_slices_Index_string
 obtain ⟨v, h1, h2⟩ := iter_idx (f := slices_Index_string_L0 l s) (fun i v => v = (i : Int)) l.length (fun v => v = .inr ()) (fun i v hi hv => by
  subst hv
  left
  refine ⟨_, ?_, rfl⟩
  unfold slices_Index_string_L0
  dsimp only
  rw [dlt hi]
  simp only [if_true, getI_at hi, Option.bind_some, decide_eq_false (show ¬ s = l[i] from fun e => hs (e ▸ List.getElem_mem hi)), Bool.false_eq_true, if_false, winc hi (ml (by omega))]) (fun v hv => by
  subst hv
  refine ⟨_, ?_, rfl⟩
  unfold slices_Index_string_L0
  dsimp only
  rw [dge]
  rfl) (v0 := (0 : Int)) rfl
 rw [h1, h2]
 rfl
theorem At.name (h : At p0 r (t :: ts)) (hk : t.1 = 1) (hw : t.2.1 ∉ lex_Words_K0) : ∃ k r', m_name r = some (k, r') ∧ key k = t ∧ At p0 r' ts := by
 obtain ⟨k, r', h3, h4, h5⟩ := h.take
 refine ⟨k, r', ?_, h4, h5⟩
 subst h4
 have hk' : k.kind = 1 := hk
 have hc := t_cont lex_Words_K0 k.text (by decide) hw
 unfold m_name B_syntax_reader_name
 rw [h3]
 simp only [Option.bind_some, hk', decide_true, Bool.not_true, Bool.false_eq_true, if_false, m_words, B_lex_Words, hc, Bool.or_self]
theorem Err.now (h : Err p0 r) : ∃ k, m_now r = some k := by
 unfold m_now B_syntax_reader_now
 by_cases hl : (r.l.length : Int) ≤ r.pos
 ·rw [decide_eq_true hl]; exact ⟨_, rfl⟩
 ·rw [decide_eq_false hl]
  unfold getI
  have := h.pos
  rw [if_pos h.pos, List.getElem?_eq_getElem (by omega)]
  exact ⟨_, rfl⟩
theorem Err.can (h : Err p0 r) (s : ByteArray) : m_can r s = some (false, r) := by
 obtain ⟨k, h1⟩ := h.now
 unfold m_can B_syntax_reader_can m_is B_syntax_reader_is
 rw [h1]
 simp [h.e]
theorem Err.must (h : Err p0 r) (s : ByteArray) : m_must r s = some ((), r) := by
 obtain ⟨k, h1⟩ := h.now
 unfold m_must B_syntax_reader_must
 rw [h.can]
 simp [h1, m_fail, B_syntax_reader_fail, h.e]
theorem Err.made (h : Err p0 r) (e : Expr) : ∃ e', m_made r e = some (e', r) := by
 unfold m_made B_syntax_reader_made
 simp [h.e]
theorem At.made (h : At p0 r ts) {e : Expr} {d : Int} (hd : m_depth e = some d) (h20 : d ≤ 20) : m_made r e = some (e, r) := by
 unfold m_made B_syntax_reader_made
 simp [h.e, hd, decide_eq_false (show ¬ 20 < d by omega)]
theorem At.deep (h : At p0 r ts) {e : Expr} {d : Int} (hd : m_depth e = some d) (h20 : 20 < d) : ∃ e' r', m_made r e = some (e', r') ∧ Err p0 r' := by
 refine ⟨Expr.mk 0 (bs []) 0 0 [] 0, ⟨r.l, r.end_, r.pos, e.at_, 2, r.p⟩, ?_, rfl, h.pos, h.p⟩
 unfold m_made B_syntax_reader_made
 simp [h.e, hd, h20, m_fail, B_syntax_reader_fail]
 rfl
inductive Oc where
 | t | o | s | h
def Oc.kd : Oc → Int
 | .t => 7
 | .o => 3
 | _ => 6
def Oc.nn : Oc → Int
 | .t => 0
 | .o => 2
 | .s => 7
 | .h => 3
def Sh (q : Pk) : List Oc → Expr → Prop
 | [], e => e.kind = 1 ∧ e.name = bs q.w ∧ e.args = []
 | c :: l, e => e.kind = c.kd ∧ e.n = c.nn ∧ ∃ e', e.args = [e'] ∧ Sh q l e'
theorem t_Dp (q : Pk) : ∀ (l : List Oc) (e : Expr) (k : Nat), Sh q l e → l.length < k → l.length ≤ 200 → Dp k e = some ((l.length : Int) + 1)
 | _, _, 0, _, h, _ => by omega
 | [], e, k + 1, h, _, _ => by
  unfold Dp B_syntax_Depth
  rw [iterO_end (r := 0) (by unfold syntax_Depth_L0; dsimp only; rw [h.2.2]; rfl)]
  rfl
 | c :: l, e, k + 1, h, hk, hl => by
  obtain ⟨_, _, e', h1, h2⟩ := h
  simp only [List.length_cons] at hk hl
  have ih := t_Dp q l e' k h2 (by omega) (by omega)
  unfold Dp B_syntax_Depth
  have e1 : syntax_Depth_L0 e (Dp k) (0, 0) = some (.inl ((l.length : Int) + 1, 1)) := by
   unfold syntax_Depth_L0
   dsimp only
   rw [h1]
   have : getI [e'] 0 = some e' := rfl
   rw [this]
   simp only [Option.bind_some, ih]
   rw [if_pos (by omega : (0 : Int) < (l.length : Int) + 1)]
   rfl
  rw [iterO_next e1, iterO_end (r := (l.length : Int) + 1) (by unfold syntax_Depth_L0; dsimp only; rw [h1]; rfl)]
  simp only [Option.bind_some, List.length_cons]
  rw [wrap_i (by omega) (by omega)]
  simp
theorem t_depth {q : Pk} {l : List Oc} {e : Expr} (h : Sh q l e) (hl : l.length < 100) : m_depth e = some ((l.length : Int) + 1) := t_Dp q l e 100 h hl (by omega)
theorem At.shape {q : Pk} {l : List Oc} {e : Expr} (h : At p0 r ts) (hs : Sh q l e) (hl : l.length < 100) : (l.length < 20 ∧ m_made r e = some (e, r)) ∨ (20 ≤ l.length ∧ ∃ e' r', m_made r e = some (e', r') ∧ Err p0 r') := by
 by_cases h20 : l.length < 20
 ·exact .inl ⟨h20, h.made (t_depth hs hl) (by omega)⟩
 ·exact .inr ⟨by omega, h.deep (t_depth hs hl) (by omega)⟩
def Stop (t : Key) : Prop := t = Pk.rp.key ∨ t = Pk.semi.key
theorem Stop.ne {t : Key} (h : Stop t) : t.2.1 ≠ bs [40] ∧ t.2.1 ≠ bs [42, 94] ∧ t.2.1 ≠ bs [47, 94] ∧ t.2.1 ≠ bs [126, 62] := by
 rcases h with rfl | rfl <;> exact ⟨fun e => by rw [show ∀ k : Pk, k.key.2.1 = bs k.w from fun _ => rfl, bs_inj] at e; exact absurd e (by decide), fun e => by rw [show ∀ k : Pk, k.key.2.1 = bs k.w from fun _ => rfl, bs_inj] at e; exact absurd e (by decide), fun e => by rw [show ∀ k : Pk, k.key.2.1 = bs k.w from fun _ => rfl, bs_inj] at e; exact absurd e (by decide), fun e => by rw [show ∀ k : Pk, k.key.2.1 = bs k.w from fun _ => rfl, bs_inj] at e; exact absurd e (by decide)⟩
theorem kne {k : Pk} {l : List UInt8} (h : k.w ≠ l) : k.key.2.1 ≠ bs l := fun e => h (bs_inj.1 e)
def Res (q : Pk) (p0 : Program) (l : List Oc) (x : Option (Expr × syntax_reader)) (ts : List Key) : Prop :=
 (l.length < 20 ∧ ∃ e r', x = some (e, r') ∧ At p0 r' ts ∧ Sh q l e) ∨ (20 ≤ l.length ∧ ∃ e r', x = some (e, r') ∧ Err p0 r')
def PE (q : Pk) (f : syntax_reader → Option (Expr × syntax_reader)) (ts : List Key) (l : List Oc) : Prop := ∀ p0 r t rest, Stop t → At p0 r (ts ++ t :: rest) → Res q p0 l (f r) (t :: rest)
def PA (q : Pk) (f : syntax_reader → Option (Expr × syntax_reader)) (ts : List Key) (l : List Oc) : Prop := ∀ p0 r t rest, t.2.1 ≠ bs [40] → At p0 r (ts ++ t :: rest) → Res q p0 l (f r) (t :: rest)
variable {E : syntax_reader → Option (Expr × syntax_reader)} {q : Pk} {l : List Oc}
theorem atom_name (hq : q = .x ∨ q = .g) : PA q (mA E) [q.key] [] := by
 intro p0 r t rest ht h
 have h : At p0 r (q.key :: t :: rest) := h
 have hk : q.k = 1 := by rcases hq with rfl | rfl <;> rfl
 have hn := h.no (s := bs [40]) (kne (by rcases hq with rfl | rfl <;> decide))
 obtain ⟨k, r1, h1, h2, h3⟩ := h.name (by exact hk) (by rcases hq with rfl | rfl <;> simp [lex_Words_K0, Pk.key, bs, Pk.w])
 have hn2 := h3.no (s := bs [40]) ht
 have hsh : Sh q [] (Expr.mk 1 k.text 0 0 [] k.at_) := ⟨rfl, by have := congrArg (fun x => x.2.1) h2; exact this, rfl⟩
 have hm := h3.made (t_depth hsh (by simp)) (by simp)
 refine .inl ⟨by simp, Expr.mk 1 k.text 0 0 [] k.at_, r1, ?_, h3, hsh⟩
 unfold mA B_syntax_reader_atom
 rw [show (⟨#[40]⟩ : ByteArray) = bs [40] from rfl, hn]
 simp [h1, hn2, hm]
theorem atom_paren (hE : PE q E ts l) : PA q (mA E) (Pk.lp.key :: ts ++ [Pk.rp.key]) l := by
 intro p0 r t rest ht h
 have h : At p0 r (Pk.lp.key :: (ts ++ Pk.rp.key :: t :: rest)) := by simpa using h
 obtain ⟨r1, h1, h2⟩ := h.yes (s := bs [40]) rfl (by decide)
 have hA : mA E r = (E r1).bind fun y4 => (m_must y4.2 (bs [41])).bind fun y6 => some (y4.1, y6.2) := by
  unfold mA B_syntax_reader_atom
  rw [show (⟨#[40]⟩ : ByteArray) = bs [40] from rfl, h1]
  rfl
 rw [hA]
 rcases hE p0 r1 Pk.rp.key (t :: rest) (.inl rfl) h2 with ⟨hl, e, r2, h3, h4, h5⟩ | ⟨hl, e, r2, h3, h4⟩
 ·obtain ⟨r3, h6, h7⟩ := h4.must (s := bs [41]) rfl (by decide)
  exact .inl ⟨hl, e, r3, by rw [h3]; simp [h6], h7, h5⟩
 ·exact .inr ⟨hl, e, r2, by rw [h3]; simp [h4.must], h4⟩
def ovs : Nat → List Key
 | 0 => []
 | m + 1 => Pk.ov.key :: Pk.two.key :: ovs m
def po : Nat → List Oc → List Oc
 | 0, l => l
 | m + 1, l => po m (.o :: l)
theorem po_len : ∀ (m : Nat) (l : List Oc), (po m l).length = m + l.length
 | 0, l => by simp [po]
 | m + 1, l => by rw [po, po_len m]; simp; omega
noncomputable abbrev pL := syntax_reader_post_L0 m_can m_made m_must m_now m_number
def resW : (Expr × syntax_reader) ⊕ (syntax_reader × Expr × Expr) → Expr × syntax_reader
 | .inl x => x
 | .inr (r, _, e) => (e, r)
theorem loop_err (h : Err p0 r) (v e : Expr) : iterO pL (r, v, e) = some (.inr (r, v, e)) := iterO_end (by
 show syntax_reader_post_L0 m_can m_made m_must m_now m_number (r, v, e) = _
 unfold syntax_reader_post_L0
 simp [h.e])
theorem post_loop : ∀ (m : Nat) (l : List Oc) (e v : Expr) (r : syntax_reader) (t : Key) (rest : List Key), Stop t → At p0 r (ovs m ++ t :: rest) → Sh q l e → l.length < 20 → m + l.length < 90 →
  ∃ w, iterO pL (r, v, e) = some w ∧ Res q p0 (po m l) (some (resW w)) (t :: rest)
 | 0, l, e, v, r, t, rest, ht, h, hs, hl, _ => by
  have h : At p0 r (t :: rest) := h
  obtain ⟨k, hk, _⟩ := h.now
  obtain ⟨_, n2, n3, n4⟩ := ht.ne
  refine ⟨.inl (e, r), iterO_end ?_, .inl ⟨hl, e, r, rfl, h, hs⟩⟩
  show syntax_reader_post_L0 m_can m_made m_must m_now m_number (r, v, e) = _
  unfold syntax_reader_post_L0
  dsimp only
  rw [show (⟨#[42, 94]⟩ : ByteArray) = bs [42, 94] from rfl, show (⟨#[47, 94]⟩ : ByteArray) = bs [47, 94] from rfl, show (⟨#[126, 62]⟩ : ByteArray) = bs [126, 62] from rfl]
  simp [h.e, hk, h.no n2, h.no n3, h.no n4]
 | m + 1, l, e, v, r, t, rest, ht, h, hs, hl, hm => by
  have h : At p0 r (Pk.ov.key :: Pk.two.key :: (ovs m ++ t :: rest)) := h
  obtain ⟨k, hk, _⟩ := h.now
  obtain ⟨r1, h1, h2⟩ := h.yes (s := bs [42, 94]) rfl (by decide)
  obtain ⟨r2, h3, h4⟩ := h2.num (lo := 1) (hi := 100) rfl (by decide) (by decide)
  have hsh : Sh q (.o :: l) (Expr.mk 3 (bs []) 2 0 [e] k.at_) := ⟨rfl, rfl, e, rfl, hs⟩
  have step : ∀ {e1 r3}, m_made r2 (Expr.mk 3 (bs []) 2 0 [e] k.at_) = some (e1, r3) → pL (r, v, e) = some (.inl (r3, v, e1)) := fun {e1 r3} hmd => by
   show syntax_reader_post_L0 m_can m_made m_must m_now m_number (r, v, e) = _
   unfold syntax_reader_post_L0
   dsimp only
   rw [show (⟨#[42, 94]⟩ : ByteArray) = bs [42, 94] from rfl, show (⟨#[]⟩ : ByteArray) = bs [] from rfl]
   simp only [h.e, decide_true, if_true, hk, Option.bind_some, h1, h3]
   rw [show Pk.two.key.2.2 = 2 from rfl, hmd]
   rfl
  rcases h4.shape hsh (by simp; omega) with ⟨h20, hmd⟩ | ⟨h20, e', r', hmd, her⟩
  ·obtain ⟨w, h5, h6⟩ := post_loop m (.o :: l) _ v r2 t rest ht h4 hsh h20 (by simp; omega)
   exact ⟨w, by rw [iterO_next (step hmd)]; exact h5, h6⟩
  ·refine ⟨_, (iterO_next (step hmd)).trans (loop_err her v e'), .inr ⟨?_, e', r', rfl, her⟩⟩
   rw [po, po_len]
   omega
theorem post_of (hA : PA q (mA E) ts l) (m : Nat) (hm : m + l.length < 90) : PE q (mP E) (ts ++ ovs m) (po m l) := by
 intro p0 r t rest ht h
 have h : At p0 r (ts ++ (ovs m ++ t :: rest)) := by simpa using h
 have hres : ∀ w, (mA E r = some w → ∀ x, iterO pL (w.2, Expr.mk 0 (bs []) 0 0 [] 0, w.1) = some x → mP E r = some (resW x)) := fun w h1 x h2 => by
  unfold mP B_syntax_reader_post
  rw [h1]
  simp only [Option.bind_some]
  rw [show (⟨#[]⟩ : ByteArray) = bs [] from rfl, h2]
  rcases x with x | ⟨a, b, c⟩ <;> rfl
 have hat : Res q p0 l (mA E r) (ovs m ++ t :: rest) := by
  cases m with
  | zero => exact hA p0 r t rest ht.ne.1 h
  | succ m => exact hA p0 r Pk.ov.key (Pk.two.key :: (ovs m ++ t :: rest)) (kne (by decide)) h
 rcases hat with ⟨hl, e, r1, h1, h2, h3⟩ | ⟨hl, e, r1, h1, h2⟩
 ·obtain ⟨w, h4, h5⟩ := post_loop m l e (Expr.mk 0 (bs []) 0 0 [] 0) r1 t rest ht h2 h3 hl hm
  rw [hres _ h1 _ h4]
  exact h5
 ·refine .inr ⟨by rw [po_len]; omega, e, r1, ?_, h2⟩
  rw [hres _ h1 _ (loop_err h2 _ _)]
  rfl
theorem expr_post {k : Nat} {t0 : Key} (hP : PE q (mP (mE k)) (t0 :: ts) l) (h1 : t0.2.1 ≠ bs [116, 97, 105, 108]) (h2 : t0.1 ≠ 2) (h3 : t0.2.1 ≠ bs [45]) : PE q (mE (k + 1)) (t0 :: ts) l := by
 intro p0 r t rest ht h
 have hr := hP p0 r t rest ht h
 have h : At p0 r (t0 :: (ts ++ t :: rest)) := h
 obtain ⟨kk, hk, hkk⟩ := h.now
 have hkd : kk.kind ≠ 2 := fun e => h2 (by rw [← hkk]; exact e)
 have : mE (k + 1) r = mP (mE k) r := by
  rw [mE]
  unfold B_syntax_reader_expr
  rw [show (⟨#[116, 97, 105, 108]⟩ : ByteArray) = bs [116, 97, 105, 108] from rfl, show (⟨#[45]⟩ : ByteArray) = bs [45] from rfl]
  simp only [hk, Option.bind_some, h.e, decide_true, Bool.not_true, Bool.false_eq_true, if_false, h.no h1, decide_eq_false hkd, Bool.not_false, if_true, h.is, decide_eq_false h3, Bool.false_and, Bool.and_self]
  cases mP (mE k) r <;> rfl
 rw [this]
 exact hr
theorem expr_tail {k : Nat} (hE : PE q (mE k) ts l) (hl : l.length < 90) : PE q (mE (k + 1)) (Pk.tail.key :: ts) (.t :: l) := by
 intro p0 r t rest ht h
 have h : At p0 r (Pk.tail.key :: (ts ++ t :: rest)) := h
 obtain ⟨kk, hk, hkk⟩ := h.now
 obtain ⟨r1, h1, h2⟩ := h.yes (s := bs [116, 97, 105, 108]) rfl (by decide)
 have hA : mE (k + 1) r = (mE k r1).bind fun y => (m_made y.2 (Expr.mk 7 (bs []) 0 0 [y.1] kk.at_)).bind fun z => some (z.1, z.2) := by
  rw [mE]
  unfold B_syntax_reader_expr
  rw [show (⟨#[116, 97, 105, 108]⟩ : ByteArray) = bs [116, 97, 105, 108] from rfl, show (⟨#[]⟩ : ByteArray) = bs [] from rfl]
  simp only [hk, Option.bind_some, h.e, decide_true, Bool.not_true, Bool.false_eq_true, if_false, h1, if_true]
  cases mE k r1 with
  | none => rfl
  | some y => simp only [Option.bind_some]; cases m_made y.2 (Expr.mk 7 (bs []) 0 0 [y.1] kk.at_) <;> rfl
 rw [hA]
 rcases hE p0 r1 t rest ht h2 with ⟨hl, e, r2, h3, h4, h5⟩ | ⟨hl, e, r2, h3, h4⟩
 ·have hsh : Sh q (.t :: l) (Expr.mk 7 (bs []) 0 0 [e] kk.at_) := ⟨rfl, rfl, e, rfl, h5⟩
  rw [h3]
  simp only [Option.bind_some]
  rcases h4.shape hsh (by simp; omega) with ⟨h20, hmd⟩ | ⟨h20, e', r', hmd, her⟩
  ·exact .inl ⟨h20, _, r2, by rw [hmd]; rfl, h4, hsh⟩
  ·exact .inr ⟨h20, e', r', by rw [hmd]; rfl, her⟩
 ·obtain ⟨e', hmd⟩ := h4.made (Expr.mk 7 (bs []) 0 0 [e] kk.at_)
  exact .inr ⟨by simp; omega, e', r2, by rw [h3]; simp [hmd], h4⟩
theorem expr_fby {k : Nat} {c : Oc} {n : Pk} (hc : c = .s ∧ n = .seven ∨ c = .h ∧ n = .three) (hE : PE q (mE k) ts l) (hl : l.length < 90) : PE q (mE (k + 1)) (n.key :: Pk.fby.key :: ts) (c :: l) := by
 intro p0 r t rest ht h
 have h : At p0 r (n.key :: Pk.fby.key :: (ts ++ t :: rest)) := h
 have hn : n.k = 2 ∧ 0 ≤ n.n ∧ n.n ≤ 10 ∧ c.kd = 6 ∧ c.nn = n.n ∧ n.w ≠ [116, 97, 105, 108] ∧ n.w ≠ [45] := by rcases hc with ⟨rfl, rfl⟩ | ⟨rfl, rfl⟩ <;> decide
 obtain ⟨kk, hk, hkk⟩ := h.now
 have hkd : kk.kind = 2 := by rw [← hn.1]; exact congrArg (·.1) hkk
 obtain ⟨r1, h1, h2⟩ := h.num (lo := 0) (hi := 4611686018427387904) hn.1 hn.2.1 (by have := hn.2.2.1; show n.n ≤ _; omega)
 have hno := h2.no (s := bs [58, 58]) (kne (by decide))
 obtain ⟨r2, h3, h4⟩ := h2.must (s := bs [102, 98, 121]) rfl (by decide)
 have hw : IntKind.i64.wrap (1 * n.n) = n.n := by rw [Int.one_mul]; exact wrap_i (by have := hn.2.1; omega) (by have := hn.2.2.1; omega)
 have h1' : m_number r 0 4611686018427387904 = some (n.n, r1) := h1
 have hA : mE (k + 1) r = (mE k r2).bind fun y => (m_made y.2 (Expr.mk 6 (bs []) n.n 0 [y.1] kk.at_)).bind fun z => some (z.1, z.2) := by
  rw [mE]
  unfold B_syntax_reader_expr
  rw [show (⟨#[116, 97, 105, 108]⟩ : ByteArray) = bs [116, 97, 105, 108] from rfl, show (⟨#[]⟩ : ByteArray) = bs [] from rfl, show (⟨#[45]⟩ : ByteArray) = bs [45] from rfl, show (⟨#[58, 58]⟩ : ByteArray) = bs [58, 58] from rfl, show (⟨#[102, 98, 121]⟩ : ByteArray) = bs [102, 98, 121] from rfl]
  simp only [hk, Option.bind_some, h.e, decide_true, Bool.not_true, Bool.false_eq_true, if_false, h.no (kne hn.2.2.2.2.2.1), hkd, Bool.false_and, h.no (kne hn.2.2.2.2.2.2), h1', hno, h3, hw]
 rw [hA]
 rcases hE p0 r2 t rest ht h4 with ⟨hl, e, r3, h5, h6, h7⟩ | ⟨hl, e, r3, h5, h6⟩
 ·have hsh : Sh q (c :: l) (Expr.mk 6 (bs []) n.n 0 [e] kk.at_) := ⟨hn.2.2.2.1.symm, hn.2.2.2.2.1.symm, e, rfl, h7⟩
  rw [h5]
  simp only [Option.bind_some]
  rcases h6.shape hsh (by simp; omega) with ⟨h20, hmd⟩ | ⟨h20, e', r', hmd, her⟩
  ·exact .inl ⟨h20, _, r3, by rw [hmd]; rfl, h6, hsh⟩
  ·exact .inr ⟨h20, e', r', by rw [hmd]; rfl, her⟩
 ·obtain ⟨e', hmd⟩ := h6.made (Expr.mk 6 (bs []) n.n 0 [e] kk.at_)
  exact .inr ⟨by simp; omega, e', r3, by rw [h5]; simp [hmd], h6⟩
end Go.Proofs.Ytohmmfimedgccaa.E
end
section
namespace Go.Proofs.Ytohmmfimedgccaa.E
set_option maxRecDepth 100000
set_option maxHeartbeats 4000000
set_option linter.unusedVariables false
set_option linter.unusedSimpArgs false
noncomputable def B_ref04_Digits (f_ref04_Digits : Int → Option ByteArray) (a0 : Int) : Option ByteArray :=
 if (decide (a0 < (0 : Int))) then
  (f_ref04_Digits (IntKind.i64.wrap (0 - a0))).bind fun y2 =>
  (catO (⟨#[45]⟩ : ByteArray) y2).bind fun y4 =>
  some y4
 else
  if (decide ((9 : Int) < a0)) then
   (f_ref04_Digits (IntKind.i64.wrap (Int.tdiv a0 (10 : Int)))).bind fun y7 =>
   (catO y7 (bytesStr ([(IntKind.u8.wrap (IntKind.i64.wrap ((48 : Int) + (Int.tmod a0 (10 : Int)))))]))).bind fun y9 =>
   some y9
  else
   some (bytesStr ([(IntKind.u8.wrap (IntKind.i64.wrap ((48 : Int) + (Int.tmod a0 (10 : Int)))))]))
theorem W_ref04_Digits (f_ref04_Digits : Int → Option ByteArray) (S_ref04_Digits : Sat_ref04_Digits f_ref04_Digits) : Sat_ref04_Digits (B_ref04_Digits f_ref04_Digits) := by
 intro a0 r h σ K hK
 refine w_fp Try.func75 rfl rfl (by kernel_rfl) ?_
 unfold B_ref04_Digits at h
 have hP := Pre.refl σ
 have E0 : argE [(.v (.int .i64 a0))] 0 = (.v (.int .i64 a0)) := rfl
 have TT := cj5 Expr.rlen T_2 T_5 T_89 T_9
 refine w_sa (fun e s => e 0 = (.v (.int .i64 a0)) ∧ Pre σ s) ?_ fun e s hI => ?_
 ·refine w_x (cj2 E0 TT) (k := ?_)
  exact cw_n ⟨_, WkE.refl _, (xv (cj2 E0 TT)), hP⟩
 obtain ⟨E0, hP⟩ := hI
 refine w_assoc ?_
 refine w_sa (fun e s => e 0 = (.v (.int .i64 a0)) ∧ e 5 = (.v (.bool (decide (a0 < (0 : Int))))) ∧ Pre σ s) ?_ fun e s hI => ?_
 ·refine w_x (cj2 E0 TT) (k := ?_)
  exact cw_n ⟨_, WkE.refl _, (xv (cj2 E0 TT)), (xv (cj2 E0 TT)), hP⟩
 obtain ⟨E0, E5, hP⟩ := hI
 refine w_seq ?_
 rcases ite_some h with ⟨hb1, h⟩ | ⟨hb1, h⟩
 ·refine xt (cj3 E0 E5 hb1) ?_
  obtain ⟨y2, h3, h⟩ := bnd_some h
  obtain ⟨y4, h5, h⟩ := bnd_some h
  refine w_sa (fun e s => e 2 = (.v (.string y4)) ∧ Pre σ s) ?_ fun e s hI => ?_
  ·refine w_x (cj5 E0 E5 (catO_some h5).1 (catO_some h5).2 TT) (k := ?_)
   refine EC.wka (.cons (.refl _) .nil) (S_ref04_Digits _ _ h3 _ _  ?_)
   refine w_y (cj5 E0 E5 (catO_some h5).1 (catO_some h5).2 TT) (k := ?_)
   exact cw_n ⟨_, WkE.refl _, (xv (cj5 E0 E5 (catO_some h5).1 (catO_some h5).2 TT)), hP⟩
  obtain ⟨E2, hP⟩ := hI
  refine w_ret ?_
  refine w_sqr ?_
  obtain rfl := some_inj h
  exact w_fin (fun _ => rfl) (xr (rs := #[.tmp 2]) E2) hP (r' := (.v (.string y4))) (.refl _) (.v _) hK
 ·refine xf (cj3 E0 E5 hb1) ?_
  refine w_skip ?_
  refine w_sq ?_
  refine w_sa (fun e s => e 0 = (.v (.int .i64 a0)) ∧ e 3 = (.v (.string (bytesStr ([(IntKind.u8.wrap (IntKind.i64.wrap ((48 : Int) + (Int.tmod a0 (10 : Int)))))])))) ∧ Pre σ s) ?_ fun e s hI => ?_
  ·refine w_x (cj3 E0 E5 TT) (k := ?_)
   exact cw_n ⟨_, WkE.refl _, (xv (cj3 E0 E5 TT)), (xv (cj3 E0 E5 TT)), hP⟩
  obtain ⟨E0, E3, hP⟩ := hI
  refine w_assoc ?_
  refine w_sa (fun e s => e 0 = (.v (.int .i64 a0)) ∧ e 3 = (.v (.string (bytesStr ([(IntKind.u8.wrap (IntKind.i64.wrap ((48 : Int) + (Int.tmod a0 (10 : Int)))))])))) ∧ e 17 = (.v (.bool (decide ((9 : Int) < a0)))) ∧ Pre σ s) ?_ fun e s hI => ?_
  ·refine w_x (cj3 E0 E3 TT) (k := ?_)
   exact cw_n ⟨_, WkE.refl _, (xv (cj3 E0 E3 TT)), (xv (cj3 E0 E3 TT)), (xv (cj3 E0 E3 TT)), hP⟩
  obtain ⟨E0, E3, E17, hP⟩ := hI
  refine w_seq ?_
  rcases ite_some h with ⟨hb6, h⟩ | ⟨hb6, h⟩
  ·refine xt (cj4 E0 E3 E17 hb6) ?_
   obtain ⟨y7, h8, h⟩ := bnd_some h
   obtain ⟨y9, h10, h⟩ := bnd_some h
   refine w_sa (fun e s => e 2 = (.v (.string y9)) ∧ Pre σ s) ?_ fun e s hI => ?_
   ·refine w_x (cj6 E0 E3 E17 (catO_some h10).1 (catO_some h10).2 TT) (k := ?_)
    refine EC.wka (.cons (.refl _) .nil) (S_ref04_Digits _ _ h8 _ _  ?_)
    refine w_y (cj6 E0 E3 E17 (catO_some h10).1 (catO_some h10).2 TT) (k := ?_)
    exact cw_n ⟨_, WkE.refl _, (xv (cj6 E0 E3 E17 (catO_some h10).1 (catO_some h10).2 TT)), hP⟩
   obtain ⟨E2, hP⟩ := hI
   refine w_ret ?_
   refine w_sqr ?_
   obtain rfl := some_inj h
   exact w_fin (fun _ => rfl) (xr (rs := #[.tmp 2]) E2) hP (r' := (.v (.string y9))) (.refl _) (.v _) hK
  ·refine xf (cj4 E0 E3 E17 hb6) ?_
   refine w_skip ?_
   refine w_sq ?_
   refine w_sa (fun e s => e 2 = (.v (.string (bytesStr ([(IntKind.u8.wrap (IntKind.i64.wrap ((48 : Int) + (Int.tmod a0 (10 : Int)))))])))) ∧ Pre σ s) ?_ fun e s hI => ?_
   ·refine w_x (cj4 E0 E3 E17 TT) (k := ?_)
    exact cw_n ⟨_, WkE.refl _, (xv (cj4 E0 E3 E17 TT)), hP⟩
   obtain ⟨E2, hP⟩ := hI
   refine w_ret ?_
   obtain rfl := some_inj h
   exact w_fin (fun _ => rfl) (xr (rs := #[.tmp 2]) E2) hP (r' := (.v (.string (bytesStr ([(IntKind.u8.wrap (IntKind.i64.wrap ((48 : Int) + (Int.tmod a0 (10 : Int)))))]))))) (.refl _) (.v _) hK
noncomputable def ref04_Text_L0 (a0 : Expr) (f_ref04_Text : Expr → Option ByteArray) : (ByteArray × Int) → Option ((ByteArray × Int) ⊕ ByteArray)
 | (v3_8, v4_9) =>
  if (decide (v4_9 < ((List.length a0.args : Nat) : Int))) then
   ((if (decide ((0 : Int) < v4_9)) then
    (catO v3_8 (⟨#[44, 32]⟩ : ByteArray)).bind fun y20 =>
    some y20
   else
    some v3_8 : Option ByteArray).bind fun v3_18 =>
   (getI a0.args v4_9).bind fun y22 =>
   (f_ref04_Text y22).bind fun y24 =>
   (catO v3_18 y24).bind fun y26 =>
   some y26 : Option ByteArray).bind fun v3_15 =>
   some (.inl (v3_15, (IntKind.i64.wrap (v4_9 + (1 : Int)))))
  else
   some (.inr v3_8)
noncomputable def B_ref04_Text (f_ref04_Text : Expr → Option ByteArray) (f_ref04_Digits : Int → Option ByteArray) (a0 : Expr) : Option ByteArray :=
 if (decide (a0.kind = (1 : Int))) then
  some a0.name
 else
  if (decide (a0.kind = (2 : Int))) then
   (catO a0.name (⟨#[40]⟩ : ByteArray)).bind fun y3 =>
   (iterO (ref04_Text_L0 a0 f_ref04_Text) (y3, (0 : Int)) : Option ByteArray).bind fun v3_7 =>
   (catO v3_7 (⟨#[41]⟩ : ByteArray)).bind fun y30 =>
   some y30
  else
   (getI a0.args (0 : Int)).bind fun y32 =>
   (f_ref04_Text y32).bind fun y35 =>
   (if (decide (a0.kind = (6 : Int))) then
    (f_ref04_Digits a0.n).bind fun y40 =>
    (catO y40 (⟨#[32, 102, 98, 121, 32]⟩ : ByteArray)).bind fun y42 =>
    (catO y42 y35).bind fun y44 =>
    some (.inl y44)
   else
    if (decide (a0.kind = (8 : Int))) then
     (f_ref04_Digits a0.n).bind fun y47 =>
     (catO y47 (⟨#[32, 58, 58, 32]⟩ : ByteArray)).bind fun y49 =>
     (catO y49 y35).bind fun y51 =>
     some (.inl y51)
    else
     if (decide (a0.kind = (7 : Int))) then
      (catO (⟨#[116, 97, 105, 108, 32]⟩ : ByteArray) y35).bind fun y54 =>
      some (.inl y54)
     else
      some (.inr ()) : Option (ByteArray ⊕ Unit)).bind fun x => match x with
   | .inl r => some r
   | .inr _ =>
    (if ((decide ((6 : Int) ≤ y32.kind)) && (decide (y32.kind ≤ (8 : Int)))) then
     (catO (⟨#[40]⟩ : ByteArray) y35).bind fun y61 =>
     (catO y61 (⟨#[41]⟩ : ByteArray)).bind fun y63 =>
     some y63
    else
     some y35 : Option ByteArray).bind fun v6_59 =>
    if (decide (a0.kind = (5 : Int))) then
     (catO v6_59 (⟨#[32, 126, 62, 32]⟩ : ByteArray)).bind fun y66 =>
     (f_ref04_Digits a0.n).bind fun y68 =>
     (catO y66 y68).bind fun y70 =>
     (catO y70 (⟨#[47]⟩ : ByteArray)).bind fun y72 =>
     (f_ref04_Digits a0.d).bind fun y74 =>
     (catO y72 y74).bind fun y76 =>
     some y76
    else
     (getI ([(⟨#[]⟩ : ByteArray), (⟨#[]⟩ : ByteArray), (⟨#[]⟩ : ByteArray), (⟨#[32, 42, 94, 32]⟩ : ByteArray), (⟨#[32, 47, 94, 32]⟩ : ByteArray)] : List ByteArray) a0.kind).bind fun y78 =>
     (catO v6_59 y78).bind fun y80 =>
     (f_ref04_Digits a0.n).bind fun y82 =>
     (catO y80 y82).bind fun y84 =>
     some y84
abbrev ref04_Text_A0 (a0 : Expr) : List PV := [(.v (.int .i64 a0.kind)), (.v (.string a0.name)), (.v (.int .i64 a0.n)), (.v (.int .i64 a0.d)), (.sl (Expr.rows a0.args)), (.v (.int .i64 a0.at_))]
theorem W_ref04_Text (f_ref04_Text : Expr → Option ByteArray) (f_ref04_Digits : Int → Option ByteArray) (S_ref04_Text : Sat_ref04_Text f_ref04_Text) (S_ref04_Digits : Sat_ref04_Digits f_ref04_Digits) : Sat_ref04_Text (B_ref04_Text f_ref04_Text f_ref04_Digits) := by
 intro a0 r h σ K hK
 refine w_fp Try.func36 rfl rfl (by kernel_rfl) ?_
 unfold B_ref04_Text at h
 have hP := Pre.refl σ
 have E0 : argE [(.ag (ref04_Text_A0 a0))] 0 = (.ag (ref04_Text_A0 a0)) := rfl
 have TT := cj7 Expr.rlen T_157 T_2 T_3 T_37 T_39 T_9
 refine w_sa (fun e s => ∃ i1 : Nat, Bx σ s i1 39 (ref04_Text_A0 a0) ∧ e 1 = (.pt i1 0) ∧ Pre σ s) ?_ fun e s hI => ?_
 ·refine w_x (cj2 E0 TT) (k := ?_)
  exact cw_n ⟨_, WkE.refl _, σ.length, (Bx.new hP 39 (ref04_Text_A0 a0)), (xv (cj2 E0 TT)), (hP.app _)⟩
 obtain ⟨i1, X1, E1, hP⟩ := hI
 refine w_assoc ?_
 refine w_sa (fun e s => Bx σ s i1 39 (ref04_Text_A0 a0) ∧ e 1 = (.pt i1 0) ∧ e 9 = (.v (.bool (decide (a0.kind = (1 : Int))))) ∧ Pre σ s) ?_ fun e s hI => ?_
 ·refine w_x (cj3 E1 X1.get TT) (k := ?_)
  exact cw_n ⟨_, WkE.refl _, X1, (xv (cj3 E1 X1.get TT)), (xv (cj3 E1 X1.get TT)), hP⟩
 obtain ⟨X1, E1, E9, hP⟩ := hI
 refine w_seq ?_
 rcases ite_some h with ⟨hb1, h⟩ | ⟨hb1, h⟩
 ·refine xt (cj3 E1 E9 hb1) ?_
  refine w_sa (fun e s => e 2 = (.v (.string a0.name)) ∧ Pre σ s) ?_ fun e s hI => ?_
  ·refine w_x (cj4 E1 E9 X1.get TT) (k := ?_)
   exact cw_n ⟨_, WkE.refl _, (xv (cj4 E1 E9 X1.get TT)), hP⟩
  obtain ⟨E2, hP⟩ := hI
  refine w_ret ?_
  refine w_sqr ?_
  obtain rfl := some_inj h
  exact w_fin (fun _ => rfl) (xr (rs := #[.tmp 2]) E2) hP (r' := (.v (.string a0.name))) (.refl _) (.v _) hK
 ·refine xf (cj3 E1 E9 hb1) ?_
  refine w_skip ?_
  refine w_sq ?_
  refine w_assoc ?_
  refine w_sa (fun e s => Bx σ s i1 39 (ref04_Text_A0 a0) ∧ e 1 = (.pt i1 0) ∧ e 14 = (.v (.bool (decide (a0.kind = (2 : Int))))) ∧ Pre σ s) ?_ fun e s hI => ?_
  ·refine w_x (cj4 E1 E9 X1.get TT) (k := ?_)
   exact cw_n ⟨_, WkE.refl _, X1, (xv (cj4 E1 E9 X1.get TT)), (xv (cj4 E1 E9 X1.get TT)), hP⟩
  obtain ⟨X1, E1, E14, hP⟩ := hI
  refine w_seq ?_
  rcases ite_some h with ⟨hb2, h⟩ | ⟨hb2, h⟩
  ·refine xt (cj3 E1 E14 hb2) ?_
   obtain ⟨y3, h4, h⟩ := bnd_some h
   refine w_sa (fun e s => Bx σ s i1 39 (ref04_Text_A0 a0) ∧ e 1 = (.pt i1 0) ∧ e 3 = (.v (.string y3)) ∧ Pre σ s) ?_ fun e s hI => ?_
   ·refine w_x (cj6 E1 E14 X1.get (catO_some h4).1 (catO_some h4).2 TT) (k := ?_)
    have q1 := cj6 E1 E14 X1.get (catO_some h4).1 (catO_some h4).2 TT
    exact cw_n ⟨_, WkE.refl _, X1, (xv q1), (xv q1), hP⟩
   obtain ⟨X1, E1, E3, hP⟩ := hI
   refine w_assoc ?_
   refine w_sa (fun e s => Bx σ s i1 39 (ref04_Text_A0 a0) ∧ e 1 = (.pt i1 0) ∧ e 3 = (.v (.string y3)) ∧ e 4 = (.v (.int .i64 (0 : Int))) ∧ Pre σ s) ?_ fun e s hI => ?_
   ·refine w_x (cj4 E1 E3 X1.get TT) (k := ?_)
    have q2 := cj4 E1 E3 X1.get TT
    exact cw_n ⟨_, WkE.refl _, X1, (xv q2), (xv q2), (xv q2), hP⟩
   obtain ⟨X1, E1, E3, E4, hP⟩ := hI
   obtain ⟨x5, h6, h⟩ := bnd_some h
   refine w_sa (fun e s => ∃ v3_7 : ByteArray, v3_7 = x5 ∧ e 3 = (.v (.string v3_7)) ∧ Pre σ s) ?_ fun e s hI => ?_
   ·refine w_block ?_
    refine w_iter h6 (fun v e s => ∃ v3_8 : ByteArray, ∃ v4_9 : Int, (v3_8, v4_9) = v ∧ Bx σ s i1 39 (ref04_Text_A0 a0) ∧ e 1 = (.pt i1 0) ∧ e 3 = (.v (.string v3_8)) ∧ e 4 = (.v (.int .i64 v4_9)) ∧ Pre σ s) ⟨_, WkE.refl _, _, _, rfl, X1, (xv (cj3 E1 E3 E4)), (xv (cj3 E1 E3 E4)), (xv (cj3 E1 E3 E4)), hP⟩ fun v x10 e s hf11 hI => ?_
    obtain ⟨v3_8, v4_9, rfl, X1, E1, E3, E4, hP⟩ := hI
    unfold ref04_Text_L0 at hf11
    try dsimp only at hf11
    refine w_assoc ?_
    refine w_sa (fun e s => Bx σ s i1 39 (ref04_Text_A0 a0) ∧ e 1 = (.pt i1 0) ∧ e 3 = (.v (.string v3_8)) ∧ e 4 = (.v (.int .i64 v4_9)) ∧ e 22 = (.v (.bool (decide (v4_9 < ((List.length a0.args : Nat) : Int))))) ∧ Pre σ s) ?_ fun e s hI => ?_
    ·refine w_x (cj5 E1 E3 E4 X1.get TT) (k := ?_)
     have q3 := cj5 E1 E3 E4 X1.get TT
     exact cw_n ⟨_, WkE.refl _, X1, (xv q3), (xv q3), (xv q3), (xv q3), hP⟩
    obtain ⟨X1, E1, E3, E4, E22, hP⟩ := hI
    refine w_seq ?_
    rcases ite_some hf11 with ⟨hb12, hf11⟩ | ⟨hb12, hf11⟩
    ·refine xt (cj5 E1 E3 E4 E22 hb12) ?_
     refine w_skip ?_
     refine w_sq ?_
     obtain ⟨x13, h14, hf11⟩ := bnd_some hf11
     refine w_sa (fun e s => ∃ v3_15 : ByteArray, v3_15 = x13 ∧ Bx σ s i1 39 (ref04_Text_A0 a0) ∧ e 1 = (.pt i1 0) ∧ e 3 = (.v (.string v3_15)) ∧ e 4 = (.v (.int .i64 v4_9)) ∧ Pre σ s) ?_ fun e s hI => ?_
     ·refine w_block ?_
      refine w_assoc ?_
      refine w_sa (fun e s => Bx σ s i1 39 (ref04_Text_A0 a0) ∧ e 1 = (.pt i1 0) ∧ e 3 = (.v (.string v3_8)) ∧ e 4 = (.v (.int .i64 v4_9)) ∧ e 26 = (.v (.bool (decide ((0 : Int) < v4_9)))) ∧ Pre σ s) ?_ fun e s hI => ?_
      ·refine w_x (cj6 E1 E3 E4 E22 X1.get TT) (k := ?_)
       have q4 := cj6 E1 E3 E4 E22 X1.get TT
       exact cw_n ⟨_, WkE.refl _, X1, (xv q4), (xv q4), (xv q4), (xv q4), hP⟩
      obtain ⟨X1, E1, E3, E4, E26, hP⟩ := hI
      obtain ⟨x16, h17, h14⟩ := bnd_some h14
      refine w_sa (fun e s => ∃ v3_18 : ByteArray, v3_18 = x16 ∧ Bx σ s i1 39 (ref04_Text_A0 a0) ∧ e 1 = (.pt i1 0) ∧ e 3 = (.v (.string v3_18)) ∧ e 4 = (.v (.int .i64 v4_9)) ∧ Pre σ s) ?_ fun e s hI => ?_
      ·rcases ite_some h17 with ⟨hb19, h17⟩ | ⟨hb19, h17⟩
       ·refine xt (cj5 E1 E3 E4 E26 hb19) ?_
        obtain ⟨y20, h21, h17⟩ := bnd_some h17
        refine w_x (cj8 E1 E3 E4 E26 X1.get (catO_some h21).1 (catO_some h21).2 TT) (k := ?_)
        obtain rfl := some_inj h17
        have q5 := cj8 E1 E3 E4 E26 X1.get (catO_some h21).1 (catO_some h21).2 TT
        exact cw_n ⟨_, WkE.refl _, _, rfl, X1, (xv q5), (xv q5), (xv q5), hP⟩
       ·refine xf (cj5 E1 E3 E4 E26 hb19) ?_
        refine w_skip ?_
        obtain rfl := some_inj h17
        have q6 := cj4 E1 E3 E4 E26
        exact cw_n ⟨_, WkE.refl _, _, rfl, X1, (xv q6), (xv q6), (xv q6), hP⟩
      obtain ⟨v3_18, rfl, X1, E1, E3, E4, hP⟩ := hI
      try dsimp only at h14
      obtain ⟨y22, h23, h14⟩ := bnd_some h14
      obtain ⟨y24, h25, h14⟩ := bnd_some h14
      obtain ⟨y26, h27, h14⟩ := bnd_some h14
      have R28 : (Expr.rows a0.args)[(v4_9).toNat]? = some [(.v (.int .i64 y22.kind)), (.v (.string y22.name)), (.v (.int .i64 y22.n)), (.v (.int .i64 y22.d)), (.sl (Expr.rows y22.args)), (.v (.int .i64 y22.at_))] := Expr.rget (getI_some h23).2
      refine w_x (cj9 E1 E3 E4 X1.get R28 (getI_some h23).1 (catO_some h27).1 (catO_some h27).2 TT) (k := ?_)
      refine EC.wka (.cons (.refl _) .nil) (S_ref04_Text _ _ h25 _ _  ?_)
      refine w_y (cj9 E1 E3 E4 X1.get R28 (getI_some h23).1 (catO_some h27).1 (catO_some h27).2 TT) (k := ?_)
      refine w_bk ?_
      obtain rfl := some_inj h14
      have q7 := cj9 E1 E3 E4 X1.get R28 (getI_some h23).1 (catO_some h27).1 (catO_some h27).2 TT
      exact cw_n ⟨_, WkE.refl _, _, rfl, X1, (xv q7), (xv q7), (xv q7), hP⟩
     obtain ⟨v3_15, rfl, X1, E1, E3, E4, hP⟩ := hI
     try dsimp only at hf11
     refine w_x (cj5 E1 E3 E4 X1.get TT) (k := ?_)
     obtain rfl := some_inj hf11
     have q8 := cj5 E1 E3 E4 X1.get TT
     exact iq_n rfl ⟨_, WkE.refl _, _, _, rfl, X1, (xv q8), (xv q8), (xv q8), hP⟩
    ·refine xf (cj5 E1 E3 E4 E22 hb12) ?_
     refine w_exit ?_
     refine w_sqx ?_
     obtain rfl := some_inj hf11
     refine iq_x rfl fun hr29 => ?_
     obtain rfl := hr29
     refine w_bkx ?_
     exact cw_n ⟨_, WkE.refl _, _, rfl, (xv (cj4 E1 E3 E4 E22)), hP⟩
   obtain ⟨v3_7, rfl, E3, hP⟩ := hI
   try dsimp only at h
   obtain ⟨y30, h31, h⟩ := bnd_some h
   refine w_sa (fun e s => e 2 = (.v (.string y30)) ∧ Pre σ s) ?_ fun e s hI => ?_
   ·refine w_x (cj4 E3 (catO_some h31).1 (catO_some h31).2 TT) (k := ?_)
    exact cw_n ⟨_, WkE.refl _, (xv (cj4 E3 (catO_some h31).1 (catO_some h31).2 TT)), hP⟩
   obtain ⟨E2, hP⟩ := hI
   refine w_ret ?_
   refine w_sqr ?_
   obtain rfl := some_inj h
   exact w_fin (fun _ => rfl) (xr (rs := #[.tmp 2]) E2) hP (r' := (.v (.string y30))) (.refl _) (.v _) hK
  ·refine xf (cj3 E1 E14 hb2) ?_
   refine w_skip ?_
   refine w_sq ?_
   obtain ⟨y32, h33, h⟩ := bnd_some h
   refine w_sa (fun e s => ∃ i5 : Nat, Bx σ s i1 39 (ref04_Text_A0 a0) ∧ Bx σ s i5 39 [(.v (.int .i64 y32.kind)), (.v (.string y32.name)), (.v (.int .i64 y32.n)), (.v (.int .i64 y32.d)), (.sl (Expr.rows y32.args)), (.v (.int .i64 y32.at_))] ∧ e 1 = (.pt i1 0) ∧ e 5 = (.pt i5 0) ∧ Pre σ s) ?_ fun e s hI => ?_
   ·have R34 : (Expr.rows a0.args)[((0 : Int)).toNat]? = some [(.v (.int .i64 y32.kind)), (.v (.string y32.name)), (.v (.int .i64 y32.n)), (.v (.int .i64 y32.d)), (.sl (Expr.rows y32.args)), (.v (.int .i64 y32.at_))] := Expr.rget (getI_some h33).2
    refine w_x (cj8 E1 E14 X1.get X1.any X1.any2 R34 (getI_some h33).1 TT) (k := ?_)
    have q9 := cj8 E1 E14 X1.get X1.any X1.any2 R34 (getI_some h33).1 TT
    exact cw_n ⟨_, WkE.refl _, s.length, (X1.app [some (AObj.box 39 [(.v (.int .i64 y32.kind)), (.v (.string y32.name)), (.v (.int .i64 y32.n)), (.v (.int .i64 y32.d)), (.sl (Expr.rows y32.args)), (.v (.int .i64 y32.at_))])]), (Bx.new hP 39 [(.v (.int .i64 y32.kind)), (.v (.string y32.name)), (.v (.int .i64 y32.n)), (.v (.int .i64 y32.d)), (.sl (Expr.rows y32.args)), (.v (.int .i64 y32.at_))]), (xv q9), (xv q9), (hP.app _)⟩
   obtain ⟨i5, X1, X5, E1, E5, hP⟩ := hI
   obtain ⟨y35, h36, h⟩ := bnd_some h
   refine w_sa (fun e s => Bx σ s i1 39 (ref04_Text_A0 a0) ∧ Bx σ s i5 39 [(.v (.int .i64 y32.kind)), (.v (.string y32.name)), (.v (.int .i64 y32.n)), (.v (.int .i64 y32.d)), (.sl (Expr.rows y32.args)), (.v (.int .i64 y32.at_))] ∧ e 1 = (.pt i1 0) ∧ e 5 = (.pt i5 0) ∧ e 6 = (.v (.string y35)) ∧ Pre σ s) ?_ fun e s hI => ?_
   ·refine w_x (cj5 E1 E5 X1.get X5.get TT) (k := ?_)
    refine EC.wka (.cons (.refl _) .nil) (S_ref04_Text _ _ h36 _ _  ?_)
    refine w_y (cj5 E1 E5 X1.get X5.get TT) (k := ?_)
    have q10 := cj5 E1 E5 X1.get X5.get TT
    exact cw_n ⟨_, WkE.refl _, X1, X5, (xv q10), (xv q10), (xv q10), hP⟩
   obtain ⟨X1, X5, E1, E5, E6, hP⟩ := hI
   refine w_assoc ?_
   refine w_sa (fun e s => Bx σ s i1 39 (ref04_Text_A0 a0) ∧ Bx σ s i5 39 [(.v (.int .i64 y32.kind)), (.v (.string y32.name)), (.v (.int .i64 y32.n)), (.v (.int .i64 y32.d)), (.sl (Expr.rows y32.args)), (.v (.int .i64 y32.at_))] ∧ e 1 = (.pt i1 0) ∧ e 5 = (.pt i5 0) ∧ e 6 = (.v (.string y35)) ∧ e 46 = (.v (.int .i64 a0.kind)) ∧ Pre σ s) ?_ fun e s hI => ?_
   ·refine w_x (cj6 E1 E5 E6 X1.get X5.get TT) (k := ?_)
    have q11 := cj6 E1 E5 E6 X1.get X5.get TT
    exact cw_n ⟨_, WkE.refl _, X1, X5, (xv q11), (xv q11), (xv q11), (xv q11), hP⟩
   obtain ⟨X1, X5, E1, E5, E6, E46, hP⟩ := hI
   obtain ⟨x37, h38, h⟩ := bnd_some h
   refine w_sa (fun e s => .inr () = x37 ∧ Bx σ s i1 39 (ref04_Text_A0 a0) ∧ Bx σ s i5 39 [(.v (.int .i64 y32.kind)), (.v (.string y32.name)), (.v (.int .i64 y32.n)), (.v (.int .i64 y32.d)), (.sl (Expr.rows y32.args)), (.v (.int .i64 y32.at_))] ∧ e 1 = (.pt i1 0) ∧ e 5 = (.pt i5 0) ∧ e 6 = (.v (.string y35)) ∧ Pre σ s) ?_ fun e s hI => ?_
   ·refine w_block ?_
    refine w_sa (fun e s => Bx σ s i1 39 (ref04_Text_A0 a0) ∧ Bx σ s i5 39 [(.v (.int .i64 y32.kind)), (.v (.string y32.name)), (.v (.int .i64 y32.n)), (.v (.int .i64 y32.d)), (.sl (Expr.rows y32.args)), (.v (.int .i64 y32.at_))] ∧ e 1 = (.pt i1 0) ∧ e 5 = (.pt i5 0) ∧ e 6 = (.v (.string y35)) ∧ e 46 = (.v (.int .i64 a0.kind)) ∧ e 47 = (.v (.bool (decide (a0.kind = (6 : Int))))) ∧ Pre σ s) ?_ fun e s hI => ?_
    ·refine w_x (cj7 E1 E5 E6 E46 X1.get X5.get TT) (k := ?_)
     have q12 := cj7 E1 E5 E6 E46 X1.get X5.get TT
     exact cw_n ⟨_, WkE.refl _, X1, X5, (xv q12), (xv q12), (xv q12), (xv q12), (xv q12), hP⟩
    obtain ⟨X1, X5, E1, E5, E6, E46, E47, hP⟩ := hI
    rcases ite_some h38 with ⟨hb39, h38⟩ | ⟨hb39, h38⟩
    ·refine xt (cj6 E1 E5 E6 E46 E47 hb39) ?_
     obtain ⟨y40, h41, h38⟩ := bnd_some h38
     obtain ⟨y42, h43, h38⟩ := bnd_some h38
     obtain ⟨y44, h45, h38⟩ := bnd_some h38
     refine w_sa (fun e s => e 2 = (.v (.string y44)) ∧ Pre σ s) ?_ fun e s hI => ?_
     ·refine w_x (cj12 E1 E5 E6 E46 E47 X1.get X5.get (catO_some h43).1 (catO_some h43).2 (catO_some h45).1 (catO_some h45).2 TT) (k := ?_)
      refine EC.wka (.cons (.refl _) .nil) (S_ref04_Digits _ _ h41 _ _  ?_)
      refine w_y (cj12 E1 E5 E6 E46 E47 X1.get X5.get (catO_some h43).1 (catO_some h43).2 (catO_some h45).1 (catO_some h45).2 TT) (k := ?_)
      exact cw_n ⟨_, WkE.refl _, (xv (cj12 E1 E5 E6 E46 E47 X1.get X5.get (catO_some h43).1 (catO_some h43).2 (catO_some h45).1 (catO_some h45).2 TT)), hP⟩
     obtain ⟨E2, hP⟩ := hI
     refine w_ret ?_
     refine w_bkr ?_
     obtain rfl := some_inj h38
     refine cw_r ?_
     try dsimp only at h
     obtain rfl := some_inj h
     exact w_fin (fun _ => rfl) (xr (rs := #[.tmp 2]) E2) hP (r' := (.v (.string y44))) (.refl _) (.v _) hK
    ·refine xf (cj6 E1 E5 E6 E46 E47 hb39) ?_
     refine w_sa (fun e s => Bx σ s i1 39 (ref04_Text_A0 a0) ∧ Bx σ s i5 39 [(.v (.int .i64 y32.kind)), (.v (.string y32.name)), (.v (.int .i64 y32.n)), (.v (.int .i64 y32.d)), (.sl (Expr.rows y32.args)), (.v (.int .i64 y32.at_))] ∧ e 1 = (.pt i1 0) ∧ e 5 = (.pt i5 0) ∧ e 6 = (.v (.string y35)) ∧ e 46 = (.v (.int .i64 a0.kind)) ∧ e 55 = (.v (.bool (decide (a0.kind = (8 : Int))))) ∧ Pre σ s) ?_ fun e s hI => ?_
     ·refine w_x (cj8 E1 E5 E6 E46 E47 X1.get X5.get TT) (k := ?_)
      have q13 := cj8 E1 E5 E6 E46 E47 X1.get X5.get TT
      exact cw_n ⟨_, WkE.refl _, X1, X5, (xv q13), (xv q13), (xv q13), (xv q13), (xv q13), hP⟩
     obtain ⟨X1, X5, E1, E5, E6, E46, E55, hP⟩ := hI
     rcases ite_some h38 with ⟨hb46, h38⟩ | ⟨hb46, h38⟩
     ·refine xt (cj6 E1 E5 E6 E46 E55 hb46) ?_
      obtain ⟨y47, h48, h38⟩ := bnd_some h38
      obtain ⟨y49, h50, h38⟩ := bnd_some h38
      obtain ⟨y51, h52, h38⟩ := bnd_some h38
      refine w_sa (fun e s => e 2 = (.v (.string y51)) ∧ Pre σ s) ?_ fun e s hI => ?_
      ·refine w_x (cj12 E1 E5 E6 E46 E55 X1.get X5.get (catO_some h50).1 (catO_some h50).2 (catO_some h52).1 (catO_some h52).2 TT) (k := ?_)
       refine EC.wka (.cons (.refl _) .nil) (S_ref04_Digits _ _ h48 _ _  ?_)
       refine w_y (cj12 E1 E5 E6 E46 E55 X1.get X5.get (catO_some h50).1 (catO_some h50).2 (catO_some h52).1 (catO_some h52).2 TT) (k := ?_)
       exact cw_n ⟨_, WkE.refl _, (xv (cj12 E1 E5 E6 E46 E55 X1.get X5.get (catO_some h50).1 (catO_some h50).2 (catO_some h52).1 (catO_some h52).2 TT)), hP⟩
      obtain ⟨E2, hP⟩ := hI
      refine w_ret ?_
      refine w_bkr ?_
      obtain rfl := some_inj h38
      refine cw_r ?_
      try dsimp only at h
      obtain rfl := some_inj h
      exact w_fin (fun _ => rfl) (xr (rs := #[.tmp 2]) E2) hP (r' := (.v (.string y51))) (.refl _) (.v _) hK
     ·refine xf (cj6 E1 E5 E6 E46 E55 hb46) ?_
      refine w_sa (fun e s => Bx σ s i1 39 (ref04_Text_A0 a0) ∧ Bx σ s i5 39 [(.v (.int .i64 y32.kind)), (.v (.string y32.name)), (.v (.int .i64 y32.n)), (.v (.int .i64 y32.d)), (.sl (Expr.rows y32.args)), (.v (.int .i64 y32.at_))] ∧ e 1 = (.pt i1 0) ∧ e 5 = (.pt i5 0) ∧ e 6 = (.v (.string y35)) ∧ e 63 = (.v (.bool (decide (a0.kind = (7 : Int))))) ∧ Pre σ s) ?_ fun e s hI => ?_
      ·refine w_x (cj8 E1 E5 E6 E46 E55 X1.get X5.get TT) (k := ?_)
       have q14 := cj8 E1 E5 E6 E46 E55 X1.get X5.get TT
       exact cw_n ⟨_, WkE.refl _, X1, X5, (xv q14), (xv q14), (xv q14), (xv q14), hP⟩
      obtain ⟨X1, X5, E1, E5, E6, E63, hP⟩ := hI
      rcases ite_some h38 with ⟨hb53, h38⟩ | ⟨hb53, h38⟩
      ·refine xt (cj5 E1 E5 E6 E63 hb53) ?_
       obtain ⟨y54, h55, h38⟩ := bnd_some h38
       refine w_sa (fun e s => e 2 = (.v (.string y54)) ∧ Pre σ s) ?_ fun e s hI => ?_
       ·refine w_x (cj9 E1 E5 E6 E63 X1.get X5.get (catO_some h55).1 (catO_some h55).2 TT) (k := ?_)
        exact cw_n ⟨_, WkE.refl _, (xv (cj9 E1 E5 E6 E63 X1.get X5.get (catO_some h55).1 (catO_some h55).2 TT)), hP⟩
       obtain ⟨E2, hP⟩ := hI
       refine w_ret ?_
       refine w_bkr ?_
       obtain rfl := some_inj h38
       refine cw_r ?_
       try dsimp only at h
       obtain rfl := some_inj h
       exact w_fin (fun _ => rfl) (xr (rs := #[.tmp 2]) E2) hP (r' := (.v (.string y54))) (.refl _) (.v _) hK
      ·refine xf (cj5 E1 E5 E6 E63 hb53) ?_
       refine w_skip ?_
       refine w_bk ?_
       obtain rfl := some_inj h38
       have q15 := cj4 E1 E5 E6 E63
       exact cw_n ⟨_, WkE.refl _, rfl, X1, X5, (xv q15), (xv q15), (xv q15), hP⟩
   obtain ⟨rfl, X1, X5, E1, E5, E6, hP⟩ := hI
   try dsimp only at h
   refine w_assoc ?_
   refine w_sa (fun e s => Bx σ s i1 39 (ref04_Text_A0 a0) ∧ e 1 = (.pt i1 0) ∧ e 6 = (.v (.string y35)) ∧ e 74 = (.v (.bool ((decide ((6 : Int) ≤ y32.kind)) && (decide (y32.kind ≤ (8 : Int)))))) ∧ Pre σ s) ?_ fun e s hI => ?_
   ·cases hb56 : (decide ((6 : Int) ≤ y32.kind))
    ·refine w_x (cj7 E1 E5 E6 X1.get X5.get hb56 TT) (k := ?_)
     have q16 := cj7 E1 E5 E6 X1.get X5.get hb56 TT
     exact cw_n ⟨_, WkE.refl _, X1, (xv q16), (xv q16), (xv q16), hP⟩
    ·refine w_x (cj7 E1 E5 E6 X1.get X5.get hb56 TT) (k := ?_)
     have q17 := cj7 E1 E5 E6 X1.get X5.get hb56 TT
     exact cw_n ⟨_, WkE.refl _, X1, (xv q17), (xv q17), (xv q17), hP⟩
   obtain ⟨X1, E1, E6, E74, hP⟩ := hI
   obtain ⟨x57, h58, h⟩ := bnd_some h
   refine w_sa (fun e s => ∃ v6_59 : ByteArray, v6_59 = x57 ∧ Bx σ s i1 39 (ref04_Text_A0 a0) ∧ e 1 = (.pt i1 0) ∧ e 6 = (.v (.string v6_59)) ∧ Pre σ s) ?_ fun e s hI => ?_
   ·rcases ite_some h58 with ⟨hb60, h58⟩ | ⟨hb60, h58⟩
    ·refine xt (cj4 E1 E6 E74 hb60) ?_
     obtain ⟨y61, h62, h58⟩ := bnd_some h58
     obtain ⟨y63, h64, h58⟩ := bnd_some h58
     refine w_x (cj9 E1 E6 E74 X1.get (catO_some h62).1 (catO_some h62).2 (catO_some h64).1 (catO_some h64).2 TT) (k := ?_)
     obtain rfl := some_inj h58
     have q18 := cj9 E1 E6 E74 X1.get (catO_some h62).1 (catO_some h62).2 (catO_some h64).1 (catO_some h64).2 TT
     exact cw_n ⟨_, WkE.refl _, _, rfl, X1, (xv q18), (xv q18), hP⟩
    ·refine xf (cj4 E1 E6 E74 hb60) ?_
     refine w_skip ?_
     obtain rfl := some_inj h58
     exact cw_n ⟨_, WkE.refl _, _, rfl, X1, (xv (cj3 E1 E6 E74)), (xv (cj3 E1 E6 E74)), hP⟩
   obtain ⟨v6_59, rfl, X1, E1, E6, hP⟩ := hI
   try dsimp only at h
   refine w_assoc ?_
   refine w_sa (fun e s => Bx σ s i1 39 (ref04_Text_A0 a0) ∧ e 1 = (.pt i1 0) ∧ e 6 = (.v (.string v6_59)) ∧ e 80 = (.v (.bool (decide (a0.kind = (5 : Int))))) ∧ Pre σ s) ?_ fun e s hI => ?_
   ·refine w_x (cj4 E1 E6 X1.get TT) (k := ?_)
    have q19 := cj4 E1 E6 X1.get TT
    exact cw_n ⟨_, WkE.refl _, X1, (xv q19), (xv q19), (xv q19), hP⟩
   obtain ⟨X1, E1, E6, E80, hP⟩ := hI
   refine w_seq ?_
   rcases ite_some h with ⟨hb65, h⟩ | ⟨hb65, h⟩
   ·refine xt (cj4 E1 E6 E80 hb65) ?_
    obtain ⟨y66, h67, h⟩ := bnd_some h
    obtain ⟨y68, h69, h⟩ := bnd_some h
    obtain ⟨y70, h71, h⟩ := bnd_some h
    obtain ⟨y72, h73, h⟩ := bnd_some h
    obtain ⟨y74, h75, h⟩ := bnd_some h
    obtain ⟨y76, h77, h⟩ := bnd_some h
    refine w_sa (fun e s => e 2 = (.v (.string y76)) ∧ Pre σ s) ?_ fun e s hI => ?_
    ·refine w_xd 10 0 (cj13 E1 E6 E80 X1.get (catO_some h67).1 (catO_some h67).2 (catO_some h71).1 (catO_some h71).2 (catO_some h73).1 (catO_some h73).2 (catO_some h77).1 (catO_some h77).2 TT) (hk := ?_)
     refine EC.wka (.cons (.refl _) .nil) (S_ref04_Digits _ _ h69 _ _  ?_)
     refine w_yd (cj13 E1 E6 E80 X1.get (catO_some h67).1 (catO_some h67).2 (catO_some h71).1 (catO_some h71).2 (catO_some h73).1 (catO_some h73).2 (catO_some h77).1 (catO_some h77).2 TT) (k := ?_)
     refine EC.wka (.cons (.refl _) .nil) (S_ref04_Digits _ _ h75 _ _  ?_)
     refine w_yd (cj13 E1 E6 E80 X1.get (catO_some h67).1 (catO_some h67).2 (catO_some h71).1 (catO_some h71).2 (catO_some h73).1 (catO_some h73).2 (catO_some h77).1 (catO_some h77).2 TT) (k := ?_)
     refine w_xs (cj13 E1 E6 E80 X1.get (catO_some h67).1 (catO_some h67).2 (catO_some h71).1 (catO_some h71).2 (catO_some h73).1 (catO_some h73).2 (catO_some h77).1 (catO_some h77).2 TT) (k := ?_)
     exact cw_n ⟨_, WkE.refl _, (xv (cj13 E1 E6 E80 X1.get (catO_some h67).1 (catO_some h67).2 (catO_some h71).1 (catO_some h71).2 (catO_some h73).1 (catO_some h73).2 (catO_some h77).1 (catO_some h77).2 TT)), hP⟩
    obtain ⟨E2, hP⟩ := hI
    refine w_ret ?_
    refine w_sqr ?_
    obtain rfl := some_inj h
    exact w_fin (fun _ => rfl) (xr (rs := #[.tmp 2]) E2) hP (r' := (.v (.string y76))) (.refl _) (.v _) hK
   ·refine xf (cj4 E1 E6 E80 hb65) ?_
    refine w_skip ?_
    refine w_sq ?_
    obtain ⟨y78, h79, h⟩ := bnd_some h
    obtain ⟨y80, h81, h⟩ := bnd_some h
    obtain ⟨y82, h83, h⟩ := bnd_some h
    obtain ⟨y84, h85, h⟩ := bnd_some h
    refine w_sa (fun e s => e 2 = (.v (.string y84)) ∧ Pre σ s) ?_ fun e s hI => ?_
    ·have R86 := arr_get (f := fun x : ByteArray => PV.v (.string x)) (cs := [(.v (.string (⟨#[]⟩ : ByteArray))), (.v (.string (⟨#[]⟩ : ByteArray))), (.v (.string (⟨#[]⟩ : ByteArray))), (.v (.string (⟨#[32, 42, 94, 32]⟩ : ByteArray))), (.v (.string (⟨#[32, 47, 94, 32]⟩ : ByteArray)))]) (k := 5) h79 rfl rfl
     refine w_xd 9 0 (cj10 E1 E6 E80 X1.get R86 (catO_some h81).1 (catO_some h81).2 (catO_some h85).1 (catO_some h85).2 TT) (hk := ?_)
     refine EC.wka (.cons (.refl _) .nil) (S_ref04_Digits _ _ h83 _ _  ?_)
     refine w_yd (cj10 E1 E6 E80 X1.get R86 (catO_some h81).1 (catO_some h81).2 (catO_some h85).1 (catO_some h85).2 TT) (k := ?_)
     refine w_xs (cj10 E1 E6 E80 X1.get R86 (catO_some h81).1 (catO_some h81).2 (catO_some h85).1 (catO_some h85).2 TT) (k := ?_)
     exact cw_n ⟨_, WkE.refl _, (xv (cj10 E1 E6 E80 X1.get R86 (catO_some h81).1 (catO_some h81).2 (catO_some h85).1 (catO_some h85).2 TT)), hP⟩
    obtain ⟨E2, hP⟩ := hI
    refine w_ret ?_
    obtain rfl := some_inj h
    exact w_fin (fun _ => rfl) (xr (rs := #[.tmp 2]) E2) hP (r' := (.v (.string y84))) (.refl _) (.v _) hK
noncomputable def B_law04_awake (f_syntax_Parse : ByteArray → Option (Program × Int × Int)) : Option Bool :=
 (f_syntax_Parse (⟨#[102, 108, 111, 119, 32, 102, 32, 61, 32, 51, 32, 102, 98, 121, 32, 103, 59]⟩ : ByteArray)).bind fun y1 =>
 (if ((decide (y1.2.2 = (0 : Int))) && (decide (((List.length y1.1.flows : Nat) : Int) = (1 : Int)))) then
  (getI y1.1.flows (0 : Int)).bind fun y3 =>
  some (decide (y3.e.n = (3 : Int)))
 else
  some false).bind fun w5 =>
 some (((decide (y1.2.2 = (0 : Int))) && (decide (((List.length y1.1.flows : Nat) : Int) = (1 : Int)))) && w5)
theorem W_law04_awake (f_syntax_Parse : ByteArray → Option (Program × Int × Int)) (S_syntax_Parse : Sat_syntax_Parse f_syntax_Parse) : Sat_law04_awake (B_law04_awake f_syntax_Parse) := by
 intro r h σ K hK
 refine w_fp Try.func32 rfl rfl (by kernel_rfl) ?_
 unfold B_law04_awake at h
 have hP := Pre.refl σ
 have TT := cj13 Expr.rlen T_2 T_22 T_23 T_24 T_25 T_27 T_3 T_30 T_37 T_39 T_41 T_9
 refine w_sa (fun e s => Pre σ s) ?_ fun e s hI => ?_
 ·refine w_x Expr.rlen (k := ?_)
  exact cw_n ⟨_, WkE.refl _, hP⟩
 have hP := hI
 obtain ⟨y1, h2, h⟩ := bnd_some h
 refine w_sa (fun e s => ∃ i1 : Nat, Bx σ s i1 27 [(.sl (List.map Node.cl y1.1.nodes)), (.sl (List.map Input.cl y1.1.inputs)), (.sl (List.map Flow.cl y1.1.flows)), (.sl (List.map Output.cl y1.1.outputs))] ∧ e 1 = (.pt i1 0) ∧ e 3 = (.v (.int .i64 y1.2.2)) ∧ Pre σ s) ?_ fun e s hI => ?_
 ·refine w_x TT (k := ?_)
  refine EC.wka (.cons (.refl _) .nil) (S_syntax_Parse _ _ h2 _ _  ?_)
  refine w_y TT (k := ?_)
  exact cw_n ⟨_, WkE.refl _, s.length, (Bx.new hP 27 [(.sl (List.map Node.cl y1.1.nodes)), (.sl (List.map Input.cl y1.1.inputs)), (.sl (List.map Flow.cl y1.1.flows)), (.sl (List.map Output.cl y1.1.outputs))]), (xv TT), (xv TT), (hP.app _)⟩
 obtain ⟨i1, X1, E1, E3, hP⟩ := hI
 obtain ⟨w5, h6, h⟩ := bnd_some h
 refine w_sa (fun e s => e 0 = (.v (.bool (((decide (y1.2.2 = (0 : Int))) && (decide (((List.length y1.1.flows : Nat) : Int) = (1 : Int)))) && w5))) ∧ Pre σ s) ?_ fun e s hI => ?_
 ·cases hb7 : (decide (y1.2.2 = (0 : Int)))
  ·replace h6 := ite_f (by simp only [hb7, Bool.or_true, Bool.true_or, Bool.or_false, Bool.false_or, Bool.and_true, Bool.true_and, Bool.and_false, Bool.false_and, Bool.not_true, Bool.not_false, cond_true, cond_false]) h6
   obtain rfl := some_inj h6
   refine w_x (cj5 E1 E3 X1.get hb7 TT) (k := ?_)
   exact cw_n ⟨_, WkE.refl _, (xv (cj5 E1 E3 X1.get hb7 TT)), hP⟩
  ·cases hb8 : (decide (((List.length y1.1.flows : Nat) : Int) = (1 : Int)))
   ·replace h6 := ite_f (by simp only [hb7, hb8, Bool.or_true, Bool.true_or, Bool.or_false, Bool.false_or, Bool.and_true, Bool.true_and, Bool.and_false, Bool.false_and, Bool.not_true, Bool.not_false, cond_true, cond_false]) h6
    obtain rfl := some_inj h6
    refine w_x (cj6 E1 E3 X1.get hb7 hb8 TT) (k := ?_)
    exact cw_n ⟨_, WkE.refl _, (xv (cj6 E1 E3 X1.get hb7 hb8 TT)), hP⟩
   ·replace h6 := ite_t (by simp only [hb7, hb8, Bool.or_true, Bool.true_or, Bool.or_false, Bool.false_or, Bool.and_true, Bool.true_and, Bool.and_false, Bool.false_and, Bool.not_true, Bool.not_false, cond_true, cond_false]) h6
    obtain ⟨y3, h4, h6⟩ := bnd_some h6
    obtain rfl := some_inj h6
    have R9 : (List.map Flow.cl y1.1.flows)[((0 : Int)).toNat]? = some [(.v (.string y3.name)), (.v (.int .i64 y3.e.kind)), (.v (.string y3.e.name)), (.v (.int .i64 y3.e.n)), (.v (.int .i64 y3.e.d)), (.sl (Expr.rows y3.e.args)), (.v (.int .i64 y3.e.at_)), (.v (.int .i64 y3.at_))] := map_get (getI_some h4).2
    refine w_x (cj8 E1 E3 X1.get hb7 hb8 R9 (getI_some h4).1 TT) (k := ?_)
    exact cw_n ⟨_, WkE.refl _, (xv (cj8 E1 E3 X1.get hb7 hb8 R9 (getI_some h4).1 TT)), hP⟩
 obtain ⟨E0, hP⟩ := hI
 refine w_ret ?_
 obtain rfl := some_inj h
 exact w_fin (fun _ => rfl) (xr (rs := #[.tmp 0]) E0) hP (r' := (.v (.bool (((decide (y1.2.2 = (0 : Int))) && (decide (((List.length y1.1.flows : Nat) : Int) = (1 : Int)))) && w5)))) (.refl _) (.v _) hK
noncomputable def law04_SyntaxDepth_L1 (a2 : Int) : (ByteArray × Int) → Option ((ByteArray × Int) ⊕ ByteArray)
 | (v8_37, v12_38) =>
  if (decide (v12_38 < (IntKind.i64.wrap (Int.tmod a2 (30 : Int))))) then
   ((catO (⟨#[40]⟩ : ByteArray) v8_37).bind fun y45 =>
   (catO y45 (⟨#[41]⟩ : ByteArray)).bind fun y47 =>
   some y47 : Option ByteArray).bind fun v8_44 =>
   some (.inl (v8_44, (IntKind.i64.wrap (v12_38 + (1 : Int)))))
  else
   some (.inr v8_37)
noncomputable def law04_SyntaxDepth_L0 (a0 : Int) (a1 : (List Int)) : (Int × Expr) → Option ((Int × Expr) ⊕ Expr)
 | (v10_10, v9_11) =>
  if (decide (v10_10 < (IntKind.i64.wrap (Int.tmod a0 (60 : Int))))) then
   ((if (decide (v10_10 < ((List.length a1 : Nat) : Int))) then
    (getI a1 v10_10).bind fun y22 =>
    some (IntKind.i64.wrap (Int.tmod y22 (3 : Int)))
   else
    some (0 : Int) : Option Int).bind fun v11_20 =>
   (getI ([(7 : Int), (3 : Int), (6 : Int)] : List Int) v11_20).bind fun y25 =>
   (getI ([(0 : Int), (2 : Int), (7 : Int)] : List Int) v11_20).bind fun y27 =>
   some (Expr.mk y25 (⟨#[]⟩ : ByteArray) y27 (0 : Int) ([v9_11]) (0 : Int)) : Option Expr).bind fun v9_17 =>
   some (.inl ((IntKind.i64.wrap (v10_10 + (1 : Int))), v9_17))
  else
   some (.inr v9_11)
noncomputable def B_law04_SyntaxDepth (f_law04_awake : Option Bool) (f_syntax_Parse : ByteArray → Option (Program × Int × Int)) (f_ref04_Text : Expr → Option ByteArray) (f_syntax_Depth : Expr → Option Int) (a0 : Int) (a1 : (List Int)) (a2 : Int) : Option Bool :=
 (f_law04_awake).bind fun y1 =>
 if ((!y1) || (decide ((60 : Int) < ((List.length a1 : Nat) : Int)))) then
  (f_law04_awake).bind fun y5 =>
  some y5
 else
  (iterO (law04_SyntaxDepth_L0 a0 a1) ((0 : Int), (Expr.mk (1 : Int) (⟨#[120]⟩ : ByteArray) (0 : Int) (0 : Int) ([]) (0 : Int))) : Option Expr).bind fun v9_9 =>
  (f_ref04_Text v9_9).bind fun y32 =>
  (iterO (law04_SyntaxDepth_L1 a2) (y32, (0 : Int)) : Option ByteArray).bind fun v8_36 =>
  (catO (⟨#[102, 108, 111, 119, 32, 102, 32, 61, 32]⟩ : ByteArray) v8_36).bind fun y50 =>
  (catO y50 (⟨#[59]⟩ : ByteArray)).bind fun y52 =>
  (f_syntax_Parse y52).bind fun y54 =>
  if (decide ((20 : Int) < (IntKind.i64.wrap ((IntKind.i64.wrap (Int.tmod a0 (60 : Int))) + (1 : Int))))) then
   some (decide (y54.2.2 = (2 : Int)))
  else
   (if (decide (y54.2.2 = (0 : Int))) then
    (getI y54.1.flows (0 : Int)).bind fun y57 =>
    (f_syntax_Depth y57.e).bind fun y59 =>
    some (decide (y59 = (IntKind.i64.wrap ((IntKind.i64.wrap (Int.tmod a0 (60 : Int))) + (1 : Int)))))
   else
    some false).bind fun w61 =>
   (if ((decide (y54.2.2 = (0 : Int))) && w61) then
    (getI y54.1.flows (0 : Int)).bind fun y63 =>
    (f_ref04_Text y63.e).bind fun y65 =>
    (f_ref04_Text v9_9).bind fun y67 =>
    some (decide (y65 = y67))
   else
    some false).bind fun w69 =>
   some (((decide (y54.2.2 = (0 : Int))) && w61) && w69)
theorem W_law04_SyntaxDepth (f_law04_awake : Option Bool) (f_syntax_Parse : ByteArray → Option (Program × Int × Int)) (f_ref04_Text : Expr → Option ByteArray) (f_syntax_Depth : Expr → Option Int) (S_law04_awake : Sat_law04_awake f_law04_awake) (S_syntax_Parse : Sat_syntax_Parse f_syntax_Parse) (S_ref04_Text : Sat_ref04_Text f_ref04_Text) (S_syntax_Depth : Sat_syntax_Depth f_syntax_Depth) : Sat_law04_SyntaxDepth (B_law04_SyntaxDepth f_law04_awake f_syntax_Parse f_ref04_Text f_syntax_Depth) := by
 intro a0 a1 a2 r h σ K hK
 refine w_fp Try.func8 rfl rfl (by kernel_rfl) ?_
 unfold B_law04_SyntaxDepth at h
 have hP := Pre.refl σ
 have E0 : argE [(.v (.int .u8 a0)), (.sl (List.map C_u8 a1)), (.v (.int .u8 a2))] 0 = (.v (.int .u8 a0)) := rfl
 have E1 : argE [(.v (.int .u8 a0)), (.sl (List.map C_u8 a1)), (.v (.int .u8 a2))] 1 = (.sl (List.map C_u8 a1)) := rfl
 have E2 : argE [(.v (.int .u8 a0)), (.sl (List.map C_u8 a1)), (.v (.int .u8 a2))] 2 = (.v (.int .u8 a2)) := rfl
 have TT := cj17 Expr.rlen T_2 T_22 T_23 T_24 T_25 T_27 T_3 T_30 T_37 T_39 T_41 T_5 T_89 T_9 T_90 T_91
 refine w_sa (fun e s => e 0 = (.v (.int .u8 a0)) ∧ e 1 = (.sl (List.map C_u8 a1)) ∧ e 2 = (.v (.int .u8 a2)) ∧ Pre σ s) ?_ fun e s hI => ?_
 ·refine w_x (cj4 E0 E1 E2 TT) (k := ?_)
  have q1 := cj4 E0 E1 E2 TT
  exact cw_n ⟨_, WkE.refl _, (xv q1), (xv q1), (xv q1), hP⟩
 obtain ⟨E0, E1, E2, hP⟩ := hI
 refine w_assoc ?_
 obtain ⟨y1, h2, h⟩ := bnd_some h
 refine w_sa (fun e s => e 0 = (.v (.int .u8 a0)) ∧ e 1 = (.sl (List.map C_u8 a1)) ∧ e 2 = (.v (.int .u8 a2)) ∧ e 22 = (.v (.bool ((!y1) || (decide ((60 : Int) < ((List.length a1 : Nat) : Int)))))) ∧ Pre σ s) ?_ fun e s hI => ?_
 ·cases hb3 : (!y1)
  ·refine w_x (cj5 E0 E1 E2 hb3 TT) (k := ?_)
   refine EC.wka .nil (S_law04_awake _ h2 _ _  ?_)
   refine w_y (cj5 E0 E1 E2 hb3 TT) (k := ?_)
   have q2 := cj5 E0 E1 E2 hb3 TT
   exact cw_n ⟨_, WkE.refl _, (xv q2), (xv q2), (xv q2), (xv q2), hP⟩
  ·refine w_x (cj5 E0 E1 E2 hb3 TT) (k := ?_)
   refine EC.wka .nil (S_law04_awake _ h2 _ _  ?_)
   refine w_y (cj5 E0 E1 E2 hb3 TT) (k := ?_)
   have q3 := cj5 E0 E1 E2 hb3 TT
   exact cw_n ⟨_, WkE.refl _, (xv q3), (xv q3), (xv q3), (xv q3), hP⟩
 obtain ⟨E0, E1, E2, E22, hP⟩ := hI
 refine w_seq ?_
 rcases ite_some h with ⟨hb4, h⟩ | ⟨hb4, h⟩
 ·refine xt (cj5 E0 E1 E2 E22 hb4) ?_
  obtain ⟨y5, h6, h⟩ := bnd_some h
  refine w_sa (fun e s => e 6 = (.v (.bool y5)) ∧ Pre σ s) ?_ fun e s hI => ?_
  ·refine w_x (cj5 E0 E1 E2 E22 TT) (k := ?_)
   refine EC.wka .nil (S_law04_awake _ h6 _ _  ?_)
   refine w_y (cj5 E0 E1 E2 E22 TT) (k := ?_)
   exact cw_n ⟨_, WkE.refl _, (xv (cj5 E0 E1 E2 E22 TT)), hP⟩
  obtain ⟨E6, hP⟩ := hI
  refine w_ret ?_
  refine w_sqr ?_
  obtain rfl := some_inj h
  exact w_fin (fun _ => rfl) (xr (rs := #[.tmp 6]) E6) hP (r' := (.v (.bool y5))) (.refl _) (.v _) hK
 ·refine xf (cj5 E0 E1 E2 E22 hb4) ?_
  refine w_skip ?_
  refine w_sq ?_
  refine w_sa (fun e s => e 1 = (.sl (List.map C_u8 a1)) ∧ e 2 = (.v (.int .u8 a2)) ∧ e 7 = (.v (.int .i64 (IntKind.i64.wrap (Int.tmod a0 (60 : Int))))) ∧ Pre σ s) ?_ fun e s hI => ?_
  ·refine w_x (cj5 E0 E1 E2 E22 TT) (k := ?_)
   have q4 := cj5 E0 E1 E2 E22 TT
   exact cw_n ⟨_, WkE.refl _, (xv q4), (xv q4), (xv q4), hP⟩
  obtain ⟨E1, E2, E7, hP⟩ := hI
  refine w_sa (fun e s => e 1 = (.sl (List.map C_u8 a1)) ∧ e 2 = (.v (.int .u8 a2)) ∧ e 7 = (.v (.int .i64 (IntKind.i64.wrap (Int.tmod a0 (60 : Int))))) ∧ Pre σ s) ?_ fun e s hI => ?_
  ·refine w_x (cj4 E1 E2 E7 TT) (k := ?_)
   have q5 := cj4 E1 E2 E7 TT
   exact cw_n ⟨_, WkE.refl _, (xv q5), (xv q5), (xv q5), hP⟩
  obtain ⟨E1, E2, E7, hP⟩ := hI
  refine w_sa (fun e s => ∃ i9 : Nat, Bx σ s i9 39 [(.v (.int .i64 (1 : Int))), (.v (.string (⟨#[120]⟩ : ByteArray))), (.v (.int .i64 (0 : Int))), (.v (.int .i64 (0 : Int))), (.sl []), (.v (.int .i64 (0 : Int)))] ∧ e 1 = (.sl (List.map C_u8 a1)) ∧ e 2 = (.v (.int .u8 a2)) ∧ e 7 = (.v (.int .i64 (IntKind.i64.wrap (Int.tmod a0 (60 : Int))))) ∧ e 9 = (.pt i9 0) ∧ Pre σ s) ?_ fun e s hI => ?_
  ·refine w_x (cj4 E1 E2 E7 TT) (k := ?_)
   have q6 := cj4 E1 E2 E7 TT
   exact cw_n ⟨_, WkE.refl _, s.length, (Bx.new hP 39 [(.v (.int .i64 (1 : Int))), (.v (.string (⟨#[120]⟩ : ByteArray))), (.v (.int .i64 (0 : Int))), (.v (.int .i64 (0 : Int))), (.sl []), (.v (.int .i64 (0 : Int)))]), (xv q6), (xv q6), (xv q6), (xv q6), (hP.app _)⟩
  obtain ⟨i9, X9, E1, E2, E7, E9, hP⟩ := hI
  refine w_assoc ?_
  refine w_sa (fun e s => Bx σ s i9 39 [(.v (.int .i64 (1 : Int))), (.v (.string (⟨#[120]⟩ : ByteArray))), (.v (.int .i64 (0 : Int))), (.v (.int .i64 (0 : Int))), (.sl []), (.v (.int .i64 (0 : Int)))] ∧ e 1 = (.sl (List.map C_u8 a1)) ∧ e 2 = (.v (.int .u8 a2)) ∧ e 7 = (.v (.int .i64 (IntKind.i64.wrap (Int.tmod a0 (60 : Int))))) ∧ e 9 = (.pt i9 0) ∧ e 10 = (.v (.int .i64 (0 : Int))) ∧ Pre σ s) ?_ fun e s hI => ?_
  ·refine w_x (cj6 E1 E2 E7 E9 X9.get TT) (k := ?_)
   have q7 := cj6 E1 E2 E7 E9 X9.get TT
   exact cw_n ⟨_, WkE.refl _, X9, (xv q7), (xv q7), (xv q7), (xv q7), (xv q7), hP⟩
  obtain ⟨X9, E1, E2, E7, E9, E10, hP⟩ := hI
  obtain ⟨x7, h8, h⟩ := bnd_some h
  refine w_sa (fun e s => ∃ v9_9 : Expr, v9_9 = x7 ∧ Bx σ s i9 39 [(.v (.int .i64 v9_9.kind)), (.v (.string v9_9.name)), (.v (.int .i64 v9_9.n)), (.v (.int .i64 v9_9.d)), (.sl (Expr.rows v9_9.args)), (.v (.int .i64 v9_9.at_))] ∧ e 2 = (.v (.int .u8 a2)) ∧ e 7 = (.v (.int .i64 (IntKind.i64.wrap (Int.tmod a0 (60 : Int))))) ∧ e 9 = (.pt i9 0) ∧ Pre σ s) ?_ fun e s hI => ?_
  ·refine w_block ?_
   have q8 := cj5 E1 E2 E7 E9 E10
   refine w_iter h8 (fun v e s => ∃ v10_10 : Int, ∃ v9_11 : Expr, (v10_10, v9_11) = v ∧ Bx σ s i9 39 [(.v (.int .i64 v9_11.kind)), (.v (.string v9_11.name)), (.v (.int .i64 v9_11.n)), (.v (.int .i64 v9_11.d)), (.sl (Expr.rows v9_11.args)), (.v (.int .i64 v9_11.at_))] ∧ e 1 = (.sl (List.map C_u8 a1)) ∧ e 2 = (.v (.int .u8 a2)) ∧ e 7 = (.v (.int .i64 (IntKind.i64.wrap (Int.tmod a0 (60 : Int))))) ∧ e 9 = (.pt i9 0) ∧ e 10 = (.v (.int .i64 v10_10)) ∧ Pre σ s) ⟨_, WkE.refl _, _, _, rfl, X9, (xv q8), (xv q8), (xv q8), (xv q8), (xv q8), hP⟩ fun v x12 e s hf13 hI => ?_
   obtain ⟨v10_10, v9_11, rfl, X9, E1, E2, E7, E9, E10, hP⟩ := hI
   unfold law04_SyntaxDepth_L0 at hf13
   try dsimp only at hf13
   refine w_assoc ?_
   refine w_sa (fun e s => Bx σ s i9 39 [(.v (.int .i64 v9_11.kind)), (.v (.string v9_11.name)), (.v (.int .i64 v9_11.n)), (.v (.int .i64 v9_11.d)), (.sl (Expr.rows v9_11.args)), (.v (.int .i64 v9_11.at_))] ∧ e 1 = (.sl (List.map C_u8 a1)) ∧ e 2 = (.v (.int .u8 a2)) ∧ e 7 = (.v (.int .i64 (IntKind.i64.wrap (Int.tmod a0 (60 : Int))))) ∧ e 9 = (.pt i9 0) ∧ e 10 = (.v (.int .i64 v10_10)) ∧ e 30 = (.v (.bool (decide (v10_10 < (IntKind.i64.wrap (Int.tmod a0 (60 : Int))))))) ∧ Pre σ s) ?_ fun e s hI => ?_
   ·refine w_x (cj7 E1 E2 E7 E9 E10 X9.get TT) (k := ?_)
    have q9 := cj7 E1 E2 E7 E9 E10 X9.get TT
    exact cw_n ⟨_, WkE.refl _, X9, (xv q9), (xv q9), (xv q9), (xv q9), (xv q9), (xv q9), hP⟩
   obtain ⟨X9, E1, E2, E7, E9, E10, E30, hP⟩ := hI
   refine w_seq ?_
   rcases ite_some hf13 with ⟨hb14, hf13⟩ | ⟨hb14, hf13⟩
   ·refine xt (cj7 E1 E2 E7 E9 E10 E30 hb14) ?_
    refine w_skip ?_
    refine w_sq ?_
    obtain ⟨x15, h16, hf13⟩ := bnd_some hf13
    refine w_sa (fun e s => ∃ v9_17 : Expr, v9_17 = x15 ∧ Bx σ s i9 39 [(.v (.int .i64 v9_17.kind)), (.v (.string v9_17.name)), (.v (.int .i64 v9_17.n)), (.v (.int .i64 v9_17.d)), (.sl (Expr.rows v9_17.args)), (.v (.int .i64 v9_17.at_))] ∧ e 1 = (.sl (List.map C_u8 a1)) ∧ e 2 = (.v (.int .u8 a2)) ∧ e 7 = (.v (.int .i64 (IntKind.i64.wrap (Int.tmod a0 (60 : Int))))) ∧ e 9 = (.pt i9 0) ∧ e 10 = (.v (.int .i64 v10_10)) ∧ Pre σ s) ?_ fun e s hI => ?_
    ·refine w_block ?_
     refine w_sa (fun e s => Bx σ s i9 39 [(.v (.int .i64 v9_11.kind)), (.v (.string v9_11.name)), (.v (.int .i64 v9_11.n)), (.v (.int .i64 v9_11.d)), (.sl (Expr.rows v9_11.args)), (.v (.int .i64 v9_11.at_))] ∧ e 1 = (.sl (List.map C_u8 a1)) ∧ e 2 = (.v (.int .u8 a2)) ∧ e 7 = (.v (.int .i64 (IntKind.i64.wrap (Int.tmod a0 (60 : Int))))) ∧ e 9 = (.pt i9 0) ∧ e 10 = (.v (.int .i64 v10_10)) ∧ e 11 = (.v (.int .i64 (0 : Int))) ∧ Pre σ s) ?_ fun e s hI => ?_
     ·refine w_x (cj8 E1 E2 E7 E9 E10 E30 X9.get TT) (k := ?_)
      have q10 := cj8 E1 E2 E7 E9 E10 E30 X9.get TT
      exact cw_n ⟨_, WkE.refl _, X9, (xv q10), (xv q10), (xv q10), (xv q10), (xv q10), (xv q10), hP⟩
     obtain ⟨X9, E1, E2, E7, E9, E10, E11, hP⟩ := hI
     refine w_assoc ?_
     refine w_sa (fun e s => Bx σ s i9 39 [(.v (.int .i64 v9_11.kind)), (.v (.string v9_11.name)), (.v (.int .i64 v9_11.n)), (.v (.int .i64 v9_11.d)), (.sl (Expr.rows v9_11.args)), (.v (.int .i64 v9_11.at_))] ∧ e 1 = (.sl (List.map C_u8 a1)) ∧ e 2 = (.v (.int .u8 a2)) ∧ e 7 = (.v (.int .i64 (IntKind.i64.wrap (Int.tmod a0 (60 : Int))))) ∧ e 9 = (.pt i9 0) ∧ e 10 = (.v (.int .i64 v10_10)) ∧ e 11 = (.v (.int .i64 (0 : Int))) ∧ e 36 = (.v (.bool (decide (v10_10 < ((List.length a1 : Nat) : Int))))) ∧ Pre σ s) ?_ fun e s hI => ?_
     ·refine w_x (cj8 E1 E2 E7 E9 E10 E11 X9.get TT) (k := ?_)
      have q11 := cj8 E1 E2 E7 E9 E10 E11 X9.get TT
      exact cw_n ⟨_, WkE.refl _, X9, (xv q11), (xv q11), (xv q11), (xv q11), (xv q11), (xv q11), (xv q11), hP⟩
     obtain ⟨X9, E1, E2, E7, E9, E10, E11, E36, hP⟩ := hI
     obtain ⟨x18, h19, h16⟩ := bnd_some h16
     refine w_sa (fun e s => ∃ v11_20 : Int, v11_20 = x18 ∧ Bx σ s i9 39 [(.v (.int .i64 v9_11.kind)), (.v (.string v9_11.name)), (.v (.int .i64 v9_11.n)), (.v (.int .i64 v9_11.d)), (.sl (Expr.rows v9_11.args)), (.v (.int .i64 v9_11.at_))] ∧ e 1 = (.sl (List.map C_u8 a1)) ∧ e 2 = (.v (.int .u8 a2)) ∧ e 7 = (.v (.int .i64 (IntKind.i64.wrap (Int.tmod a0 (60 : Int))))) ∧ e 9 = (.pt i9 0) ∧ e 10 = (.v (.int .i64 v10_10)) ∧ e 11 = (.v (.int .i64 v11_20)) ∧ Pre σ s) ?_ fun e s hI => ?_
     ·rcases ite_some h19 with ⟨hb21, h19⟩ | ⟨hb21, h19⟩
      ·refine xt (cj8 E1 E2 E7 E9 E10 E11 E36 hb21) ?_
       obtain ⟨y22, h23, h19⟩ := bnd_some h19
       have R24 : (List.map C_u8 a1)[(v10_10).toNat]? = some [(.v (.int .u8 y22))] := map_get (getI_some h23).2
       refine w_x (cj11 E1 E2 E7 E9 E10 E11 E36 X9.get R24 (getI_some h23).1 TT) (k := ?_)
       obtain rfl := some_inj h19
       have q12 := cj11 E1 E2 E7 E9 E10 E11 E36 X9.get R24 (getI_some h23).1 TT
       exact cw_n ⟨_, WkE.refl _, _, rfl, X9, (xv q12), (xv q12), (xv q12), (xv q12), (xv q12), (xv q12), hP⟩
      ·refine xf (cj8 E1 E2 E7 E9 E10 E11 E36 hb21) ?_
       refine w_skip ?_
       obtain rfl := some_inj h19
       have q13 := cj7 E1 E2 E7 E9 E10 E11 E36
       exact cw_n ⟨_, WkE.refl _, _, rfl, X9, (xv q13), (xv q13), (xv q13), (xv q13), (xv q13), (xv q13), hP⟩
     obtain ⟨v11_20, rfl, X9, E1, E2, E7, E9, E10, E11, hP⟩ := hI
     try dsimp only at h16
     obtain ⟨y25, h26, h16⟩ := bnd_some h16
     obtain ⟨y27, h28, h16⟩ := bnd_some h16
     have R29 := arr_get (f := fun x : Int => PV.v (.int .i64 x)) (cs := [(.v (.int .i64 (7 : Int))), (.v (.int .i64 (3 : Int))), (.v (.int .i64 (6 : Int)))]) (k := 3) h26 rfl rfl
     have R30 := arr_get (f := fun x : Int => PV.v (.int .i64 x)) (cs := [(.v (.int .i64 (0 : Int))), (.v (.int .i64 (2 : Int))), (.v (.int .i64 (7 : Int)))]) (k := 3) h28 rfl rfl
     refine w_xd 8 0 (cj11 E1 E2 E7 E9 E10 E11 X9.get R29 R30 (X9.same 39 [(.v (.int .i64 y25)), (.v (.string (⟨#[]⟩ : ByteArray))), (.v (.int .i64 y27)), (.v (.int .i64 (0 : Int))), (.sl [[(.v (.int .i64 v9_11.kind)), (.v (.string v9_11.name)), (.v (.int .i64 v9_11.n)), (.v (.int .i64 v9_11.d)), (.sl (Expr.rows v9_11.args)), (.v (.int .i64 v9_11.at_))]]), (.v (.int .i64 (0 : Int)))]).get TT) (hk := ?_)
     refine w_xs (cj11 E1 E2 E7 E9 E10 E11 X9.get R29 R30 (X9.same 39 [(.v (.int .i64 y25)), (.v (.string (⟨#[]⟩ : ByteArray))), (.v (.int .i64 y27)), (.v (.int .i64 (0 : Int))), (.sl [[(.v (.int .i64 v9_11.kind)), (.v (.string v9_11.name)), (.v (.int .i64 v9_11.n)), (.v (.int .i64 v9_11.d)), (.sl (Expr.rows v9_11.args)), (.v (.int .i64 v9_11.at_))]]), (.v (.int .i64 (0 : Int)))]).get TT) (k := ?_)
     refine w_bk ?_
     obtain rfl := some_inj h16
     have q14 := X9.same 39 [(.v (.int .i64 y25)), (.v (.string (⟨#[]⟩ : ByteArray))), (.v (.int .i64 y27)), (.v (.int .i64 (0 : Int))), (.sl [[(.v (.int .i64 v9_11.kind)), (.v (.string v9_11.name)), (.v (.int .i64 v9_11.n)), (.v (.int .i64 v9_11.d)), (.sl (Expr.rows v9_11.args)), (.v (.int .i64 v9_11.at_))]]), (.v (.int .i64 (0 : Int)))]
     have q15 := cj11 E1 E2 E7 E9 E10 E11 X9.get R29 R30 q14.get TT
     exact cw_n ⟨_, WkE.refl _, _, rfl, (Bx.cast (by first | rfl | (simp only [Expr.rows_eq, List.map_cons, List.map_nil, Expr.cl]; done) | (simp only [Expr.rows_eq, List.map_cons, List.map_nil, Expr.cl]; rfl)) q14), (xv q15), (xv q15), (xv q15), (xv q15), (xv q15), (hP.set X9.le (some (AObj.box 39 [(.v (.int .i64 y25)), (.v (.string (⟨#[]⟩ : ByteArray))), (.v (.int .i64 y27)), (.v (.int .i64 (0 : Int))), (.sl [[(.v (.int .i64 v9_11.kind)), (.v (.string v9_11.name)), (.v (.int .i64 v9_11.n)), (.v (.int .i64 v9_11.d)), (.sl (Expr.rows v9_11.args)), (.v (.int .i64 v9_11.at_))]]), (.v (.int .i64 (0 : Int)))])))⟩
    obtain ⟨v9_17, rfl, X9, E1, E2, E7, E9, E10, hP⟩ := hI
    try dsimp only at hf13
    refine w_x (cj7 E1 E2 E7 E9 E10 X9.get TT) (k := ?_)
    obtain rfl := some_inj hf13
    have q16 := cj7 E1 E2 E7 E9 E10 X9.get TT
    exact iq_n rfl ⟨_, WkE.refl _, _, _, rfl, X9, (xv q16), (xv q16), (xv q16), (xv q16), (xv q16), hP⟩
   ·refine xf (cj7 E1 E2 E7 E9 E10 E30 hb14) ?_
    refine w_exit ?_
    refine w_sqx ?_
    obtain rfl := some_inj hf13
    refine iq_x rfl fun hr31 => ?_
    obtain rfl := hr31
    refine w_bkx ?_
    have q17 := cj6 E1 E2 E7 E9 E10 E30
    exact cw_n ⟨_, WkE.refl _, _, rfl, X9, (xv q17), (xv q17), (xv q17), hP⟩
  obtain ⟨v9_9, rfl, X9, E2, E7, E9, hP⟩ := hI
  try dsimp only at h
  obtain ⟨y32, h33, h⟩ := bnd_some h
  refine w_sa (fun e s => Bx σ s i9 39 [(.v (.int .i64 v9_9.kind)), (.v (.string v9_9.name)), (.v (.int .i64 v9_9.n)), (.v (.int .i64 v9_9.d)), (.sl (Expr.rows v9_9.args)), (.v (.int .i64 v9_9.at_))] ∧ e 2 = (.v (.int .u8 a2)) ∧ e 7 = (.v (.int .i64 (IntKind.i64.wrap (Int.tmod a0 (60 : Int))))) ∧ e 8 = (.v (.string y32)) ∧ e 9 = (.pt i9 0) ∧ Pre σ s) ?_ fun e s hI => ?_
  ·refine w_x (cj5 E2 E7 E9 X9.get TT) (k := ?_)
   refine EC.wka (.cons (.refl _) .nil) (S_ref04_Text _ _ h33 _ _  ?_)
   refine w_y (cj5 E2 E7 E9 X9.get TT) (k := ?_)
   have q18 := cj5 E2 E7 E9 X9.get TT
   exact cw_n ⟨_, WkE.refl _, X9, (xv q18), (xv q18), (xv q18), (xv q18), hP⟩
  obtain ⟨X9, E2, E7, E8, E9, hP⟩ := hI
  refine w_assoc ?_
  refine w_sa (fun e s => Bx σ s i9 39 [(.v (.int .i64 v9_9.kind)), (.v (.string v9_9.name)), (.v (.int .i64 v9_9.n)), (.v (.int .i64 v9_9.d)), (.sl (Expr.rows v9_9.args)), (.v (.int .i64 v9_9.at_))] ∧ e 2 = (.v (.int .u8 a2)) ∧ e 7 = (.v (.int .i64 (IntKind.i64.wrap (Int.tmod a0 (60 : Int))))) ∧ e 8 = (.v (.string y32)) ∧ e 9 = (.pt i9 0) ∧ e 12 = (.v (.int .i64 (0 : Int))) ∧ Pre σ s) ?_ fun e s hI => ?_
  ·refine w_x (cj6 E2 E7 E8 E9 X9.get TT) (k := ?_)
   have q19 := cj6 E2 E7 E8 E9 X9.get TT
   exact cw_n ⟨_, WkE.refl _, X9, (xv q19), (xv q19), (xv q19), (xv q19), (xv q19), hP⟩
  obtain ⟨X9, E2, E7, E8, E9, E12, hP⟩ := hI
  obtain ⟨x34, h35, h⟩ := bnd_some h
  refine w_sa (fun e s => ∃ v8_36 : ByteArray, v8_36 = x34 ∧ Bx σ s i9 39 [(.v (.int .i64 v9_9.kind)), (.v (.string v9_9.name)), (.v (.int .i64 v9_9.n)), (.v (.int .i64 v9_9.d)), (.sl (Expr.rows v9_9.args)), (.v (.int .i64 v9_9.at_))] ∧ e 7 = (.v (.int .i64 (IntKind.i64.wrap (Int.tmod a0 (60 : Int))))) ∧ e 8 = (.v (.string v8_36)) ∧ e 9 = (.pt i9 0) ∧ Pre σ s) ?_ fun e s hI => ?_
  ·refine w_block ?_
   have q20 := cj5 E2 E7 E8 E9 E12
   refine w_iter h35 (fun v e s => ∃ v8_37 : ByteArray, ∃ v12_38 : Int, (v8_37, v12_38) = v ∧ Bx σ s i9 39 [(.v (.int .i64 v9_9.kind)), (.v (.string v9_9.name)), (.v (.int .i64 v9_9.n)), (.v (.int .i64 v9_9.d)), (.sl (Expr.rows v9_9.args)), (.v (.int .i64 v9_9.at_))] ∧ e 2 = (.v (.int .u8 a2)) ∧ e 7 = (.v (.int .i64 (IntKind.i64.wrap (Int.tmod a0 (60 : Int))))) ∧ e 8 = (.v (.string v8_37)) ∧ e 9 = (.pt i9 0) ∧ e 12 = (.v (.int .i64 v12_38)) ∧ Pre σ s) ⟨_, WkE.refl _, _, _, rfl, X9, (xv q20), (xv q20), (xv q20), (xv q20), (xv q20), hP⟩ fun v x39 e s hf40 hI => ?_
   obtain ⟨v8_37, v12_38, rfl, X9, E2, E7, E8, E9, E12, hP⟩ := hI
   unfold law04_SyntaxDepth_L1 at hf40
   try dsimp only at hf40
   refine w_assoc ?_
   refine w_sa (fun e s => Bx σ s i9 39 [(.v (.int .i64 v9_9.kind)), (.v (.string v9_9.name)), (.v (.int .i64 v9_9.n)), (.v (.int .i64 v9_9.d)), (.sl (Expr.rows v9_9.args)), (.v (.int .i64 v9_9.at_))] ∧ e 2 = (.v (.int .u8 a2)) ∧ e 7 = (.v (.int .i64 (IntKind.i64.wrap (Int.tmod a0 (60 : Int))))) ∧ e 8 = (.v (.string v8_37)) ∧ e 9 = (.pt i9 0) ∧ e 12 = (.v (.int .i64 v12_38)) ∧ e 58 = (.v (.bool (decide (v12_38 < (IntKind.i64.wrap (Int.tmod a2 (30 : Int))))))) ∧ Pre σ s) ?_ fun e s hI => ?_
   ·refine w_x (cj7 E2 E7 E8 E9 E12 X9.get TT) (k := ?_)
    have q21 := cj7 E2 E7 E8 E9 E12 X9.get TT
    exact cw_n ⟨_, WkE.refl _, X9, (xv q21), (xv q21), (xv q21), (xv q21), (xv q21), (xv q21), hP⟩
   obtain ⟨X9, E2, E7, E8, E9, E12, E58, hP⟩ := hI
   refine w_seq ?_
   rcases ite_some hf40 with ⟨hb41, hf40⟩ | ⟨hb41, hf40⟩
   ·refine xt (cj7 E2 E7 E8 E9 E12 E58 hb41) ?_
    refine w_skip ?_
    refine w_sq ?_
    obtain ⟨x42, h43, hf40⟩ := bnd_some hf40
    refine w_sa (fun e s => ∃ v8_44 : ByteArray, v8_44 = x42 ∧ Bx σ s i9 39 [(.v (.int .i64 v9_9.kind)), (.v (.string v9_9.name)), (.v (.int .i64 v9_9.n)), (.v (.int .i64 v9_9.d)), (.sl (Expr.rows v9_9.args)), (.v (.int .i64 v9_9.at_))] ∧ e 2 = (.v (.int .u8 a2)) ∧ e 7 = (.v (.int .i64 (IntKind.i64.wrap (Int.tmod a0 (60 : Int))))) ∧ e 8 = (.v (.string v8_44)) ∧ e 9 = (.pt i9 0) ∧ e 12 = (.v (.int .i64 v12_38)) ∧ Pre σ s) ?_ fun e s hI => ?_
    ·refine w_block ?_
     obtain ⟨y45, h46, h43⟩ := bnd_some h43
     obtain ⟨y47, h48, h43⟩ := bnd_some h43
     refine w_x (cj12 E2 E7 E8 E9 E12 E58 X9.get (catO_some h46).1 (catO_some h46).2 (catO_some h48).1 (catO_some h48).2 TT) (k := ?_)
     refine w_bk ?_
     obtain rfl := some_inj h43
     have q22 := cj12 E2 E7 E8 E9 E12 E58 X9.get (catO_some h46).1 (catO_some h46).2 (catO_some h48).1 (catO_some h48).2 TT
     exact cw_n ⟨_, WkE.refl _, _, rfl, X9, (xv q22), (xv q22), (xv q22), (xv q22), (xv q22), hP⟩
    obtain ⟨v8_44, rfl, X9, E2, E7, E8, E9, E12, hP⟩ := hI
    try dsimp only at hf40
    refine w_x (cj7 E2 E7 E8 E9 E12 X9.get TT) (k := ?_)
    obtain rfl := some_inj hf40
    have q23 := cj7 E2 E7 E8 E9 E12 X9.get TT
    exact iq_n rfl ⟨_, WkE.refl _, _, _, rfl, X9, (xv q23), (xv q23), (xv q23), (xv q23), (xv q23), hP⟩
   ·refine xf (cj7 E2 E7 E8 E9 E12 E58 hb41) ?_
    refine w_exit ?_
    refine w_sqx ?_
    obtain rfl := some_inj hf40
    refine iq_x rfl fun hr49 => ?_
    obtain rfl := hr49
    refine w_bkx ?_
    have q24 := cj6 E2 E7 E8 E9 E12 E58
    exact cw_n ⟨_, WkE.refl _, _, rfl, X9, (xv q24), (xv q24), (xv q24), hP⟩
  obtain ⟨v8_36, rfl, X9, E7, E8, E9, hP⟩ := hI
  try dsimp only at h
  obtain ⟨y50, h51, h⟩ := bnd_some h
  obtain ⟨y52, h53, h⟩ := bnd_some h
  obtain ⟨y54, h55, h⟩ := bnd_some h
  refine w_sa (fun e s => ∃ i13 : Nat, Bx σ s i13 27 [(.sl (List.map Node.cl y54.1.nodes)), (.sl (List.map Input.cl y54.1.inputs)), (.sl (List.map Flow.cl y54.1.flows)), (.sl (List.map Output.cl y54.1.outputs))] ∧ Bx σ s i9 39 [(.v (.int .i64 v9_9.kind)), (.v (.string v9_9.name)), (.v (.int .i64 v9_9.n)), (.v (.int .i64 v9_9.d)), (.sl (Expr.rows v9_9.args)), (.v (.int .i64 v9_9.at_))] ∧ e 7 = (.v (.int .i64 (IntKind.i64.wrap (Int.tmod a0 (60 : Int))))) ∧ e 9 = (.pt i9 0) ∧ e 13 = (.pt i13 0) ∧ e 15 = (.v (.int .i64 y54.2.2)) ∧ i13 ≠ i9 ∧ Pre σ s) ?_ fun e s hI => ?_
  ·refine w_x (cj11 E7 E8 E9 X9.get X9.any X9.any2 (catO_some h51).1 (catO_some h51).2 (catO_some h53).1 (catO_some h53).2 TT) (k := ?_)
   refine EC.wka (.cons (.refl _) .nil) (S_syntax_Parse _ _ h55 _ _  ?_)
   refine w_y (cj11 E7 E8 E9 X9.get X9.any X9.any2 (catO_some h51).1 (catO_some h51).2 (catO_some h53).1 (catO_some h53).2 TT) (k := ?_)
   have q25 := cj11 E7 E8 E9 X9.get X9.any X9.any2 (catO_some h51).1 (catO_some h51).2 (catO_some h53).1 (catO_some h53).2 TT
   exact cw_n ⟨_, WkE.refl _, s.length, (Bx.new hP 27 [(.sl (List.map Node.cl y54.1.nodes)), (.sl (List.map Input.cl y54.1.inputs)), (.sl (List.map Flow.cl y54.1.flows)), (.sl (List.map Output.cl y54.1.outputs))]), (X9.app [some (AObj.box 27 [(.sl (List.map Node.cl y54.1.nodes)), (.sl (List.map Input.cl y54.1.inputs)), (.sl (List.map Flow.cl y54.1.flows)), (.sl (List.map Output.cl y54.1.outputs))])]), (xv q25), (xv q25), (xv q25), (xv q25), (Ne.symm (Nat.ne_of_lt X9.lt)), (hP.app _)⟩
  obtain ⟨i13, X13, X9, E7, E9, E13, E15, N13__9, hP⟩ := hI
  refine w_assoc ?_
  refine w_sa (fun e s => Bx σ s i13 27 [(.sl (List.map Node.cl y54.1.nodes)), (.sl (List.map Input.cl y54.1.inputs)), (.sl (List.map Flow.cl y54.1.flows)), (.sl (List.map Output.cl y54.1.outputs))] ∧ Bx σ s i9 39 [(.v (.int .i64 v9_9.kind)), (.v (.string v9_9.name)), (.v (.int .i64 v9_9.n)), (.v (.int .i64 v9_9.d)), (.sl (Expr.rows v9_9.args)), (.v (.int .i64 v9_9.at_))] ∧ e 7 = (.v (.int .i64 (IntKind.i64.wrap (Int.tmod a0 (60 : Int))))) ∧ e 9 = (.pt i9 0) ∧ e 13 = (.pt i13 0) ∧ e 15 = (.v (.int .i64 y54.2.2)) ∧ e 74 = (.v (.bool (decide ((20 : Int) < (IntKind.i64.wrap ((IntKind.i64.wrap (Int.tmod a0 (60 : Int))) + (1 : Int))))))) ∧ i13 ≠ i9 ∧ Pre σ s) ?_ fun e s hI => ?_
  ·refine w_x (cj7 E7 E9 E13 E15 X13.get X9.get TT) (k := ?_)
   have q26 := cj7 E7 E9 E13 E15 X13.get X9.get TT
   exact cw_n ⟨_, WkE.refl _, X13, X9, (xv q26), (xv q26), (xv q26), (xv q26), (xv q26), N13__9, hP⟩
  obtain ⟨X13, X9, E7, E9, E13, E15, E74, N13__9, hP⟩ := hI
  refine w_seq ?_
  rcases ite_some h with ⟨hb56, h⟩ | ⟨hb56, h⟩
  ·refine xt (cj6 E7 E9 E13 E15 E74 hb56) ?_
   refine w_sa (fun e s => e 6 = (.v (.bool (decide (y54.2.2 = (2 : Int))))) ∧ Pre σ s) ?_ fun e s hI => ?_
   ·refine w_x (cj8 E7 E9 E13 E15 E74 X13.get X9.get TT) (k := ?_)
    exact cw_n ⟨_, WkE.refl _, (xv (cj8 E7 E9 E13 E15 E74 X13.get X9.get TT)), hP⟩
   obtain ⟨E6, hP⟩ := hI
   refine w_ret ?_
   refine w_sqr ?_
   obtain rfl := some_inj h
   exact w_fin (fun _ => rfl) (xr (rs := #[.tmp 6]) E6) hP (r' := (.v (.bool (decide (y54.2.2 = (2 : Int)))))) (.refl _) (.v _) hK
  ·refine xf (cj6 E7 E9 E13 E15 E74 hb56) ?_
   refine w_skip ?_
   refine w_sq ?_
   obtain ⟨w61, h62, h⟩ := bnd_some h
   obtain ⟨w69, h70, h⟩ := bnd_some h
   refine w_sa (fun e s => e 6 = (.v (.bool (((decide (y54.2.2 = (0 : Int))) && w61) && w69))) ∧ Pre σ s) ?_ fun e s hI => ?_
   ·cases hb71 : (decide (y54.2.2 = (0 : Int)))
    ·replace h62 := ite_f (by simp only [hb71, Bool.or_true, Bool.true_or, Bool.or_false, Bool.false_or, Bool.and_true, Bool.true_and, Bool.and_false, Bool.false_and, Bool.not_true, Bool.not_false, cond_true, cond_false]) h62
     obtain rfl := some_inj h62
     replace h70 := ite_f (by simp only [hb71, Bool.or_true, Bool.true_or, Bool.or_false, Bool.false_or, Bool.and_true, Bool.true_and, Bool.and_false, Bool.false_and, Bool.not_true, Bool.not_false, cond_true, cond_false]) h70
     obtain rfl := some_inj h70
     refine w_xd 21 0 (cj9 E7 E9 E13 E15 E74 X13.get X9.get hb71 TT) (hk := ?_)
     refine w_xs (cj9 E7 E9 E13 E15 E74 X13.get X9.get hb71 TT) (k := ?_)
     exact cw_n ⟨_, WkE.refl _, (xv (cj9 E7 E9 E13 E15 E74 X13.get X9.get hb71 TT)), hP⟩
    ·replace h62 := ite_t (by simp only [hb71, Bool.or_true, Bool.true_or, Bool.or_false, Bool.false_or, Bool.and_true, Bool.true_and, Bool.and_false, Bool.false_and, Bool.not_true, Bool.not_false, cond_true, cond_false]) h62
     obtain ⟨y57, h58, h62⟩ := bnd_some h62
     obtain ⟨y59, h60, h62⟩ := bnd_some h62
     obtain rfl := some_inj h62
     have R72 : (List.map Flow.cl y54.1.flows)[((0 : Int)).toNat]? = some [(.v (.string y57.name)), (.v (.int .i64 y57.e.kind)), (.v (.string y57.e.name)), (.v (.int .i64 y57.e.n)), (.v (.int .i64 y57.e.d)), (.sl (Expr.rows y57.e.args)), (.v (.int .i64 y57.e.at_)), (.v (.int .i64 y57.at_))] := map_get (getI_some h58).2
     cases hb73 : (decide (y59 = (IntKind.i64.wrap ((IntKind.i64.wrap (Int.tmod a0 (60 : Int))) + (1 : Int)))))
     ·replace h70 := ite_f (by simp only [hb71, hb73, Bool.or_true, Bool.true_or, Bool.or_false, Bool.false_or, Bool.and_true, Bool.true_and, Bool.and_false, Bool.false_and, Bool.not_true, Bool.not_false, cond_true, cond_false]) h70
      obtain rfl := some_inj h70
      refine w_xd 21 0 (cj12 E7 E9 E13 E15 E74 X13.get X9.get hb71 R72 (getI_some h58).1 hb73 TT) (hk := ?_)
      refine EC.wka (.cons (.refl _) .nil) (S_syntax_Depth _ _ h60 _ _  ?_)
      refine w_yd (cj12 E7 E9 E13 E15 E74 X13.get X9.get hb71 R72 (getI_some h58).1 hb73 TT) (k := ?_)
      refine w_xs (cj12 E7 E9 E13 E15 E74 X13.get X9.get hb71 R72 (getI_some h58).1 hb73 TT) (k := ?_)
      exact cw_n ⟨_, WkE.refl _, (xv (cj12 E7 E9 E13 E15 E74 X13.get X9.get hb71 R72 (getI_some h58).1 hb73 TT)), hP⟩
     ·replace h70 := ite_t (by simp only [hb71, hb73, Bool.or_true, Bool.true_or, Bool.or_false, Bool.false_or, Bool.and_true, Bool.true_and, Bool.and_false, Bool.false_and, Bool.not_true, Bool.not_false, cond_true, cond_false]) h70
      obtain ⟨y63, h64, h70⟩ := bnd_some h70
      obtain ⟨y65, h66, h70⟩ := bnd_some h70
      obtain ⟨y67, h68, h70⟩ := bnd_some h70
      obtain rfl := some_inj h70
      obtain rfl : y57 = y63 := some_inj (h58.symm.trans h64)
      refine w_xd 21 0 (cj12 E7 E9 E13 E15 E74 X13.get X9.get hb71 R72 (getI_some h58).1 hb73 TT) (hk := ?_)
      refine EC.wka (.cons (.refl _) .nil) (S_syntax_Depth _ _ h60 _ _  ?_)
      refine w_yd (cj12 E7 E9 E13 E15 E74 X13.get X9.get hb71 R72 (getI_some h58).1 hb73 TT) (k := ?_)
      refine EC.wka (.cons (.refl _) .nil) (S_ref04_Text _ _ h66 _ _  ?_)
      refine w_yd (cj12 E7 E9 E13 E15 E74 X13.get X9.get hb71 R72 (getI_some h58).1 hb73 TT) (k := ?_)
      refine w_xs (cj12 E7 E9 E13 E15 E74 X13.get X9.get hb71 R72 (getI_some h58).1 hb73 TT) (k := ?_)
      refine EC.wka (.cons (.refl _) .nil) (S_ref04_Text _ _ h68 _ _  ?_)
      refine w_y (cj12 E7 E9 E13 E15 E74 X13.get X9.get hb71 R72 (getI_some h58).1 hb73 TT) (k := ?_)
      exact cw_n ⟨_, WkE.refl _, (xv (cj12 E7 E9 E13 E15 E74 X13.get X9.get hb71 R72 (getI_some h58).1 hb73 TT)), hP⟩
   obtain ⟨E6, hP⟩ := hI
   refine w_ret ?_
   obtain rfl := some_inj h
   exact w_fin (fun _ => rfl) (xr (rs := #[.tmp 6]) E6) hP (r' := (.v (.bool (((decide (y54.2.2 = (0 : Int))) && w61) && w69)))) (.refl _) (.v _) hK
end Go.Proofs.Ytohmmfimedgccaa.E
end
section
namespace Go.Proofs.Ytohmmfimedgccaa.E
set_option linter.unusedVariables false
set_option linter.unusedSimpArgs false
def par : List Oc → Bool
 | .t :: _ | .s :: _ | .h :: _ => true
 | _ => false
def pcs (q : Pk) : Bool → List Oc → List (Bool × Pk)
 | b, [] => [(b, q)]
 | b, .t :: l => (b, .tail) :: pcs q true l
 | b, .s :: l => (b, .seven) :: (true, .fby) :: pcs q true l
 | b, .h :: l => (b, .three) :: (true, .fby) :: pcs q true l
 | b, .o :: l => (if par l then (b, .lp) :: pcs q false l ++ [(false, .rp)] else pcs q b l) ++ [(true, .ov), (true, .two)]
def brk (q : Pk) : Nat → Bool → List Oc → List (Bool × Pk)
 | 0, b, l => pcs q b l
 | n + 1, b, l => (b, .lp) :: brk q n false l ++ [(false, .rp)]
def ks (l : List (Bool × Pk)) : List Key := l.map fun p => p.2.key
theorem ks_app (a b : List (Bool × Pk)) : ks (a ++ b) = ks a ++ ks b := List.map_append
variable {q : Pk} {l : List Oc} {ts : List Key}
theorem head_ks (hq : q = .x ∨ q = .g) : ∀ (l : List Oc) (b : Bool), par l = false → ∃ t0 ts, ks (pcs q b l) = t0 :: ts ∧ (t0 = q.key ∨ t0 = Pk.lp.key)
 | [], b, _ => ⟨_, _, rfl, .inl rfl⟩
 | .t :: l, b, h => by cases h
 | .s :: l, b, h => by cases h
 | .h :: l, b, h => by cases h
 | .o :: l, b, _ => by
  cases hp : par l with
  | true => exact ⟨Pk.lp.key, _, by rw [pcs, hp, if_pos rfl]; rfl, .inr rfl⟩
  | false =>
   obtain ⟨t0, ts, h1, h2⟩ := head_ks hq l b hp
   exact ⟨t0, _, by rw [pcs, hp, if_neg (by simp), ks_app, h1]; rfl, h2⟩
theorem expr_post' (hq : q = .x ∨ q = .g) {k : Nat} (hP : PE q (mP (mE k)) ts l) (hh : ∃ t0 ts', ts = t0 :: ts' ∧ (t0 = q.key ∨ t0 = Pk.lp.key)) : PE q (mE (k + 1)) ts l := by
 obtain ⟨t0, ts', rfl, h⟩ := hh
 refine expr_post hP ?_ ?_ ?_
 ·rcases h with rfl | rfl
  ·exact kne (by rcases hq with rfl | rfl <;> decide)
  ·exact kne (by decide)
 ·rcases h with rfl | rfl
  ·rcases hq with rfl | rfl <;> decide
  ·decide
 ·rcases h with rfl | rfl
  ·exact kne (by rcases hq with rfl | rfl <;> decide)
  ·exact kne (by decide)
theorem PE_all (hq : q = .x ∨ q = .g) : ∀ (l : List Oc), l.length < 80 → (∀ b k, l.length < k → PE q (mE k) (ks (pcs q b l)) l) ∧ (par l = false → ∀ b k, l.length ≤ k → ∀ m, m + l.length < 90 → PE q (mP (mE k)) (ks (pcs q b l) ++ ovs m) (po m l)) := by
 intro l
 induction l with
 | nil =>
  intro _
  have hb : ∀ b k, ([] : List Oc).length ≤ k → ∀ m, m + ([] : List Oc).length < 90 → PE q (mP (mE k)) (ks (pcs q b []) ++ ovs m) (po m []) := fun b k _ m hm => post_of (atom_name hq) m hm
  refine ⟨fun b k hk => ?_, fun _ => hb⟩
  obtain ⟨k, rfl⟩ : ∃ j, k = j + 1 := ⟨k - 1, by simp at hk; omega⟩
  have := hb b k (by simp) 0 (by simp)
  rw [ovs, List.append_nil, po] at this
  exact expr_post' hq this (head_ks hq _ _ rfl)
 | cons c l ih =>
  intro hl
  simp only [List.length_cons] at hl
  obtain ⟨ia, ib⟩ := ih (by omega)
  cases c with
  | t =>
   refine ⟨fun b k hk => ?_, fun h => by cases h⟩
   simp only [List.length_cons] at hk
   obtain ⟨k, rfl⟩ : ∃ j, k = j + 1 := ⟨k - 1, by omega⟩
   exact expr_tail (ia true k (by omega)) (by omega)
  | s =>
   refine ⟨fun b k hk => ?_, fun h => by cases h⟩
   simp only [List.length_cons] at hk
   obtain ⟨k, rfl⟩ : ∃ j, k = j + 1 := ⟨k - 1, by omega⟩
   exact expr_fby (.inl ⟨rfl, rfl⟩) (ia true k (by omega)) (by omega)
  | h =>
   refine ⟨fun b k hk => ?_, fun h => by cases h⟩
   simp only [List.length_cons] at hk
   obtain ⟨k, rfl⟩ : ∃ j, k = j + 1 := ⟨k - 1, by omega⟩
   exact expr_fby (.inr ⟨rfl, rfl⟩) (ia true k (by omega)) (by omega)
  | o =>
   have hb : ∀ b k, (Oc.o :: l).length ≤ k → ∀ m, m + (Oc.o :: l).length < 90 → PE q (mP (mE k)) (ks (pcs q b (.o :: l)) ++ ovs m) (po m (.o :: l)) := fun b k hk m hm => by
    simp only [List.length_cons] at hk hm
    cases hp : par l with
    | true =>
     have := post_of (atom_paren (ia false k (by omega))) (m + 1) (by omega)
     have e : ks (pcs q b (.o :: l)) ++ ovs m = Pk.lp.key :: ks (pcs q false l) ++ [Pk.rp.key] ++ ovs (m + 1) := by
      rw [pcs, hp, if_pos rfl]
      simp [ks, ovs]
     rw [e]
     exact this
    | false =>
     have := ib hp b k (by omega) (m + 1) (by omega)
     have e : ks (pcs q b (.o :: l)) ++ ovs m = ks (pcs q b l) ++ ovs (m + 1) := by
      rw [pcs, hp, if_neg (by simp)]
      simp [ks, ovs]
     rw [e]
     exact this
   refine ⟨fun b k hk => ?_, fun _ => hb⟩
   obtain ⟨k, rfl⟩ : ∃ j, k = j + 1 := ⟨k - 1, by simp at hk; omega⟩
   have := hb b k (by simp at hk ⊢; omega) 0 (by simp; omega)
   rw [ovs, List.append_nil, po] at this
   exact expr_post' hq this (head_ks hq _ _ rfl)
theorem PE_brk (hq : q = .x ∨ q = .g) (hl : l.length < 80) : ∀ (n : Nat) (b : Bool) (k : Nat), n + l.length < k → PE q (mE k) (ks (brk q n b l)) l
 | 0, b, k, hk => (PE_all hq l hl).1 b k (by omega)
 | n + 1, b, k, hk => by
  obtain ⟨k, rfl⟩ : ∃ j, k = j + 1 := ⟨k - 1, by omega⟩
  have := post_of (atom_paren (PE_brk hq hl n false k (by omega))) 0 (by omega)
  rw [ovs, List.append_nil, po] at this
  have e : ks (brk q (n + 1) b l) = Pk.lp.key :: ks (brk q n false l) ++ [Pk.rp.key] := by simp [brk, ks]
  rw [e]
  exact expr_post' hq this ⟨_, _, rfl, .inr rfl⟩
theorem t_flow {p0 : Program} {r : syntax_reader} (hp : p0.flows = []) (hE : PE q (mE 100) ts l) (h : At p0 r (Pk.f.key :: Pk.eq.key :: (ts ++ [Pk.semi.key]))) :
  ∃ r', m_flow r = some ((), r') ∧ ((l.length < 20 ∧ r'.e = 0 ∧ (r'.l.length : Int) ≤ r'.pos ∧ ∃ fl, r'.p = ⟨p0.nodes, p0.inputs, [fl], p0.outputs⟩ ∧ Sh q l fl.e) ∨ (20 ≤ l.length ∧ r'.e = 2)) := by
 obtain ⟨k, r1, h1, _, h2⟩ := h.name rfl (by simp [lex_Words_K0, Pk.key, bs, Pk.w])
 obtain ⟨r2, h3, h4⟩ := h2.must (s := bs [61]) rfl (by decide)
 have happ : ∀ fl : Flow, appZ 96 ([] : List Flow) [fl] = some [fl] := fun fl => rfl
 have hF : m_flow r = (mE 100 r2).bind fun y5 => (m_must y5.2 (bs [59])).bind fun y7 => (appZ 96 y7.2.p.flows [Flow.mk k.text y5.1 k.at_]).bind fun y9 => some ((), syntax_reader.mk y7.2.l y7.2.end_ y7.2.pos y7.2.at_ y7.2.e (Program.mk y7.2.p.nodes y7.2.p.inputs y9 y7.2.p.outputs)) := by
  unfold m_flow B_syntax_reader_flow
  rw [h1]
  simp only [Option.bind_some]
  rw [show (⟨#[61]⟩ : ByteArray) = bs [61] from rfl, h3]
  rfl
 rw [hF]
 rcases hE p0 r2 Pk.semi.key [] (.inr rfl) h4 with ⟨hl, e, r3, h5, h6, h7⟩ | ⟨hl, e, r3, h5, h6⟩
 ·obtain ⟨r4, h8, h9⟩ := h6.must (s := bs [59]) rfl (by decide)
  refine ⟨⟨r4.l, r4.end_, r4.pos, r4.at_, r4.e, ⟨p0.nodes, p0.inputs, [Flow.mk k.text e k.at_], p0.outputs⟩⟩, by rw [h5]; simp only [Option.bind_some]; rw [h8]; simp only [Option.bind_some]; rw [h9.p, hp, happ]; rfl, .inl ⟨hl, h9.e, h9.end, Flow.mk k.text e k.at_, rfl, h7⟩⟩
 ·refine ⟨⟨r3.l, r3.end_, r3.pos, r3.at_, r3.e, ⟨p0.nodes, p0.inputs, [Flow.mk k.text e k.at_], p0.outputs⟩⟩, by rw [h5]; simp only [Option.bind_some]; rw [h6.must]; simp only [Option.bind_some]; rw [h6.p, hp, happ]; rfl, .inr ⟨hl, h6.e⟩⟩
theorem t_Parse {ps : List (Bool × Pk)} (hok : okp ((false, .flow) :: (true, .f) :: (true, .eq) :: (ps ++ [(false, .semi)])) = true) (hE : PE q (mE 100) (ks ps) l) (hl : (text ((false, .flow) :: (true, .f) :: (true, .eq) :: (ps ++ [(false, .semi)]))).length ≤ 3900) (hn : ps.length ≤ 3900) :
  (l.length < 20 ∧ ∃ fl, m_Parse (bs (text ((false, .flow) :: (true, .f) :: (true, .eq) :: (ps ++ [(false, .semi)])))) = some (⟨[], [], [fl], []⟩, 0, 0) ∧ Sh q l fl.e) ∨ (20 ≤ l.length ∧ ∃ p a, m_Parse (bs (text ((false, .flow) :: (true, .f) :: (true, .eq) :: (ps ++ [(false, .semi)])))) = some (p, a, 2)) := by
 obtain ⟨L, h1, h2⟩ := t_Lex .flow ((true, .f) :: (true, .eq) :: (ps ++ [(false, .semi)])) hok (by omega) (by simp; omega)
 generalize htx : bs (text ((false, .flow) :: (true, .f) :: (true, .eq) :: (ps ++ [(false, .semi)]))) = s at h1
 have hLl : L.length ≤ 4000 := by have := congrArg List.length h2; simp at this; omega
 have hat : At ⟨[], [], [], []⟩ (syntax_reader.mk L (s.size : Int) 0 0 0 ⟨[], [], [], []⟩) (Pk.flow.key :: (Pk.f.key :: Pk.eq.key :: (ks ps ++ [Pk.semi.key]))) := ⟨rfl, by show (0 : Int) ≤ 0; omega, hLl, by show (L.map key).drop 0 = _; rw [List.drop_zero, h2]; simp [ks], rfl⟩
 obtain ⟨k, hk, hkk⟩ := hat.now
 have hkt : k.text = bs [102, 108, 111, 119] := congrArg (fun x => x.2.1) hkk
 have n1 := hat.no (s := bs [110, 111, 100, 101]) (kne (by decide))
 have n2 := hat.no (s := bs [105, 110, 112, 117, 116]) (kne (by decide))
 obtain ⟨r1, h3, h4⟩ := hat.yes (s := bs [102, 108, 111, 119]) rfl (by decide)
 obtain ⟨r2, h5, h6⟩ := t_flow rfl hE h4
 have hlen : 0 < L.length := by have := congrArg List.length h2; simp at this; omega
 have step : syntax_Parse_L0 m_can m_fail m_flow m_now (0, syntax_reader.mk L (s.size : Int) 0 0 0 ⟨[], [], [], []⟩) = some (.inl (1, r2)) := by
  unfold syntax_Parse_L0
  dsimp only
  rw [show (⟨#[110, 111, 100, 101]⟩ : ByteArray) = bs [110, 111, 100, 101] from rfl, show (⟨#[105, 110, 112, 117, 116]⟩ : ByteArray) = bs [105, 110, 112, 117, 116] from rfl, show (⟨#[102, 108, 111, 119]⟩ : ByteArray) = bs [102, 108, 111, 119] from rfl]
  rw [decide_eq_true (rfl : (0 : Int) = 0), decide_eq_true (show (0 : Int) < (L.length : Int) by omega)]
  simp only [Bool.and_self, if_true, hk, Option.bind_some, decide_eq_false (show ¬ (0 : Int) = 40 by omega), Bool.and_false, Bool.false_eq_true, if_false, n1, n2, h3, h5]
  rfl
 have hend : ∀ r3 : syntax_reader, r3.e ≠ 0 ∨ (r3.l.length : Int) ≤ r3.pos → syntax_Parse_L0 m_can m_fail m_flow m_now (1, r3) = some (.inr r3) := fun r3 h => by
  unfold syntax_Parse_L0
  dsimp only
  rw [if_neg]
  rcases h with h | h
  ·simp [h]
  ·simp; intro _; omega
 have hP : ∀ (hx : r2.e ≠ 0 ∨ (r2.l.length : Int) ≤ r2.pos), m_Parse s = (if (!decide (r2.e = 0)) then some (⟨[], [], [], []⟩, r2.at_, r2.e) else some (r2.p, 0, 0)) := fun hx => by
  unfold m_Parse B_syntax_Parse
  rw [h1]
  simp only [Option.bind_some, decide_true, Bool.not_true, Bool.false_eq_true, if_false]
  rw [iterO_next step, iterO_end (hend r2 hx)]
  rfl
 rcases h6 with ⟨hl, h7, h8, fl, h9, h10⟩ | ⟨hl, h7⟩
 ·refine .inl ⟨hl, fl, ?_, h10⟩
  rw [hP (.inr h8), h7, h9]
  rfl
 ·refine .inr ⟨hl, ⟨[], [], [], []⟩, r2.at_, ?_⟩
  rw [hP (.inl (by rw [h7]; decide)), h7]
  rfl
theorem hd_pcs : ∀ (l : List Oc) (b : Bool), ∃ k ps, pcs q b l = (b, k) :: ps
 | [], b => ⟨_, _, rfl⟩
 | .t :: l, b => ⟨_, _, rfl⟩
 | .s :: l, b => ⟨_, _, rfl⟩
 | .h :: l, b => ⟨_, _, rfl⟩
 | .o :: l, b => by
  cases hp : par l with
  | true => exact ⟨_, _, by rw [pcs, hp, if_pos rfl]; rfl⟩
  | false =>
   obtain ⟨k, ps, h⟩ := hd_pcs l b
   exact ⟨k, _, by rw [pcs, hp, if_neg (by simp), h]; rfl⟩
theorem hd_brk (n : Nat) (b : Bool) (l : List Oc) : ∃ k ps, brk q n b l = (b, k) :: ps := by
 cases n with
 | zero => exact hd_pcs l b
 | succ n => exact ⟨_, _, rfl⟩
theorem fol_true {k k' : Pk} {ps : List (Bool × Pk)} : fol k ((true, k') :: ps) = true := by cases k <;> rfl
theorem okp_true {b : Bool} {k : Pk} {ps : List (Bool × Pk)} (h : ∃ k' qs, ps = (true, k') :: qs) (ho : okp ps = true) : okp ((b, k) :: ps) = true := by
 obtain ⟨k', qs, rfl⟩ := h
 rw [okp, fol_true, ho]
 rfl
def nxt : List (Bool × Pk) → Bool
 | [] => true
 | (b, k) :: _ => b || k.sgn
theorem okp_pcs (hq : q = .x ∨ q = .g) : ∀ (l : List Oc) (b : Bool) (rest : List (Bool × Pk)), okp rest = true → nxt rest = true → okp (pcs q b l ++ rest) = true
 | [], b, rest, h1, h2 => by
  show (fol q rest && okp rest) = true
  rw [h1, Bool.and_true]
  rcases hq with rfl | rfl <;> (rcases rest with _ | ⟨⟨b, k⟩, rest⟩ <;> exact h2)
 | .t :: l, b, rest, h1, h2 => okp_true (by obtain ⟨k, ps, h⟩ := hd_pcs (q := q) l true; exact ⟨k, ps ++ rest, by rw [h]; rfl⟩) (okp_pcs hq l true rest h1 h2)
 | .s :: l, b, rest, h1, h2 => okp_true ⟨_, _, rfl⟩ (okp_true (by obtain ⟨k, ps, h⟩ := hd_pcs (q := q) l true; exact ⟨k, ps ++ rest, by rw [h]; rfl⟩) (okp_pcs hq l true rest h1 h2))
 | .h :: l, b, rest, h1, h2 => okp_true ⟨_, _, rfl⟩ (okp_true (by obtain ⟨k, ps, h⟩ := hd_pcs (q := q) l true; exact ⟨k, ps ++ rest, by rw [h]; rfl⟩) (okp_pcs hq l true rest h1 h2))
 | .o :: l, b, rest, h1, h2 => by
  have hr : okp ((true, .ov) :: (true, .two) :: rest) = true := by
   refine okp_true ⟨_, _, rfl⟩ ?_
   rw [okp, h1, Bool.and_true]
   rcases rest with _ | ⟨⟨b, k⟩, rest⟩ <;> exact h2
  cases hp : par l with
  | true =>
   rw [pcs, hp, if_pos rfl]
   have := okp_pcs hq l false ((false, .rp) :: (true, .ov) :: (true, .two) :: rest) hr rfl
   simpa [okp, fol] using this
  | false =>
   rw [pcs, hp, if_neg (by simp), List.append_assoc]
   exact okp_pcs hq l b _ hr rfl
theorem okp_brk (hq : q = .x ∨ q = .g) (l : List Oc) : ∀ (n : Nat) (b : Bool) (rest : List (Bool × Pk)), okp rest = true → nxt rest = true → okp (brk q n b l ++ rest) = true
 | 0, b, rest, h1, h2 => okp_pcs hq l b rest h1 h2
 | n + 1, b, rest, h1, h2 => by
  have := okp_brk hq l n false ((false, .rp) :: rest) h1 rfl
  simpa [brk, okp, fol] using this
theorem text_sp : ∀ (l : List Oc), text (pcs q true l) = 32 :: text (pcs q false l)
 | [] => rfl
 | .t :: l => rfl
 | .s :: l => rfl
 | .h :: l => rfl
 | .o :: l => by
  cases hp : par l with
  | true => rw [pcs, pcs, hp, if_pos rfl, if_pos rfl]; rfl
  | false => rw [pcs, pcs, hp, if_neg (by simp), if_neg (by simp), text_app, text_app, text_sp l]; rfl
theorem text_len (hq : q = .x ∨ q = .g) : ∀ (l : List Oc) (b : Bool), (text (pcs q b l)).length ≤ 8 * l.length + 2 ∧ (pcs q b l).length ≤ 4 * l.length + 1
 | [], b => by rcases hq with rfl | rfl <;> cases b <;> decide
 | .t :: l, b => by
  obtain ⟨h1, h2⟩ := text_len hq l true
  constructor
  ·cases b <;> simp [pcs, text, Pk.w] <;> omega
  ·simp [pcs]; omega
 | .s :: l, b => by
  obtain ⟨h1, h2⟩ := text_len hq l true
  constructor
  ·cases b <;> simp [pcs, text, Pk.w] <;> omega
  ·simp [pcs]; omega
 | .h :: l, b => by
  obtain ⟨h1, h2⟩ := text_len hq l true
  constructor
  ·cases b <;> simp [pcs, text, Pk.w] <;> omega
  ·simp [pcs]; omega
 | .o :: l, b => by
  obtain ⟨h1, h2⟩ := text_len hq l false
  obtain ⟨h3, h4⟩ := text_len hq l b
  cases hp : par l with
  | true =>
   rw [pcs, hp, if_pos rfl]
   constructor
   ·rw [text_app]; cases b <;> simp [text_app, text, Pk.w] <;> omega
   ·simp; omega
  | false =>
   rw [pcs, hp, if_neg (by simp)]
   constructor
   ·rw [text_app]; simp [text, Pk.w]; omega
   ·simp; omega
theorem text_brk (n : Nat) (l : List Oc) : text (brk q (n + 1) false l) = 40 :: text (brk q n false l) ++ [41] := by
 show text ((false, Pk.lp) :: brk q n false l ++ [(false, Pk.rp)]) = _
 rw [text_app]
 rfl
theorem text_bsp (n : Nat) (l : List Oc) : text (brk q n true l) = 32 :: text (brk q n false l) := by
 cases n with
 | zero => exact text_sp l
 | succ n => rfl
theorem brk_len (hq : q = .x ∨ q = .g) (l : List Oc) : ∀ (n : Nat) (b : Bool), (text (brk q n b l)).length ≤ 8 * l.length + 2 + 3 * n ∧ (brk q n b l).length ≤ 4 * l.length + 1 + 2 * n
 | 0, b => text_len hq l b
 | n + 1, b => by
  obtain ⟨h1, h2⟩ := brk_len hq l n false
  constructor
  ·show (text ((b, Pk.lp) :: brk q n false l ++ [(false, Pk.rp)])).length ≤ _
   rw [text_app]
   cases b <;> simp [text, Pk.w] <;> omega
  ·simp [brk]; omega
noncomputable def m_digits := B_ref04_Digits fun _ => none
noncomputable def Tt : Nat → Expr → Option ByteArray
 | 0 => fun _ => none
 | k + 1 => B_ref04_Text (Tt k) m_digits
noncomputable def m_text := Tt 100
noncomputable def m_awake := B_law04_awake m_Parse
noncomputable def m_law := B_law04_SyntaxDepth m_awake m_Parse m_text m_depth
theorem s_digits : Sat_ref04_Digits m_digits := W_ref04_Digits _ fun _ _ h => by cases h
theorem s_Tt : ∀ k, Sat_ref04_Text (Tt k)
 | 0 => fun _ _ h => by cases h
 | k + 1 => W_ref04_Text _ _ (s_Tt k) s_digits
theorem s_awake : Sat_law04_awake m_awake := W_law04_awake _ s_Parse
theorem s_law : Sat_law04_SyntaxDepth m_law := W_law04_SyntaxDepth _ _ _ _ s_awake s_Parse (s_Tt _) (s_Dp _)
theorem dig7 : m_digits 7 = some (bs [55]) := rfl
theorem dig3 : m_digits 3 = some (bs [51]) := rfl
theorem dig2 : m_digits 2 = some (bs [50]) := rfl
variable {q : Pk}
theorem Sh.kind {l : List Oc} {e : Expr} (h : Sh q l e) : (6 ≤ e.kind ∧ e.kind ≤ 8) ↔ par l = true := by
 rcases l with _ | ⟨c, l⟩
 ·rw [h.1]; simp [par]
 ·rw [h.1]; cases c <;> simp [par, Oc.kd]
theorem t_text (hq : q = .x ∨ q = .g) : ∀ (l : List Oc) (e : Expr) (k : Nat), Sh q l e → l.length < k → l.length ≤ 80 → Tt k e = some (bs (text (pcs q false l)))
 | _, _, 0, _, h, _ => by omega
 | [], e, k + 1, h, _, _ => by
  rw [Tt]
  unfold B_ref04_Text
  rw [decide_eq_true h.1, if_pos rfl, h.2.1]
  simp [pcs, text]
 | c :: l, e, k + 1, h, hk, hl => by
  obtain ⟨hkd, hn, e', ha, hs⟩ := h
  simp only [List.length_cons] at hk hl
  have ih := t_text hq l e' k hs (by omega) (by omega)
  obtain ⟨hlen, _⟩ := text_len hq l false
  have hg : getI e.args 0 = some e' := by rw [ha]; rfl
  have h1 : ¬ e.kind = 1 := by rw [hkd]; cases c <;> decide
  have h2 : ¬ e.kind = 2 := by rw [hkd]; cases c <;> decide
  rw [Tt]
  unfold B_ref04_Text
  rw [decide_eq_false h1, decide_eq_false h2]
  simp only [Bool.false_eq_true, if_false, hg, Option.bind_some, ih]
  rw [show (⟨#[32, 102, 98, 121, 32]⟩ : ByteArray) = bs [32, 102, 98, 121, 32] from rfl, show (⟨#[116, 97, 105, 108, 32]⟩ : ByteArray) = bs [116, 97, 105, 108, 32] from rfl, show (⟨#[40]⟩ : ByteArray) = bs [40] from rfl, show (⟨#[41]⟩ : ByteArray) = bs [41] from rfl, show (⟨#[32, 42, 94, 32]⟩ : ByteArray) = bs [32, 42, 94, 32] from rfl]
  cases c with
  | t =>
   have : e.kind = 7 := hkd
   rw [this]
   simp only [show ¬ (7 : Int) = 6 by decide, show ¬ (7 : Int) = 8 by decide, decide_false, decide_true, Bool.false_eq_true, if_false, if_true]
   rw [bs_cat _ _ (by simp; omega)]
   simp only [Option.bind_some]
   rw [pcs, text, text_sp]
   simp [Pk.w]
  | s =>
   have : e.kind = 6 := hkd
   rw [this]
   simp only [decide_true, if_true]
   rw [show e.n = 7 from hn, dig7]
   simp only [Option.bind_some]
   rw [bs_cat _ _ (by simp)]
   simp only [Option.bind_some]
   rw [bs_cat _ _ (by simp; omega)]
   simp only [Option.bind_some]
   rw [pcs, text, text, text_sp]
   simp [Pk.w]
  | h =>
   have : e.kind = 6 := hkd
   rw [this]
   simp only [decide_true, if_true]
   rw [show e.n = 3 from hn, dig3]
   simp only [Option.bind_some]
   rw [bs_cat _ _ (by simp)]
   simp only [Option.bind_some]
   rw [bs_cat _ _ (by simp; omega)]
   simp only [Option.bind_some]
   rw [pcs, text, text, text_sp]
   simp [Pk.w]
  | o =>
   have : e.kind = 3 := hkd
   rw [this]
   simp only [show ¬ (3 : Int) = 6 by decide, show ¬ (3 : Int) = 8 by decide, show ¬ (3 : Int) = 7 by decide, show ¬ (3 : Int) = 5 by decide, decide_false, Bool.false_eq_true, if_false, Option.bind_some]
   rw [show getI [(⟨#[]⟩ : ByteArray), (⟨#[]⟩ : ByteArray), (⟨#[]⟩ : ByteArray), bs [32, 42, 94, 32], (⟨#[32, 47, 94, 32]⟩ : ByteArray)] 3 = some (bs [32, 42, 94, 32]) from rfl, show e.n = 2 from hn, dig2]
   have hp := hs.kind
   cases hpp : par l with
   | true =>
    obtain ⟨k1, k2⟩ := hp.2 hpp
    rw [decide_eq_true k1, decide_eq_true k2]
    simp only [Bool.and_self, if_true]
    rw [bs_cat _ _ (by simp; omega)]
    simp only [Option.bind_some]
    rw [bs_cat _ _ (by simp; omega)]
    simp only [Option.bind_some]
    rw [bs_cat _ _ (by simp; omega)]
    simp only [Option.bind_some]
    rw [bs_cat _ _ (by simp; omega)]
    simp only [Option.bind_some]
    rw [pcs, hpp, if_pos rfl, text_app]
    simp [text, Pk.w, text_app]
   | false =>
    have : (decide (6 ≤ e'.kind) && decide (e'.kind ≤ 8)) = false := by
     cases hb : (decide (6 ≤ e'.kind) && decide (e'.kind ≤ 8)) with
     | false => rfl
     | true =>
      simp only [Bool.and_eq_true, decide_eq_true_eq] at hb
      rw [hp.1 hb] at hpp
      cases hpp
    rw [this]
    simp only [Bool.false_eq_true, if_false, Option.bind_some]
    rw [bs_cat _ _ (by simp; omega)]
    simp only [Option.bind_some]
    rw [bs_cat _ _ (by simp; omega)]
    simp only [Option.bind_some]
    rw [pcs, hpp, if_neg (by simp), text_app]
    simp [text, Pk.w]
theorem okp_all (hq : q = .x ∨ q = .g) (n : Nat) (l : List Oc) : okp ((false, .flow) :: (true, .f) :: (true, .eq) :: (brk q n true l ++ [(false, .semi)])) = true := by
 obtain ⟨k, ps, h⟩ := hd_brk (q := q) n true l
 exact okp_true ⟨_, _, rfl⟩ (okp_true ⟨_, _, rfl⟩ (okp_true ⟨k, ps ++ [(false, .semi)], by rw [h]; rfl⟩ (okp_brk hq l n true _ rfl rfl)))
theorem t_awake : m_awake = some true := by
 have hE := PE_brk (q := .g) (l := [.h]) (.inr rfl) (by decide) 0 true 100 (by decide)
 unfold m_awake B_law04_awake
 rw [show (⟨#[102, 108, 111, 119, 32, 102, 32, 61, 32, 51, 32, 102, 98, 121, 32, 103, 59]⟩ : ByteArray) = bs (text ((false, .flow) :: (true, .f) :: (true, .eq) :: (brk .g 0 true [.h] ++ [(false, .semi)]))) from rfl]
 rcases t_Parse (okp_all (.inr rfl) 0 [.h]) hE (by decide) (by decide) with ⟨_, fl, h1, h2⟩ | ⟨h, _⟩
 ·rw [h1]
  have h3 : fl.e.n = 3 := h2.2.1
  have : getI [fl] 0 = some fl := rfl
  simp [this, h3]
 ·simp at h
theorem v_law (a0 : Int) (h0 : U8 a0) (a1 : List Int) (h1 : a1.length * 1 ≤ 140737488351232 ∧ ∀ x ∈ a1, U8 x) (a2 : Int) (h2 : U8 a2) : m_law a0 a1 a2 = some true := by
 unfold m_law B_law04_SyntaxDepth
 rw [t_awake]
 simp only [Option.bind_some, Bool.not_true, Bool.false_or]
 by_cases hlen : (60 : Int) < (a1.length : Int)
 ·rw [decide_eq_true hlen]
  rfl
 rw [decide_eq_false hlen]
 simp only [Bool.false_eq_true, if_false]
 unfold U8 at h0 h2
 obtain ⟨k, hk, hk60⟩ : ∃ k : Nat, IntKind.i64.wrap (Int.tmod a0 60) = (k : Int) ∧ k < 60 := by
  have e : Int.tmod a0 60 = a0 % 60 := Int.tmod_eq_emod_of_nonneg h0.1
  rw [e, wrap_i (by omega) (by omega)]
  exact ⟨(a0 % 60).toNat, by omega, by omega⟩
 obtain ⟨n, hn, hn30⟩ : ∃ n : Nat, IntKind.i64.wrap (Int.tmod a2 30) = (n : Int) ∧ n < 30 := by
  have e : Int.tmod a2 30 = a2 % 30 := Int.tmod_eq_emod_of_nonneg h2.1
  rw [e, wrap_i (by omega) (by omega)]
  exact ⟨(a2 % 30).toNat, by omega, by omega⟩
 obtain ⟨e, he, l, hl, hs⟩ := iter_idx (f := law04_SyntaxDepth_L0 a0 a1) (fun i v => v.1 = (i : Int) ∧ ∃ l, l.length = i ∧ Sh .x l v.2) k (fun e => ∃ l, l.length = k ∧ Sh .x l e) (fun i v hi hv => by
  obtain ⟨i', e⟩ := v
  obtain ⟨rfl, l, hl, hs⟩ := hv
  left
  have hop : ∃ c : Nat, (if decide ((i : Int) < (a1.length : Int)) = true then (getI a1 (i : Int)).bind fun y22 => some (IntKind.i64.wrap (Int.tmod y22 3)) else some 0) = some (c : Int) ∧ c < 3 := by
   by_cases hi' : i < a1.length
   ·rw [dlt hi', if_pos rfl, getI_at hi']
    have hu := h1.2 _ (List.getElem_mem hi')
    unfold U8 at hu
    have e : Int.tmod a1[i] 3 = a1[i] % 3 := Int.tmod_eq_emod_of_nonneg hu.1
    refine ⟨(a1[i] % 3).toNat, ?_, by omega⟩
    simp only [Option.bind_some]
    rw [e, wrap_i (by omega) (by omega)]
    congr 1
    omega
   ·rw [decide_eq_false (by omega), if_neg (by simp)]
    exact ⟨0, rfl, by omega⟩
  obtain ⟨c, hc, hc3⟩ := hop
  have hw : IntKind.i64.wrap ((i : Int) + 1) = ((i + 1 : Nat) : Int) := winc hi (ml (by omega))
  have step : ∀ oc : Oc, getI [(7 : Int), 3, 6] (c : Int) = some oc.kd → getI [(0 : Int), 2, 7] (c : Int) = some oc.nn → law04_SyntaxDepth_L0 a0 a1 ((i : Int), e) = some (.inl (((i + 1 : Nat) : Int), Expr.mk oc.kd (bs []) oc.nn 0 [e] 0)) := fun oc g1 g2 => by
   unfold law04_SyntaxDepth_L0
   dsimp only
   rw [hk, dlt hi, if_pos rfl, hc]
   simp only [Option.bind_some, g1, g2, hw]
   rfl
  match c, hc3, step with
  | 0, _, step => exact ⟨_, step .t rfl rfl, rfl, .t :: l, by simp [hl], rfl, rfl, e, rfl, hs⟩
  | 1, _, step => exact ⟨_, step .o rfl rfl, rfl, .o :: l, by simp [hl], rfl, rfl, e, rfl, hs⟩
  | 2, _, step => exact ⟨_, step .s rfl rfl, rfl, .s :: l, by simp [hl], rfl, rfl, e, rfl, hs⟩) (fun v hv => by
  obtain ⟨i', e⟩ := v
  obtain ⟨rfl, l, hl, hs⟩ := hv
  refine ⟨e, ?_, l, hl, hs⟩
  unfold law04_SyntaxDepth_L0
  dsimp only
  rw [hk, dge]
  rfl) (v0 := ((0 : Int), Expr.mk 1 (bs [120]) 0 0 [] 0)) ⟨rfl, [], rfl, rfl, rfl, rfl⟩
 have ht : ∀ e', Sh .x l e' → m_text e' = some (bs (text (pcs .x false l))) := fun e' h => t_text (.inl rfl) l e' 100 h (by omega) (by omega)
 obtain ⟨s, hs1, hs2⟩ := iter_idx (f := law04_SyntaxDepth_L1 a2) (fun i v => v = (bs (text (brk .x i false l)), (i : Int))) n (fun s => s = bs (text (brk .x n false l))) (fun i v hi hv => by
  subst hv
  left
  refine ⟨_, ?_, rfl⟩
  obtain ⟨g1, _⟩ := brk_len (q := .x) (.inl rfl) l i false
  unfold law04_SyntaxDepth_L1
  dsimp only
  rw [hn, dlt hi, if_pos rfl, show (⟨#[40]⟩ : ByteArray) = bs [40] from rfl, show (⟨#[41]⟩ : ByteArray) = bs [41] from rfl, bs_cat _ _ (by simp; omega)]
  simp only [Option.bind_some]
  rw [bs_cat _ _ (by simp; omega), text_brk]
  simp only [Option.bind_some, winc hi (ml (by omega))]
  rfl) (fun v hv => by
  subst hv
  refine ⟨_, ?_, rfl⟩
  unfold law04_SyntaxDepth_L1
  dsimp only
  rw [hn, dge]
  rfl) (v0 := (bs (text (pcs .x false l)), (0 : Int))) rfl
 subst hs2
 have he' : iterO (law04_SyntaxDepth_L0 a0 a1) ((0 : Int), Expr.mk 1 (⟨#[120]⟩ : ByteArray) 0 0 [] 0) = some e := he
 obtain ⟨g1, g2⟩ := brk_len (q := .x) (.inl rfl) l n true
 obtain ⟨g3, g4⟩ := brk_len (q := .x) (.inl rfl) l n false
 have htx : [102, 108, 111, 119, 32, 102, 32, 61, 32] ++ text (brk .x n false l) ++ [59] = text ((false, .flow) :: (true, .f) :: (true, .eq) :: (brk .x n true l ++ [(false, .semi)])) := by
  rw [text, text, text, text_app, text_bsp]
  simp [Pk.w, text]
 rw [he']
 simp only [Option.bind_some, ht e hs, hs1]
 rw [show (⟨#[102, 108, 111, 119, 32, 102, 32, 61, 32]⟩ : ByteArray) = bs [102, 108, 111, 119, 32, 102, 32, 61, 32] from rfl, show (⟨#[59]⟩ : ByteArray) = bs [59] from rfl, bs_cat _ _ (by simp; omega)]
 simp only [Option.bind_some]
 rw [bs_cat _ _ (by simp; omega), htx, hk]
 simp only [Option.bind_some]
 rw [wrap_i (n := (k : Int) + 1) (by omega) (by omega)]
 have hE := PE_brk (q := .x) (l := l) (.inl rfl) (by omega) n true 100 (by omega)
 rcases t_Parse (okp_all (.inl rfl) n l) hE (by rw [← htx]; simp; omega) (by omega) with ⟨hl20, fl, h3, h4⟩ | ⟨hl20, p, a, h3⟩
 ·rw [h3, decide_eq_false (by omega)]
  have hg : getI [fl] 0 = some fl := rfl
  have hd : m_depth fl.e = some ((k : Int) + 1) := by rw [t_depth h4 (by omega), hl]
  simp [hg, hd, ht _ h4]
 ·rw [h3, decide_eq_true (by omega)]
  rfl
end Go.Proofs.Ytohmmfimedgccaa.E
end
section
namespace Go.Proofs.Ytohmmfimedgccaa.E
set_option linter.unusedVariables false
set_option linter.unusedSimpArgs false
set_option maxRecDepth 100000
section
variable {P : Go.Program} {t e : TypeId}
theorem RO.congr {α : Type} {f g : α → List PV} {G : α → Prop} {n : Nat} (h : RO P t f G n) (hf : ∀ x, g x = f x) : RO P t g G n := fun H enc w base spare held m hm cs r hr hw => let ⟨x, h1, h2⟩ := h H enc w base spare held m hm cs r hr hw; ⟨x, by rw [hf]; exact h1, h2⟩
theorem ro_u8 (ht : P.underlying t = some (.int .u8)) (n : Nat) : RO P t (fun x : Int => [.v (.int .u8 x)]) (fun x => U8 x) n := (ro_int ht n).imp fun x h => by
 simp only [Lit.wf, Bool.and_eq_true, decide_eq_true_eq, IntKind.min, IntKind.max, IntKind.signed, IntKind.bits, if_true, Bool.false_eq_true, if_false] at h
 unfold U8
 omega
theorem ro_sl {α : Type} {f : α → List PV} {G : α → Prop} {n sz B : Nat} (ht : P.underlying t = some (.slice e)) (hsz : P.cellsOf e = sz) (hb : P.bytesOf e = B) (hf : ∀ x, (f x).length = sz) (h : RO P e f G n) : RO P t (fun xs : List α => [.sl (xs.map f)]) (fun xs => xs.length * B ≤ 140737488351232 ∧ ∀ x ∈ xs, G x) (n + 1) := by
 subst hb
 exact ro_slice ht hsz hf h
end
end Go.Proofs.Ytohmmfimedgccaa.E
end
section
namespace Go.Proofs.Ytohmmfimedgccaa.syntaxDepth
open Go.ChangeShapes Go.WideShapes Go.ChangeAt Go.RowKit
theorem own : ownKnob Try.prog.godebug = none := by kernel_rfl
theorem laidOut : laidOutB Try.prog = true := by kernel_rfl
set_option maxRecDepth 100000 in
theorem lifted (os : Os) (started : os.Started) (H : Type) (enc : TypeId × Value → H) :
  ReturnsInHanded {} Try.checked os 8 .any (Rows.syntaxDepthSpec.pre6 enc Try.prog Try.f8 Rows.syntaxDepthRow.domain false) (Rows.syntaxDepthSpec.post enc Try.prog Try.f8 false true false false) := by
 refine returnsInHanded_of_change_sized (C := Try.checked) own started (by kernel_rfl) Try.func8
  (ChangeSpec.witness6 (enc := enc) (C := Try.checked) false ⟨#[], #[.int .u8 0, .slice none 0 0, .int .u8 0], []⟩ 8 (by kernel_rfl) (by kernel_rfl) (by kernel_rfl) (by kernel_rfl)) ?_
 intro W base args ds gs before hval0 hW hcnd hsz0 _
 have hval : ∀ (j : Nat) t v, Try.f8.params[j]? = some t → args[j]? = some v → Value.okWide Try.prog W .any base t v := hval0
 have hW' := hW
 obtain ⟨p, q, hA0, hV, rfl, hfz, hnd⟩ := hW
 have hA : DataW.TrodAll enc Try.prog W 0 (fun _ => true) true Try.f8.params.toList args.toList ds p := hA0
 rw [Try.params8] at hA hval
 obtain ⟨v0, vs0, d0, ds0, p0, q0, hargs, rfl, rfl, h0, r0⟩ := trodAll_cons hA
 obtain ⟨v1, vs1, d1, ds1, p1, q1, rfl, rfl, rfl, h1, r1⟩ := trodAll_cons r0
 obtain ⟨v2, vs2, d2, ds2, p2, q2, rfl, rfl, rfl, h2, r2⟩ := trodAll_cons r1
 obtain ⟨rfl, rfl, rfl⟩ := trodAll_nil r2
 obtain rfl : args = #[v0, v1, v2] := by cases args; simp_all
 obtain ⟨rfl, rfl⟩ := trodVars_none hV
 have k0 := h0
 have lt0 : ∀ x ∈ p0, x.block < W.heap.size := by obtain ⟨m, hm⟩ := k0; exact DataW.trod_lt m _ _ _ hm
 obtain ⟨x0, y0, z0⟩ := E.arg_one (f := fun x : Int => E.PV.v (.int .u8 x)) (by obtain ⟨n, rfl⟩ := okWide_int Try.underlying5 (hval 0 5 v0 rfl rfl); rfl) (fun n => E.ro_u8 Try.underlying5 n) h0 (fun x hx => of_decide_eq_true (List.all_eq_true.1 hsz0 x (DataW.weights_mem_each (j := 0) rfl rfl x hx)))
 have k1 := h1
 have lt1 : ∀ x ∈ p1, x.block < W.heap.size := by obtain ⟨m, hm⟩ := k1; exact DataW.trod_lt m _ _ _ hm
 obtain ⟨x1, y1, z1⟩ := E.arg_one (f := fun l : List Int => E.PV.sl (l.map E.C_u8)) (by obtain ⟨a, n, c, rfl⟩ := okWide_slice Try.underlying89 (hval 1 89 v1 rfl rfl); rfl) (fun n => E.RO.down (E.ro_sl (sz := 1) (B := 1) Try.underlying89 (by kernel_rfl) (by kernel_rfl) (fun _ => rfl) (E.ro_u8 Try.underlying5 n)) (Nat.le_succ n)) h1 (fun x hx => of_decide_eq_true (List.all_eq_true.1 hsz0 x (DataW.weights_mem_each (j := 1) rfl rfl x hx)))
 have k2 := h2
 have lt2 : ∀ x ∈ p2, x.block < W.heap.size := by obtain ⟨m, hm⟩ := k2; exact DataW.trod_lt m _ _ _ hm
 obtain ⟨x2, y2, z2⟩ := E.arg_one (f := fun x : Int => E.PV.v (.int .u8 x)) (by obtain ⟨n, rfl⟩ := okWide_int Try.underlying5 (hval 2 5 v2 rfl rfl); rfl) (fun n => E.ro_u8 Try.underlying5 n) h2 (fun x hx => of_decide_eq_true (List.all_eq_true.1 hsz0 x (DataW.weights_mem_each (j := 2) rfl rfl x hx)))
 clear hA0 hval0 hsz0
 refine (E.law_calls Try.func8 rfl rfl (fun K hK => E.s_law x0 x1 x2 true (E.v_law x0 z0 x1 z1 x2 z2) [] K hK) ⟨rfl, fun i x p hx hp => by match i, hx, hp with | 0, hx, hp => obtain rfl := Option.some.inj hx; obtain rfl := Option.some.inj hp; exact y0 | 1, hx, hp => obtain rfl := Option.some.inj hx; obtain rfl := Option.some.inj hp; exact y1 | 2, hx, hp => obtain rfl := Option.some.inj hx; obtain rfl := Option.some.inj hp; exact y2 | i + 3, hx, _ => simp at hx⟩).mono fun e W' ⟨he, bel⟩ => ?_
 subst he
 exact ⟨_, rfl, _, _, _, [], _, [], hW', trodAll_mk1 (shut_bool Try.underlying4 _), (trodAll_cons_mk (Below.trod laidOut (by kernel_rfl) (of_decide_eq_true (by kernel_rfl)) k0 bel lt0) (trodAll_cons_mk (Below.trod laidOut (by kernel_rfl) (of_decide_eq_true (by kernel_rfl)) k1 bel lt1) (trodAll_cons_mk (Below.trod laidOut (by kernel_rfl) (of_decide_eq_true (by kernel_rfl)) k2 bel lt2) trodAll_mk0))), rfl, bel.frame _, fun h => by cases h⟩
theorem over : Rows.syntaxDepthRow.holds Try.pinned (OpenSpec.ofChange Rows.syntaxDepthSpec) :=
 OpenClaim.holds_of_wide 8 Try.f8 rfl rfl rfl rfl rfl rfl rfl ⟨rfl, rfl, rfl, rfl, rfl⟩ rfl rfl rfl rfl rfl (by kernel_rfl) Try.func8 (by kernel_rfl)
  (of_decide_eq_true (by kernel_rfl)) (by unfold Func.isWrapper; first | (rw [if_pos (by decide +kernel)]; kernel_rfl) | (rw [if_neg (by decide +kernel)]; exact ⟨rfl, rfl⟩))
  (fun os started H enc _ => lifted os started H enc)
theorem proved : Rows.SyntaxDepthSaid := over
end Go.Proofs.Ytohmmfimedgccaa.syntaxDepth
namespace Go.Proofs.Ytohmmfimedgccaa
theorem syntaxDepth_holds : Rows.SyntaxDepthSaid := syntaxDepth.proved
end Go.Proofs.Ytohmmfimedgccaa
end
