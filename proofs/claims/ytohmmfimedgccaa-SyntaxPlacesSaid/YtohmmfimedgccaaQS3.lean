import Derived.Test.YtohmmfimedgccaaQS2
/- SyntaxPlaces: a program's text, one token of it cut, doubled or put in another's place, is refused no sooner than there. PART 4 OF 7: G86 G87 G88 G122 G38 G39 G40 G41 G42 G43 G10 PA G79 G80 G127 G114 G81 G133 G128 G115 G119 G116 G37 G130 LD G138 G6117 G137 -/
section
namespace Go.Proofs.Ytohmmfimedgccaa.E
set_option maxRecDepth 100000
set_option maxHeartbeats 4000000
set_option linter.unusedVariables false
set_option linter.unusedSimpArgs false
noncomputable def B_ref03_small (a0:Int):Option Bool:=
 some ((decide ((97:Int)≤a0))&&(decide (a0≤(122:Int))))
theorem W_ref03_small:Sat_ref03_small (B_ref03_small):=by
 intro a0 r h σ K hK;refine zB Try.func86 rfl rfl (by kernel_rfl) ?_;unfold B_ref03_small at h;have hP:=Pre.refl σ;have E0:qu [(.v (.int .u8 a0))] 0=(.v (.int .u8 a0)):=rfl;have TT:=cj2 Expr.rlen T_5;refine qe (w_x Expr.rlen ?_);refine qg (qh (fun e s=>eB e 2 ((decide ((97:Int)≤a0))&&(decide (a0≤(122:Int))))∧Pre σ s) ?_ ?_)
 ·cases hb1:(decide ((97:Int)≤a0))
  ·refine w_x (cj3 E0 hb1 TT) ?_;exact qf ⟨(xv (cj3 E0 hb1 TT)),hP⟩
  ·refine w_x (cj3 E0 hb1 TT) ?_;exact qf ⟨(xv (cj3 E0 hb1 TT)),hP⟩
 rintro e s ⟨E2,hP⟩
 refine qo ?_;obtain rfl:=qc h;exact qq (fun _=>rfl) (xr (rs:= #[.tmp 2]) (cj2 E2 TT)) hP (.refl _) (.v _) hK
noncomputable def B_ref03_digit (a0:Int):Option Bool:=
 some ((decide ((48:Int)≤a0))&&(decide (a0≤(57:Int))))
theorem W_ref03_digit:Sat_ref03_digit (B_ref03_digit):=by
 intro a0 r h σ K hK;refine zB Try.func87 rfl rfl (by kernel_rfl) ?_;unfold B_ref03_digit at h;have hP:=Pre.refl σ;have E0:qu [(.v (.int .u8 a0))] 0=(.v (.int .u8 a0)):=rfl;have TT:=cj2 Expr.rlen T_5;refine qe (w_x Expr.rlen ?_);refine qg (qh (fun e s=>eB e 2 ((decide ((48:Int)≤a0))&&(decide (a0≤(57:Int))))∧Pre σ s) ?_ ?_)
 ·cases hb1:(decide ((48:Int)≤a0))
  ·refine w_x (cj3 E0 hb1 TT) ?_;exact qf ⟨(xv (cj3 E0 hb1 TT)),hP⟩
  ·refine w_x (cj3 E0 hb1 TT) ?_;exact qf ⟨(xv (cj3 E0 hb1 TT)),hP⟩
 rintro e s ⟨E2,hP⟩
 refine qo ?_;obtain rfl:=qc h;exact qq (fun _=>rfl) (xr (rs:= #[.tmp 2]) (cj2 E2 TT)) hP (.refl _) (.v _) hK
noncomputable def zY (y1:(List ByteArray))(a0:ByteArray):Int→Option (Int⊕(Bool⊕Unit))
 | v5 =>
  if(decide (v5<((List.length y1:Nat):Int)))then
   ((qS y1 v5).bind fun y11=>
   if(decide (y11=a0))then
    some (.inl true)
   else
    some (.inr ()):Option (Bool⊕Unit)).bind fun x=>match x with
   | .inl r=>some (.inr (.inl r))
   | .inr _ =>
    some (.inl (IntKind.i64.wrap (v5+(1:Int))))
  else
   some (.inr (.inr ()))
noncomputable def B_ref03_Word (f0:Option (List ByteArray))(a0:ByteArray):Option Bool:=
 (f0).bind fun y1=>
 (qA (zY y1 a0) (0:Int):Option (Bool⊕Unit)).bind fun x=>match x with
 | .inl r=>some r
 | .inr _ =>
  some false
theorem W_ref03_Word (f0)(S0:Sat_lex_Words f0):Sat_ref03_Word (B_ref03_Word f0):=by
 intro a0 r h σ K hK;refine zB Try.func88 rfl rfl (by kernel_rfl) ?_;unfold B_ref03_Word at h;have hP:=Pre.refl σ;have E0:qu [(.v (.string a0))] 0=(.v (.string a0)):=rfl;have TT:=cj4 Expr.rlen T_3 T_9 T_97;refine qe (w_x Expr.rlen ?_);refine qg (qe ?_);obtain⟨y1,h2,h⟩:=qb h;refine w_x Expr.rlen ?_;refine S0 _ h2 _ _ ?_;refine w_y Expr.rlen ?_;refine qg (qk (qe (w_x Expr.rlen ?_)));refine qg ?_;obtain⟨x3,h4,h⟩:=qb h;refine qh (fun e s=>.inr ()=x3∧Pre σ s) ?_ ?_
 ·refine qn (qX h4 (fun v e s=>∃v5,v5=v∧eT e 0 a0∧eS e 3 C_s y1∧eI e 4 v5∧Pre σ s) ⟨_,WkE.refl _,_,rfl,E0,(xv TT),(xv TT),hP⟩ ?_)
  rintro v x6 e s hf7 ⟨v5,rfl,E0,E3,E4,hP⟩
  unfold zY at hf7;(try dsimp only at hf7);refine qk (qe (w_x (cj3 E3 E4 TT) ?_));refine qg (qe ?_);rcases qj hf7 with⟨hb8,hf7⟩|⟨hb8,hf7⟩
  ·refine xt hb8 (qm (qg ?_));obtain⟨x9,h10,hf7⟩:=qb hf7;refine qh (fun e s=>.inr ()=x9∧eT e 0 a0∧eS e 3 C_s y1∧eI e 4 v5∧Pre σ s) ?_ ?_
   ·refine qn (qe ?_);obtain⟨y11,h12,h10⟩:=qb h10;have R13:(List.map C_s y1)[(v5).toNat]? =some [(.v (.string y11))]:=zw (qp h12).2;refine w_x (cj6 E0 E3 E4 R13 (qp h12).1 TT) ?_;refine qg ?_;rcases qj h10 with⟨hb14,h10⟩|⟨hb14,h10⟩
    ·refine xt hb14 (qe (w_x Expr.rlen ?_));refine qg (qo (qx ?_));obtain rfl:=qc h10;refine qO ?_;(try dsimp only at hf7);obtain rfl:=qc hf7;refine Zz rfl fun hr15=> ?_;obtain rfl:=hr15;refine qx (qO ?_);(try dsimp only at h);obtain rfl:=qc h;exact qq (fun _=>rfl) (xr (rs:= #[.tmp 2]) TT) hP (.refl _) (.v _) hK
    ·refine xf hb14 (qm (zc ?_));obtain rfl:=qc h10;exact qf ⟨rfl,E0,E3,E4,hP⟩
   rintro e s ⟨rfl,E0,E3,E4,hP⟩
   (try dsimp only at hf7);refine w_x (cj2 E4 TT) ?_;obtain rfl:=qc hf7;exact zK rfl ⟨_,rfl,E0,E3,(xv (cj2 E4 TT)),hP⟩
  ·refine xf hb8 (qz (qT ?_));obtain rfl:=qc hf7;refine zo rfl fun hr16=> ?_;obtain rfl:=hr16;exact qG (qf ⟨rfl,hP⟩)
 rintro e s ⟨rfl,hP⟩
 (try dsimp only at h);refine qe (w_x Expr.rlen ?_);refine qg (qo ?_);obtain rfl:=qc h;exact qq (fun _=>rfl) (xr (rs:= #[.tmp 2]) TT) hP (.refl _) (.v _) hK
def qE:(List ByteArray):=[(⟨#[110,111,100,101]⟩:ByteArray),(⟨#[98,117,100,103,101,116]⟩:ByteArray),(⟨#[105,110,112,117,116]⟩:ByteArray),(⟨#[112,101,114,105,111,100]⟩:ByteArray),(⟨#[112,104,97,115,101]⟩:ByteArray),(⟨#[102,108,111,119]⟩:ByteArray),(⟨#[102,98,121]⟩:ByteArray),(⟨#[116,97,105,108]⟩:ByteArray),(⟨#[111,117,116,112,117,116]⟩:ByteArray),(⟨#[100,101,97,100,108,105,110,101]⟩:ByteArray)]
noncomputable def B_lex_Words:Option (List ByteArray):=
 some qE
theorem W_lex_Words:Sat_lex_Words (B_lex_Words):=by
 intro r h σ K hK;refine zB Try.func122 rfl rfl (by kernel_rfl) ?_;unfold B_lex_Words at h;have hP:=Pre.refl σ;have TT:=cj3 Expr.rlen T_9 T_97;refine qe (w_x Expr.rlen ?_);refine qg (qe (w_x TT ?_));refine qg (qo ?_);obtain rfl:=qc h;exact qq (fun _=>rfl) (xr (rs:= #[.tmp 0]) TT) hP (Wk.of_eq rfl) (Cn.rows (fun _=>CnL.cons (.v _) CnL.nil) _) hK
noncomputable def zP (a0:ByteArray)(f1:Int→Option Bool)(f0:Int→Option Bool):Int→Option (Int⊕(Bool⊕Unit))
 | v3 =>
  if(decide (v3<((ByteArray.size a0:Nat):Int)))then
   ((Zo a0 v3).bind fun y9=>
   (f0 y9).bind fun y11=>
   (if(!y11)then
    (if(decide (v3=(0:Int)))then
     some false
    else
     (f1 y9).bind fun y13=>
     some ((!y13)&&(!decide (y9=(95:Int))))).bind fun w15=>
    some ((decide (v3=(0:Int)))||w15)
   else
    some false).bind fun w17=>
   if((!y11)&&w17)then
    some (.inl false)
   else
    some (.inr ()):Option (Bool⊕Unit)).bind fun x=>match x with
   | .inl r=>some (.inr (.inl r))
   | .inr _ =>
    some (.inl (IntKind.i64.wrap (v3+(1:Int))))
  else
   some (.inr (.inr ()))
noncomputable def B_ref03_Right (f0:Int→Option Bool)(f1:Int→Option Bool)(f2:ByteArray→Option Bool)(a0:ByteArray):Option Bool:=
 (qA (zP a0 f1 f0) (0:Int):Option (Bool⊕Unit)).bind fun x=>match x with
 | .inl r=>some r
 | .inr _ =>
  (if((!decide (a0=(⟨#[]⟩:ByteArray)))&&(decide (((ByteArray.size a0:Nat):Int)≤(100:Int))))then
   (f2 a0).bind fun y26=>
   some (!y26)
  else
   some false).bind fun w28=>
  some (((!decide (a0=(⟨#[]⟩:ByteArray)))&&(decide (((ByteArray.size a0:Nat):Int)≤(100:Int))))&&w28)
theorem W_ref03_Right (f0 f1 f2)(S0:Sat_ref03_small f0)(S1:Sat_ref03_digit f1)(S2:Sat_ref03_Word f2):Sat_ref03_Right (B_ref03_Right f0 f1 f2):=by
 intro a0 r h σ K hK;refine zB Try.func38 rfl rfl (by kernel_rfl) ?_;unfold B_ref03_Right at h;have hP:=Pre.refl σ;have E0:qu [(.v (.string a0))] 0=(.v (.string a0)):=rfl;have TT:=cj4 Expr.rlen T_3 T_5 T_9;refine qe (w_x Expr.rlen ?_);refine qg (qk (qe (w_x Expr.rlen ?_)));refine qg ?_;obtain⟨x1,h2,h⟩:=qb h;refine qh (fun e s=>.inr ()=x1∧eT e 0 a0∧Pre σ s) ?_ ?_
 ·refine qn (qX h2 (fun v e s=>∃v3,v3=v∧eT e 0 a0∧eI e 3 v3∧Pre σ s) ⟨_,WkE.refl _,_,rfl,E0,(xv TT),hP⟩ ?_)
  rintro v x4 e s hf5 ⟨v3,rfl,E0,E3,hP⟩
  unfold zP at hf5;(try dsimp only at hf5);refine qk (qe (w_x (cj3 E0 E3 TT) ?_));refine qg (qe ?_);rcases qj hf5 with⟨hb6,hf5⟩|⟨hb6,hf5⟩
  ·refine xt hb6 (qm (qg ?_));obtain⟨x7,h8,hf5⟩:=qb hf5;refine qh (fun e s=>.inr ()=x7∧eT e 0 a0∧eI e 3 v3∧Pre σ s) ?_ ?_
   ·refine qn ?_;obtain⟨y9,h10,h8⟩:=qb h8;obtain⟨y11,h12,h8⟩:=qb h8;obtain⟨w17,h18,h8⟩:=qb h8;refine qh (fun e s=>eT e 0 a0∧eI e 3 v3∧eB e 31 ((!y11)&&w17)∧Pre σ s) ?_ ?_
    ·obtain⟨k19a,k19b,k19c,k19d⟩:=JT h10;cases hb20:(!y11)
     ·replace h18:=zx (by simp only[hb20,Bool.or_true,Bool.true_or,Bool.or_false,Bool.false_or,Bool.and_true,Bool.true_and,Bool.and_false,Bool.false_and,Bool.not_true,Bool.not_false,cond_true,cond_false]) h18;obtain rfl:=qc h18;have q1:=cj7 E0 E3 k19a k19c k19d hb20 TT;refine w_x q1 ?_;refine S0 _ _ h12 _ _ ?_;refine w_y q1 ?_;exact qf ⟨E0,E3,(xv q1),hP⟩
     ·replace h18:=qI (by simp only[hb20,Bool.or_true,Bool.true_or,Bool.or_false,Bool.false_or,Bool.and_true,Bool.true_and,Bool.and_false,Bool.false_and,Bool.not_true,Bool.not_false,cond_true,cond_false]) h18;obtain⟨w15,h16,h18⟩:=qb h18;obtain rfl:=qc h18;cases hb21:(decide (v3=(0:Int)))
      ·replace h16:=zx (by simp only[hb20,hb21,Bool.or_true,Bool.true_or,Bool.or_false,Bool.false_or,Bool.and_true,Bool.true_and,Bool.and_false,Bool.false_and,Bool.not_true,Bool.not_false,cond_true,cond_false]) h16;obtain⟨y13,h14,h16⟩:=qb h16;obtain rfl:=qc h16;cases hb22:(!y13)
       ·have q2:=cj9 E0 E3 k19a k19c k19d hb20 hb21 hb22 TT;refine w_x q2 ?_;refine S0 _ _ h12 _ _ ?_;refine w_y q2 ?_;refine S1 _ _ h14 _ _ ?_;refine w_y q2 ?_;exact qf ⟨E0,E3,(xv q2),hP⟩
       ·have q3:=cj9 E0 E3 k19a k19c k19d hb20 hb21 hb22 TT;refine w_x q3 ?_;refine S0 _ _ h12 _ _ ?_;refine w_y q3 ?_;refine S1 _ _ h14 _ _ ?_;refine w_y q3 ?_;exact qf ⟨E0,E3,(xv q3),hP⟩
      ·replace h16:=qI (by simp only[hb20,hb21,Bool.or_true,Bool.true_or,Bool.or_false,Bool.false_or,Bool.and_true,Bool.true_and,Bool.and_false,Bool.false_and,Bool.not_true,Bool.not_false,cond_true,cond_false]) h16;obtain rfl:=qc h16;have q4:=cj8 E0 E3 k19a k19c k19d hb20 hb21 TT;refine w_x q4 ?_;refine S0 _ _ h12 _ _ ?_;refine w_y q4 ?_;exact qf ⟨E0,E3,(xv q4),hP⟩
    rintro e s ⟨E0,E3,E31,hP⟩
    rcases qj h8 with⟨hb23,h8⟩|⟨hb23,h8⟩
    ·refine xt (cj2 E31 hb23) (qe (w_x Expr.rlen ?_));refine qg (qo (qx ?_));obtain rfl:=qc h8;refine qO ?_;(try dsimp only at hf5);obtain rfl:=qc hf5;refine Zz rfl fun hr24=> ?_;obtain rfl:=hr24;refine qx (qO ?_);(try dsimp only at h);obtain rfl:=qc h;exact qq (fun _=>rfl) (xr (rs:= #[.tmp 2]) TT) hP (.refl _) (.v _) hK
    ·refine xf (cj2 E31 hb23) (qm (zc ?_));obtain rfl:=qc h8;exact qf ⟨rfl,E0,E3,hP⟩
   rintro e s ⟨rfl,E0,E3,hP⟩
   (try dsimp only at hf5);refine w_x (cj2 E3 TT) ?_;obtain rfl:=qc hf5;exact zK rfl ⟨_,rfl,E0,(xv (cj2 E3 TT)),hP⟩
  ·refine xf hb6 (qz (qT ?_));obtain rfl:=qc hf5;refine zo rfl fun hr25=> ?_;obtain rfl:=hr25;exact qG (qf ⟨rfl,E0,hP⟩)
 rintro e s ⟨rfl,E0,hP⟩
 (try dsimp only at h);obtain⟨w28,h29,h⟩:=qb h;refine qh (fun e s=>eB e 2 (((!decide (a0=(⟨#[]⟩:ByteArray)))&&(decide (((ByteArray.size a0:Nat):Int)≤(100:Int))))&&w28)∧Pre σ s) ?_ ?_
 ·cases hb30:(!decide (a0=(⟨#[]⟩:ByteArray)))
  ·replace h29:=zx (by simp only[hb30,Bool.or_true,Bool.true_or,Bool.or_false,Bool.false_or,Bool.and_true,Bool.true_and,Bool.and_false,Bool.false_and,Bool.not_true,Bool.not_false,cond_true,cond_false]) h29;obtain rfl:=qc h29;refine w_x (cj3 E0 hb30 TT) ?_;exact qf ⟨(xv (cj3 E0 hb30 TT)),hP⟩
  ·cases hb31:(decide (((ByteArray.size a0:Nat):Int)≤(100:Int)))
   ·replace h29:=zx (by simp only[hb30,hb31,Bool.or_true,Bool.true_or,Bool.or_false,Bool.false_or,Bool.and_true,Bool.true_and,Bool.and_false,Bool.false_and,Bool.not_true,Bool.not_false,cond_true,cond_false]) h29;obtain rfl:=qc h29;refine w_x (cj4 E0 hb30 hb31 TT) ?_;exact qf ⟨(xv (cj4 E0 hb30 hb31 TT)),hP⟩
   ·replace h29:=qI (by simp only[hb30,hb31,Bool.or_true,Bool.true_or,Bool.or_false,Bool.false_or,Bool.and_true,Bool.true_and,Bool.and_false,Bool.false_and,Bool.not_true,Bool.not_false,cond_true,cond_false]) h29;obtain⟨y26,h27,h29⟩:=qb h29;obtain rfl:=qc h29;have q5:=cj4 E0 hb30 hb31 TT;refine w_x q5 ?_;refine S2 _ _ h27 _ _ ?_;refine w_y q5 ?_;exact qf ⟨(xv q5),hP⟩
 rintro e s ⟨E2,hP⟩
 refine qo ?_;obtain rfl:=qc h;exact qq (fun _=>rfl) (xr (rs:= #[.tmp 2]) (cj2 E2 TT)) hP (.refl _) (.v _) hK
noncomputable def B_ref04_number (a0:Int)(a1:Int)(a2:Int):Option Bool:=
 some ((decide (a1≤a0))&&(decide (a0≤a2)))
theorem W_ref04_number:Sat_ref04_number (B_ref04_number):=by
 intro a0 a1 a2 r h σ K hK;refine zB Try.func39 rfl rfl (by kernel_rfl) ?_;unfold B_ref04_number at h;have hP:=Pre.refl σ;have E0:qu [(.v (.int .i64 a0)),(.v (.int .i64 a1)),(.v (.int .i64 a2))] 0=(.v (.int .i64 a0)):=rfl;have E1:qu [(.v (.int .i64 a0)),(.v (.int .i64 a1)),(.v (.int .i64 a2))] 1=(.v (.int .i64 a1)):=rfl;have E2:qu [(.v (.int .i64 a0)),(.v (.int .i64 a1)),(.v (.int .i64 a2))] 2=(.v (.int .i64 a2)):=rfl;have TT:=cj2 Expr.rlen T_2;refine qe (w_x Expr.rlen ?_);refine qg (qh (fun e s=>eB e 6 ((decide (a1≤a0))&&(decide (a0≤a2)))∧Pre σ s) ?_ ?_)
 ·cases hb1:(decide (a1≤a0))
  ·refine w_x (cj5 E0 E1 E2 hb1 TT) ?_;exact qf ⟨(xv (cj5 E0 E1 E2 hb1 TT)),hP⟩
  ·refine w_x (cj5 E0 E1 E2 hb1 TT) ?_;exact qf ⟨(xv (cj5 E0 E1 E2 hb1 TT)),hP⟩
 rintro e s ⟨E6,hP⟩
 refine qo ?_;obtain rfl:=qc h;exact qq (fun _=>rfl) (xr (rs:= #[.tmp 6]) (cj2 E6 TT)) hP (.refl _) (.v _) hK
noncomputable def Zg (a0:Expr)(a1:Int)(f0:Expr→Int→Option Int):(Int×Int)→Option ((Int×Int)⊕Int)
 | (v4, v5) =>
  if((decide (v5<((List.length a0.args:Nat):Int)))&&(decide (v4≤a1)))then
   ((qS a0.args v5).bind fun y13=>
   (f0 y13 (IntKind.i64.wrap (a1 - v4))).bind fun y15=>
   some (IntKind.i64.wrap (v4+y15)):Option Int).bind fun v12=>
   some (.inl (v12,(IntKind.i64.wrap (v5+(1:Int)))))
  else
   some (.inr v4)
noncomputable def B_ref04_Size (f0:Expr→Int→Option Int)(a0:Expr)(a1:Int):Option Int:=
 (qA (Zg a0 a1 f0) ((1:Int),(0:Int)):Option Int).bind fun v3=>
 some v3
theorem W_ref04_Size (f0)(S0:Sat_ref04_Size f0):Sat_ref04_Size (B_ref04_Size f0):=by
 intro a0 a1 r h σ K hK;refine zB Try.func40 rfl rfl (by kernel_rfl) ?_;unfold B_ref04_Size at h;have hP:=Pre.refl σ;have E0:qu [(.ag (Expr.cl a0)),(.v (.int .i64 a1))] 0=(.ag (Expr.cl a0)):=rfl;have E1:qu [(.ag (Expr.cl a0)),(.v (.int .i64 a1))] 1=(.v (.int .i64 a1)):=rfl;have TT:=cj7 Expr.cle Expr.rlen T_2 T_3 T_37 T_39 T_9;refine qh (fun e s=>∃i2:Nat,Bx σ s i2 39 (Expr.cl a0)∧eI e 1 a1∧eP e 2 i2∧Pre σ s) ?_ ?_
 ·refine w_x (cj2 E0 TT) ?_;exact qf ⟨σ.length,(Bx.new hP _ _),E1,(xv (cj2 E0 TT)),(hP.app _)⟩
 rintro e s ⟨i2,X2,E1,E2,hP⟩
 refine qe (w_x Expr.rlen ?_);refine qg (qk (qe (w_x Expr.rlen ?_)));refine qg ?_;obtain⟨x1,h2,h⟩:=qb h;refine qh (fun e s=>∃v3,v3=x1∧eI e 5 v3∧Pre σ s) ?_ ?_
 ·refine qn (qX h2 (fun v e s=>∃v4 v5,(v4,v5)=v∧Bx σ s i2 39 (Expr.cl a0)∧eI e 1 a1∧eP e 2 i2∧eI e 5 v4∧eI e 6 v5∧Pre σ s) ⟨_,WkE.refl _,_,_,rfl,X2,E1,E2,(xv TT),(xv TT),hP⟩ ?_)
  rintro v x6 e s hf7 ⟨v4,v5,rfl,X2,E1,E2,E5,E6,hP⟩
  unfold Zg at hf7;(try dsimp only at hf7);refine qk (qh (fun e s=>Bx σ s i2 39 (Expr.cl a0)∧eI e 1 a1∧eP e 2 i2∧eI e 5 v4∧eI e 6 v5∧eB e 16 ((decide (v5<((List.length a0.args:Nat):Int)))&&(decide (v4≤a1)))∧Pre σ s) ?_ ?_)
  ·cases hb8:(decide (v5<((List.length a0.args:Nat):Int)))
   ·have q1:=cj7 E1 E2 E5 E6 X2.get hb8 TT;refine w_x q1 ?_;exact qf ⟨X2,E1,E2,E5,E6,(xv q1),hP⟩
   ·have q2:=cj7 E1 E2 E5 E6 X2.get hb8 TT;refine w_x q2 ?_;exact qf ⟨X2,E1,E2,E5,E6,(xv q2),hP⟩
  rintro e s ⟨X2,E1,E2,E5,E6,E16,hP⟩
  refine qe ?_;rcases qj hf7 with⟨hb9,hf7⟩|⟨hb9,hf7⟩
  ·refine xt (cj2 E16 hb9) (qm (qg ?_));obtain⟨x10,h11,hf7⟩:=qb hf7;refine qh (fun e s=>∃v12,v12=x10∧Bx σ s i2 39 (Expr.cl a0)∧eI e 1 a1∧eP e 2 i2∧eI e 5 v12∧eI e 6 v5∧Pre σ s) ?_ ?_
   ·refine qn ?_;obtain⟨y13,h14,h11⟩:=qb h11;obtain⟨y15,h16,h11⟩:=qb h11;have R17:(Expr.rows a0.args)[(v5).toNat]? =some (Expr.cl y13):=Expr.rget (qp h14).2;have q3:=cj8 E1 E2 E5 E6 X2.get R17 (qp h14).1 TT;refine w_x q3 ?_;refine S0 _ _ _ h16 _ _ ?_;refine w_y q3 ?_;refine zc ?_;obtain rfl:=qc h11;exact qf ⟨_,rfl,X2,E1,E2,(xv q3),E6,hP⟩
   rintro e s ⟨v12,rfl,X2,E1,E2,E5,E6,hP⟩
   (try dsimp only at hf7);refine w_x (cj2 E6 TT) ?_;obtain rfl:=qc hf7;exact zK rfl ⟨_,_,rfl,X2,E1,E2,E5,(xv (cj2 E6 TT)),hP⟩
  ·refine xf (cj2 E16 hb9) (qz (qT ?_));obtain rfl:=qc hf7;refine zo rfl fun hr18=> ?_;obtain rfl:=hr18;exact qG (qf ⟨_,rfl,E5,hP⟩)
 rintro e s ⟨v3,rfl,E5,hP⟩
 (try dsimp only at h);refine qe (w_x (cj2 E5 TT) ?_);refine qg (qo ?_);obtain rfl:=qc h;exact qq (fun _=>rfl) (xr (rs:= #[.tmp 4]) TT) hP (.refl _) (.v _) hK
noncomputable def QT (a0:Expr)(a1:Int)(f0:Expr→Int→Option Int):(Int×Int)→Option ((Int×Int)⊕Int)
 | (v5, v6) =>
  if(decide (v6<((List.length a0.args:Nat):Int)))then
   ((qS a0.args v6).bind fun y13=>
   (f0 y13 (IntKind.i64.wrap (a1 - (1:Int)))).bind fun y15=>
   some (if v5<y15 then y15 else v5):Option Int).bind fun v12=>
   some (.inl (v12,(IntKind.i64.wrap (v6+(1:Int)))))
  else
   some (.inr v5)
noncomputable def B_ref04_Depth (f0:Expr→Int→Option Int)(a0:Expr)(a1:Int):Option Int:=
 if(decide (a1=(0:Int)))then
  some (0:Int)
 else
  (qA (QT a0 a1 f0) ((0:Int),(0:Int)):Option Int).bind fun v4=>
  some (IntKind.i64.wrap (v4+(1:Int)))
theorem W_ref04_Depth (f0)(S0:Sat_ref04_Depth f0):Sat_ref04_Depth (B_ref04_Depth f0):=by
 intro a0 a1 r h σ K hK;refine zB Try.func41 rfl rfl (by kernel_rfl) ?_;unfold B_ref04_Depth at h;have hP:=Pre.refl σ;have E0:qu [(.ag (Expr.cl a0)),(.v (.int .i64 a1))] 0=(.ag (Expr.cl a0)):=rfl;have E1:qu [(.ag (Expr.cl a0)),(.v (.int .i64 a1))] 1=(.v (.int .i64 a1)):=rfl;have TT:=cj7 Expr.cle Expr.rlen T_2 T_3 T_37 T_39 T_9;refine qh (fun e s=>∃i2:Nat,Bx σ s i2 39 (Expr.cl a0)∧eI e 1 a1∧eP e 2 i2∧Pre σ s) ?_ ?_
 ·refine w_x (cj2 E0 TT) ?_;exact qf ⟨σ.length,(Bx.new hP _ _),E1,(xv (cj2 E0 TT)),(hP.app _)⟩
 rintro e s ⟨i2,X2,E1,E2,hP⟩
 refine qk (qe (w_x (cj2 E1 TT) ?_));refine qg (qe ?_);rcases qj h with⟨hb1,h⟩|⟨hb1,h⟩
 ·refine xt hb1 (qe (w_x Expr.rlen ?_));refine qg (qo (ze ?_));obtain rfl:=qc h;exact qq (fun _=>rfl) (xr (rs:= #[.tmp 4]) TT) hP (.refl _) (.v _) hK
 ·refine xf hb1 (qm (qg (qe (w_x Expr.rlen ?_))));refine qg (qk (qe (w_x Expr.rlen ?_)));refine qg ?_;obtain⟨x2,h3,h⟩:=qb h;refine qh (fun e s=>∃v4,v4=x2∧eI e 5 v4∧Pre σ s) ?_ ?_
  ·refine qn (qX h3 (fun v e s=>∃v5 v6,(v5,v6)=v∧Bx σ s i2 39 (Expr.cl a0)∧eI e 1 a1∧eP e 2 i2∧eI e 5 v5∧eI e 6 v6∧Pre σ s) ⟨_,WkE.refl _,_,_,rfl,X2,E1,E2,(xv TT),(xv TT),hP⟩ ?_)
   rintro v x7 e s hf8 ⟨v5,v6,rfl,X2,E1,E2,E5,E6,hP⟩
   unfold QT at hf8;(try dsimp only at hf8);refine qk (qe (w_x (cj4 E2 E6 X2.get TT) ?_));refine qg (qe ?_);rcases qj hf8 with⟨hb9,hf8⟩|⟨hb9,hf8⟩
   ·refine xt hb9 (qm (qg ?_));obtain⟨x10,h11,hf8⟩:=qb hf8;refine qh (fun e s=>∃v12,v12=x10∧Bx σ s i2 39 (Expr.cl a0)∧eI e 1 a1∧eP e 2 i2∧eI e 5 v12∧eI e 6 v6∧Pre σ s) ?_ ?_
    ·refine qn ?_;obtain⟨y13,h14,h11⟩:=qb h11;obtain⟨y15,h16,h11⟩:=qb h11;have R17:(Expr.rows a0.args)[(v6).toNat]? =some (Expr.cl y13):=Expr.rget (qp h14).2;have q1:=cj8 E1 E2 E5 E6 X2.get R17 (qp h14).1 TT;refine w_x q1 ?_;refine S0 _ _ _ h16 _ _ ?_;refine w_y q1 ?_;refine zc ?_;obtain rfl:=qc h11;exact qf ⟨_,rfl,X2,E1,E2,(xv q1),E6,hP⟩
    rintro e s ⟨v12,rfl,X2,E1,E2,E5,E6,hP⟩
    (try dsimp only at hf8);refine w_x (cj2 E6 TT) ?_;obtain rfl:=qc hf8;exact zK rfl ⟨_,_,rfl,X2,E1,E2,E5,(xv (cj2 E6 TT)),hP⟩
   ·refine xf hb9 (qz (qT ?_));obtain rfl:=qc hf8;refine zo rfl fun hr18=> ?_;obtain rfl:=hr18;exact qG (qf ⟨_,rfl,E5,hP⟩)
  rintro e s ⟨v4,rfl,E5,hP⟩
  (try dsimp only at h);refine qe (w_x (cj2 E5 TT) ?_);refine qg (qo ?_);obtain rfl:=qc h;exact qq (fun _=>rfl) (xr (rs:= #[.tmp 4]) TT) hP (.refl _) (.v _) hK
def qW:(List ByteArray):=[(⟨#[43]⟩:ByteArray),(⟨#[45]⟩:ByteArray),(⟨#[42]⟩:ByteArray),(⟨#[47]⟩:ByteArray),(⟨#[37]⟩:ByteArray),(⟨#[60]⟩:ByteArray),(⟨#[61,61]⟩:ByteArray)]
noncomputable def Zi (a0:Expr):Int→Option (Int⊕(Bool⊕Unit))
 | v37 =>
  if(decide (v37<((List.length qW:Nat):Int)))then
   ((qS qW v37).bind fun y43=>
   if(decide (y43=a0.name))then
    some (.inl (decide (((List.length a0.args:Nat):Int)=(2:Int))))
   else
    some (.inr ()):Option (Bool⊕Unit)).bind fun x=>match x with
   | .inl r=>some (.inr (.inl r))
   | .inr _ =>
    some (.inl (IntKind.i64.wrap (v37+(1:Int))))
  else
   some (.inr (.inr ()))
noncomputable def Zj (a0:Expr)(f2:Expr→Option Bool):Int→Option (Int⊕(Bool⊕Unit))
 | v3 =>
  if(decide (v3<((List.length a0.args:Nat):Int)))then
   ((qS a0.args v3).bind fun y9=>
   (f2 y9).bind fun y11=>
   if(!y11)then
    some (.inl false)
   else
    some (.inr ()):Option (Bool⊕Unit)).bind fun x=>match x with
   | .inl r=>some (.inr (.inl r))
   | .inr _ =>
    some (.inl (IntKind.i64.wrap (v3+(1:Int))))
  else
   some (.inr (.inr ()))
noncomputable def B_ref04_Body (f0:ByteArray→Option Bool)(f1:Int→Int→Int→Option Bool)(f2:Expr→Option Bool)(a0:Expr):Option Bool:=
 (qA (Zj a0 f2) (0:Int):Option (Bool⊕Unit)).bind fun x=>match x with
 | .inl r=>some r
 | .inr _ =>
  if(!decide (a0.d=(0:Int)))then
   some false
  else
   (if(decide (a0.kind=(11:Int)))then
    (f0 a0.name).bind fun y21=>
    some (.inl ((y21&&(decide (((List.length a0.args:Nat):Int)=(0:Int))))&&(decide (a0.n=(0:Int)))))
   else
    if(decide (a0.kind=(12:Int)))then
     (if((decide (a0.name=(⟨#[]⟩:ByteArray)))&&(decide (((List.length a0.args:Nat):Int)=(0:Int))))then
      (f1 a0.n (0:Int) (1000000000:Int)).bind fun y26=>
      some y26
     else
      some false).bind fun w28=>
     some (.inl (((decide (a0.name=(⟨#[]⟩:ByteArray)))&&(decide (((List.length a0.args:Nat):Int)=(0:Int))))&&w28))
    else
     some (.inr ()):Option (Bool⊕Unit)).bind fun x=>match x with
   | .inl r=>some r
   | .inr _ =>
    if((!decide (a0.kind=(13:Int)))||(!decide (a0.n=(0:Int))))then
     some false
    else
     if(decide (a0.name=(⟨#[63]⟩:ByteArray)))then
      some (decide (((List.length a0.args:Nat):Int)=(3:Int)))
     else
      (qA (Zi a0) (0:Int):Option (Bool⊕Unit)).bind fun x=>match x with
      | .inl r=>some r
      | .inr _ =>
       some false
theorem W_ref04_Body (f0 f1 f2)(S0:Sat_ref03_Right f0)(S1:Sat_ref04_number f1)(S2:Sat_ref04_Body f2):Sat_ref04_Body (B_ref04_Body f0 f1 f2):=by
 intro a0 r h σ K hK;refine zB Try.func42 rfl rfl (by kernel_rfl) ?_;unfold B_ref04_Body at h;have hP:=Pre.refl σ;have E0:qu [(.ag (Expr.cl a0))] 0=(.ag (Expr.cl a0)):=rfl;have TT:=cj8 Expr.cle Expr.rlen T_2 T_3 T_37 T_39 T_9 T_97;refine qh (fun e s=>∃i1:Nat,Bx σ s i1 39 (Expr.cl a0)∧eP e 1 i1∧Pre σ s) ?_ ?_
 ·refine w_x (cj2 E0 TT) ?_;exact qf ⟨σ.length,(Bx.new hP _ _),(xv (cj2 E0 TT)),(hP.app _)⟩
 rintro e s ⟨i1,X1,E1,hP⟩
 refine qk (qe (w_x Expr.rlen ?_));refine qg ?_;obtain⟨x1,h2,h⟩:=qb h;refine qh (fun e s=>.inr ()=x1∧Bx σ s i1 39 (Expr.cl a0)∧eP e 1 i1∧Pre σ s) ?_ ?_
 ·refine qn (qX h2 (fun v e s=>∃v3,v3=v∧Bx σ s i1 39 (Expr.cl a0)∧eP e 1 i1∧eI e 3 v3∧Pre σ s) ⟨_,WkE.refl _,_,rfl,X1,E1,(xv TT),hP⟩ ?_)
  rintro v x4 e s hf5 ⟨v3,rfl,X1,E1,E3,hP⟩
  unfold Zj at hf5;(try dsimp only at hf5);refine qk (qe (w_x (cj4 E1 E3 X1.get TT) ?_));refine qg (qe ?_);rcases qj hf5 with⟨hb6,hf5⟩|⟨hb6,hf5⟩
  ·refine xt hb6 (qm (qg ?_));obtain⟨x7,h8,hf5⟩:=qb hf5;refine qh (fun e s=>.inr ()=x7∧Bx σ s i1 39 (Expr.cl a0)∧eP e 1 i1∧eI e 3 v3∧Pre σ s) ?_ ?_
   ·refine qn (qe ?_);obtain⟨y9,h10,h8⟩:=qb h8;obtain⟨y11,h12,h8⟩:=qb h8;have R13:(Expr.rows a0.args)[(v3).toNat]? =some (Expr.cl y9):=Expr.rget (qp h10).2;have q1:=cj6 E1 E3 X1.get R13 (qp h10).1 TT;refine w_x q1 ?_;refine S2 _ _ h12 _ _ ?_;refine w_y q1 ?_;refine qg ?_;rcases qj h8 with⟨hb14,h8⟩|⟨hb14,h8⟩
    ·refine xt hb14 (qe (w_x Expr.rlen ?_));refine qg (qo (qx ?_));obtain rfl:=qc h8;refine qO ?_;(try dsimp only at hf5);obtain rfl:=qc hf5;refine Zz rfl fun hr15=> ?_;obtain rfl:=hr15;refine qx (qO ?_);(try dsimp only at h);obtain rfl:=qc h;exact qq (fun _=>rfl) (xr (rs:= #[.tmp 2]) TT) hP (.refl _) (.v _) hK
    ·refine xf hb14 (qm (zc ?_));obtain rfl:=qc h8;exact qf ⟨rfl,X1,E1,E3,hP⟩
   rintro e s ⟨rfl,X1,E1,E3,hP⟩
   (try dsimp only at hf5);refine w_x (cj2 E3 TT) ?_;obtain rfl:=qc hf5;exact zK rfl ⟨_,rfl,X1,E1,(xv (cj2 E3 TT)),hP⟩
  ·refine xf hb6 (qz (qT ?_));obtain rfl:=qc hf5;refine zo rfl fun hr16=> ?_;obtain rfl:=hr16;exact qG (qf ⟨rfl,X1,E1,hP⟩)
 rintro e s ⟨rfl,X1,E1,hP⟩
 (try dsimp only at h);refine qk (qe (w_x (cj3 E1 X1.get TT) ?_));refine qg (qe ?_);rcases qj h with⟨hb17,h⟩|⟨hb17,h⟩
 ·refine xt hb17 (qe (w_x Expr.rlen ?_));refine qg (qo (ze ?_));obtain rfl:=qc h;exact qq (fun _=>rfl) (xr (rs:= #[.tmp 2]) TT) hP (.refl _) (.v _) hK
 ·refine xf hb17 (qm (qg (qk (qe (w_x (cj3 E1 X1.get TT) ?_)))));refine qg ?_;obtain⟨x18,h19,h⟩:=qb h;refine qh (fun e s=>.inr ()=x18∧Bx σ s i1 39 (Expr.cl a0)∧eP e 1 i1∧Pre σ s) ?_ ?_
  ·refine qn (qe (w_x TT ?_));refine qg ?_;rcases qj h19 with⟨hb20,h19⟩|⟨hb20,h19⟩
   ·refine xt hb20 ?_;obtain⟨y21,h22,h19⟩:=qb h19;refine qh (fun e s=>eB e 2 ((y21&&(decide (((List.length a0.args:Nat):Int)=(0:Int))))&&(decide (a0.n=(0:Int))))∧Pre σ s) ?_ ?_
    ·cases hb23:y21
     ·have q2:=cj4 E1 X1.get hb23 TT;refine w_x q2 ?_;refine S0 _ _ h22 _ _ ?_;refine w_y q2 ?_;exact qf ⟨(xv q2),hP⟩
     ·cases hb24:(decide (((List.length a0.args:Nat):Int)=(0:Int)))
      ·have q3:=cj5 E1 X1.get hb23 hb24 TT;refine w_x q3 ?_;refine S0 _ _ h22 _ _ ?_;refine w_y q3 ?_;exact qf ⟨(xv q3),hP⟩
      ·have q4:=cj5 E1 X1.get hb23 hb24 TT;refine w_x q4 ?_;refine S0 _ _ h22 _ _ ?_;refine w_y q4 ?_;exact qf ⟨(xv q4),hP⟩
    rintro e s ⟨E2,hP⟩
    refine qo (qx ?_);obtain rfl:=qc h19;refine qO ?_;(try dsimp only at h);obtain rfl:=qc h;exact qq (fun _=>rfl) (xr (rs:= #[.tmp 2]) (cj2 E2 TT)) hP (.refl _) (.v _) hK
   ·refine xf hb20 (qe (w_x TT ?_));refine qg ?_;rcases qj h19 with⟨hb25,h19⟩|⟨hb25,h19⟩
    ·refine xt hb25 ?_;obtain⟨w28,h29,h19⟩:=qb h19;refine qh (fun e s=>eB e 2 (((decide (a0.name=(⟨#[]⟩:ByteArray)))&&(decide (((List.length a0.args:Nat):Int)=(0:Int))))&&w28)∧Pre σ s) ?_ ?_
     ·cases hb30:(decide (a0.name=(⟨#[]⟩:ByteArray)))
      ·replace h29:=zx (by simp only[hb30,Bool.or_true,Bool.true_or,Bool.or_false,Bool.false_or,Bool.and_true,Bool.true_and,Bool.and_false,Bool.false_and,Bool.not_true,Bool.not_false,cond_true,cond_false]) h29;obtain rfl:=qc h29;refine w_x (cj4 E1 X1.get hb30 TT) ?_;exact qf ⟨(xv (cj4 E1 X1.get hb30 TT)),hP⟩
      ·cases hb31:(decide (((List.length a0.args:Nat):Int)=(0:Int)))
       ·replace h29:=zx (by simp only[hb30,hb31,Bool.or_true,Bool.true_or,Bool.or_false,Bool.false_or,Bool.and_true,Bool.true_and,Bool.and_false,Bool.false_and,Bool.not_true,Bool.not_false,cond_true,cond_false]) h29;obtain rfl:=qc h29;refine w_x (cj5 E1 X1.get hb30 hb31 TT) ?_;exact qf ⟨(xv (cj5 E1 X1.get hb30 hb31 TT)),hP⟩
       ·replace h29:=qI (by simp only[hb30,hb31,Bool.or_true,Bool.true_or,Bool.or_false,Bool.false_or,Bool.and_true,Bool.true_and,Bool.and_false,Bool.false_and,Bool.not_true,Bool.not_false,cond_true,cond_false]) h29;obtain⟨y26,h27,h29⟩:=qb h29;obtain rfl:=qc h29;have q5:=cj5 E1 X1.get hb30 hb31 TT;refine w_x q5 ?_;refine S1 _ _ _ _ h27 _ _ ?_;refine w_y q5 ?_;exact qf ⟨(xv q5),hP⟩
     rintro e s ⟨E2,hP⟩
     refine qo (qx ?_);obtain rfl:=qc h19;refine qO ?_;(try dsimp only at h);obtain rfl:=qc h;exact qq (fun _=>rfl) (xr (rs:= #[.tmp 2]) (cj2 E2 TT)) hP (.refl _) (.v _) hK
    ·refine xf hb25 (qm (zc ?_));obtain rfl:=qc h19;exact qf ⟨rfl,X1,E1,hP⟩
  rintro e s ⟨rfl,X1,E1,hP⟩
  (try dsimp only at h);refine qk (qh (fun e s=>Bx σ s i1 39 (Expr.cl a0)∧eP e 1 i1∧eB e 64 ((!decide (a0.kind=(13:Int)))||(!decide (a0.n=(0:Int))))∧Pre σ s) ?_ ?_)
  ·cases hb32:(!decide (a0.kind=(13:Int)))
   ·refine w_x (cj4 E1 X1.get hb32 TT) ?_;exact qf ⟨X1,E1,(xv (cj4 E1 X1.get hb32 TT)),hP⟩
   ·refine w_x (cj4 E1 X1.get hb32 TT) ?_;exact qf ⟨X1,E1,(xv (cj4 E1 X1.get hb32 TT)),hP⟩
  rintro e s ⟨X1,E1,E64,hP⟩
  refine qe ?_;rcases qj h with⟨hb33,h⟩|⟨hb33,h⟩
  ·refine xt (cj2 E64 hb33) (qe (w_x Expr.rlen ?_));refine qg (qo (ze ?_));obtain rfl:=qc h;exact qq (fun _=>rfl) (xr (rs:= #[.tmp 2]) TT) hP (.refl _) (.v _) hK
  ·refine xf (cj2 E64 hb33) (qm (qg (qk (qe (w_x (cj3 E1 X1.get TT) ?_)))));refine qg (qe ?_);rcases qj h with⟨hb34,h⟩|⟨hb34,h⟩
   ·refine xt hb34 (qe (w_x (cj3 E1 X1.get TT) ?_));refine qg (qo (ze ?_));obtain rfl:=qc h;exact qq (fun _=>rfl) (xr (rs:= #[.tmp 2]) TT) hP (.refl _) (.v _) hK
   ·refine xf hb34 (qm (qg (qe (w_x TT ?_))));refine qg (qk (qe (w_x Expr.rlen ?_)));refine qg ?_;obtain⟨x35,h36,h⟩:=qb h;refine qh (fun e s=>.inr ()=x35∧Pre σ s) ?_ ?_
    ·refine qn (qX h36 (fun v e s=>∃v37,v37=v∧Bx σ s i1 39 (Expr.cl a0)∧eP e 1 i1∧eS e 4 C_s qW∧eI e 5 v37∧Pre σ s) ⟨_,WkE.upd (WkE.refl _) (t:=4) (p:=(.sl [[(.v (.string (⟨#[43]⟩:ByteArray)))],[(.v (.string (⟨#[45]⟩:ByteArray)))],[(.v (.string (⟨#[42]⟩:ByteArray)))],[(.v (.string (⟨#[47]⟩:ByteArray)))],[(.v (.string (⟨#[37]⟩:ByteArray)))],[(.v (.string (⟨#[60]⟩:ByteArray)))],[(.v (.string (⟨#[61,61]⟩:ByteArray)))]])) (q:=(.sl (List.map C_s qW))) (xv TT) (Wk.of_eq rfl),_,rfl,X1,E1,(xv TT),(xv TT),hP⟩ ?_)
     rintro v x38 e s hf39 ⟨v37,rfl,X1,E1,E4,E5,hP⟩
     unfold Zi at hf39;(try dsimp only at hf39);refine qk (qe (w_x (cj3 E4 E5 TT) ?_));refine qg (qe ?_);rcases qj hf39 with⟨hb40,hf39⟩|⟨hb40,hf39⟩
     ·refine xt hb40 (qm (qg ?_));obtain⟨x41,h42,hf39⟩:=qb hf39;refine qh (fun e s=>.inr ()=x41∧Bx σ s i1 39 (Expr.cl a0)∧eP e 1 i1∧eS e 4 C_s qW∧eI e 5 v37∧Pre σ s) ?_ ?_
      ·refine qn (qe ?_);obtain⟨y43,h44,h42⟩:=qb h42;have R45:(List.map C_s qW)[(v37).toNat]? =some [(.v (.string y43))]:=zw (qp h44).2;refine w_xp (cj7 E1 E4 E5 X1.get R45 (qp h44).1 TT) ?_;refine qg ?_;rcases qj h42 with⟨hb46,h42⟩|⟨hb46,h42⟩
       ·refine xt hb46 (qe (w_x (cj3 E1 X1.get TT) ?_));refine qg (qo (qx ?_));obtain rfl:=qc h42;refine qO ?_;(try dsimp only at hf39);obtain rfl:=qc hf39;refine Zz rfl fun hr47=> ?_;obtain rfl:=hr47;refine qx (qO ?_);(try dsimp only at h);obtain rfl:=qc h;exact qq (fun _=>rfl) (xr (rs:= #[.tmp 2]) TT) hP (.refl _) (.v _) hK
       ·refine xf hb46 (qm (zc ?_));obtain rfl:=qc h42;exact qf ⟨rfl,X1,E1,E4,E5,hP⟩
      rintro e s ⟨rfl,X1,E1,E4,E5,hP⟩
      (try dsimp only at hf39);refine w_x (cj2 E5 TT) ?_;obtain rfl:=qc hf39;exact zK rfl ⟨_,rfl,X1,E1,E4,(xv (cj2 E5 TT)),hP⟩
     ·refine xf hb40 (qz (qT ?_));obtain rfl:=qc hf39;refine zo rfl fun hr48=> ?_;obtain rfl:=hr48;exact qG (qf ⟨rfl,hP⟩)
    rintro e s ⟨rfl,hP⟩
    (try dsimp only at h);refine qe (w_x Expr.rlen ?_);refine qg (qo ?_);obtain rfl:=qc h;exact qq (fun _=>rfl) (xr (rs:= #[.tmp 2]) TT) hP (.refl _) (.v _) hK
noncomputable def Zh (a0:Expr)(f2:Expr→Option Bool):Int→Option (Int⊕(Bool⊕Unit))
 | v3 =>
  if(decide (v3<((List.length a0.args:Nat):Int)))then
   ((qS a0.args v3).bind fun y9=>
   (f2 y9).bind fun y11=>
   if(!y11)then
    some (.inl false)
   else
    some (.inr ()):Option (Bool⊕Unit)).bind fun x=>match x with
   | .inl r=>some (.inr (.inl r))
   | .inr _ =>
    some (.inl (IntKind.i64.wrap (v3+(1:Int))))
  else
   some (.inr (.inr ()))
noncomputable def B_ref04_Expr (f0:ByteArray→Option Bool)(f1:Int→Int→Int→Option Bool)(f2:Expr→Option Bool)(a0:Expr):Option Bool:=
 (qA (Zh a0 f2) (0:Int):Option (Bool⊕Unit)).bind fun x=>match x with
 | .inl r=>some r
 | .inr _ =>
  (if(decide (a0.kind=(1:Int)))then
   (f0 a0.name).bind fun y21=>
   some (.inl ((y21&&(decide (((List.length a0.args:Nat):Int)=(0:Int))))&&((decide (a0.n=(0:Int)))&&(decide (a0.d=(0:Int))))))
  else
   if(decide (a0.kind=(2:Int)))then
    (f0 a0.name).bind fun y26=>
    some (.inl (((y26&&(decide ((1:Int)≤((List.length a0.args:Nat):Int))))&&(decide (((List.length a0.args:Nat):Int)≤(6:Int))))&&((decide (a0.n=(0:Int)))&&(decide (a0.d=(0:Int))))))
   else
    some (.inr ()):Option (Bool⊕Unit)).bind fun x=>match x with
  | .inl r=>some r
  | .inr _ =>
   if(((!decide (((List.length a0.args:Nat):Int)=(1:Int)))||(!decide (a0.name=(⟨#[]⟩:ByteArray))))||((!decide (a0.d=(0:Int)))&&(!decide (a0.kind=(5:Int)))))then
    some false
   else
    ((if(decide (a0.kind=(3:Int)))then
     some (decide (a0.kind=(3:Int)))
    else
     some (decide (a0.kind=(4:Int))):Option Bool).bind fun v39=>
    if v39 then
     (f1 a0.n (1:Int) (100:Int)).bind fun y42=>
     some (.inl y42)
    else
     if(decide (a0.kind=(5:Int)))then
      (f1 a0.n (0:Int) (100:Int)).bind fun y45=>
      (if y45 then
       (f1 a0.d (1:Int) (100:Int)).bind fun y47=>
       some y47
      else
       some false).bind fun w49=>
      some (.inl (y45&&w49))
     else
      (if(decide (a0.kind=(6:Int)))then
       some (decide (a0.kind=(6:Int)))
      else
       some (decide (a0.kind=(8:Int))):Option Bool).bind fun v54=>
      if v54 then
       (f1 a0.n (-1000000000:Int) (1000000000:Int)).bind fun y57=>
       some (.inl y57)
      else
       some (.inr ()):Option (Bool⊕Unit)).bind fun x=>match x with
    | .inl r=>some r
    | .inr _ =>
     some ((decide (a0.kind=(7:Int)))&&(decide (a0.n=(0:Int))))
theorem W_ref04_Expr (f0 f1 f2)(S0:Sat_ref03_Right f0)(S1:Sat_ref04_number f1)(S2:Sat_ref04_Expr f2):Sat_ref04_Expr (B_ref04_Expr f0 f1 f2):=by
 intro a0 r h σ K hK;refine zB Try.func43 rfl rfl (by kernel_rfl) ?_;unfold B_ref04_Expr at h;have hP:=Pre.refl σ;have E0:qu [(.ag (Expr.cl a0))] 0=(.ag (Expr.cl a0)):=rfl;have TT:=cj7 Expr.cle Expr.rlen T_2 T_3 T_37 T_39 T_9;refine qh (fun e s=>∃i1:Nat,Bx σ s i1 39 (Expr.cl a0)∧eP e 1 i1∧Pre σ s) ?_ ?_
 ·refine w_x (cj2 E0 TT) ?_;exact qf ⟨σ.length,(Bx.new hP _ _),(xv (cj2 E0 TT)),(hP.app _)⟩
 rintro e s ⟨i1,X1,E1,hP⟩
 refine qk (qe (w_x Expr.rlen ?_));refine qg ?_;obtain⟨x1,h2,h⟩:=qb h;refine qh (fun e s=>.inr ()=x1∧Bx σ s i1 39 (Expr.cl a0)∧eP e 1 i1∧Pre σ s) ?_ ?_
 ·refine qn (qX h2 (fun v e s=>∃v3,v3=v∧Bx σ s i1 39 (Expr.cl a0)∧eP e 1 i1∧eI e 3 v3∧Pre σ s) ⟨_,WkE.refl _,_,rfl,X1,E1,(xv TT),hP⟩ ?_)
  rintro v x4 e s hf5 ⟨v3,rfl,X1,E1,E3,hP⟩
  unfold Zh at hf5;(try dsimp only at hf5);refine qk (qe (w_x (cj4 E1 E3 X1.get TT) ?_));refine qg (qe ?_);rcases qj hf5 with⟨hb6,hf5⟩|⟨hb6,hf5⟩
  ·refine xt hb6 (qm (qg ?_));obtain⟨x7,h8,hf5⟩:=qb hf5;refine qh (fun e s=>.inr ()=x7∧Bx σ s i1 39 (Expr.cl a0)∧eP e 1 i1∧eI e 3 v3∧Pre σ s) ?_ ?_
   ·refine qn (qe ?_);obtain⟨y9,h10,h8⟩:=qb h8;obtain⟨y11,h12,h8⟩:=qb h8;have R13:(Expr.rows a0.args)[(v3).toNat]? =some (Expr.cl y9):=Expr.rget (qp h10).2;have q1:=cj6 E1 E3 X1.get R13 (qp h10).1 TT;refine w_x q1 ?_;refine S2 _ _ h12 _ _ ?_;refine w_y q1 ?_;refine qg ?_;rcases qj h8 with⟨hb14,h8⟩|⟨hb14,h8⟩
    ·refine xt hb14 (qe (w_x Expr.rlen ?_));refine qg (qo (qx ?_));obtain rfl:=qc h8;refine qO ?_;(try dsimp only at hf5);obtain rfl:=qc hf5;refine Zz rfl fun hr15=> ?_;obtain rfl:=hr15;refine qx (qO ?_);(try dsimp only at h);obtain rfl:=qc h;exact qq (fun _=>rfl) (xr (rs:= #[.tmp 2]) TT) hP (.refl _) (.v _) hK
    ·refine xf hb14 (qm (zc ?_));obtain rfl:=qc h8;exact qf ⟨rfl,X1,E1,E3,hP⟩
   rintro e s ⟨rfl,X1,E1,E3,hP⟩
   (try dsimp only at hf5);refine w_x (cj2 E3 TT) ?_;obtain rfl:=qc hf5;exact zK rfl ⟨_,rfl,X1,E1,(xv (cj2 E3 TT)),hP⟩
  ·refine xf hb6 (qz (qT ?_));obtain rfl:=qc hf5;refine zo rfl fun hr16=> ?_;obtain rfl:=hr16;exact qG (qf ⟨rfl,X1,E1,hP⟩)
 rintro e s ⟨rfl,X1,E1,hP⟩
 (try dsimp only at h);refine qh (fun e s=>Bx σ s i1 39 (Expr.cl a0)∧eP e 1 i1∧eB e 4 ((decide (a0.n=(0:Int)))&&(decide (a0.d=(0:Int))))∧Pre σ s) ?_ ?_
 ·cases hb17:(decide (a0.n=(0:Int)))
  ·refine w_x (cj4 E1 X1.get hb17 TT) ?_;exact qf ⟨X1,E1,(xv (cj4 E1 X1.get hb17 TT)),hP⟩
  ·refine w_x (cj4 E1 X1.get hb17 TT) ?_;exact qf ⟨X1,E1,(xv (cj4 E1 X1.get hb17 TT)),hP⟩
 rintro e s ⟨X1,E1,E4,hP⟩
 refine qk (qe (w_x (cj3 E1 X1.get TT) ?_));refine qg ?_;obtain⟨x18,h19,h⟩:=qb h;refine qh (fun e s=>.inr ()=x18∧Bx σ s i1 39 (Expr.cl a0)∧eP e 1 i1∧Pre σ s) ?_ ?_
 ·refine qn (qe (w_x TT ?_));refine qg ?_;rcases qj h19 with⟨hb20,h19⟩|⟨hb20,h19⟩
  ·refine xt hb20 ?_;obtain⟨y21,h22,h19⟩:=qb h19;refine qh (fun e s=>eB e 2 ((y21&&(decide (((List.length a0.args:Nat):Int)=(0:Int))))&&((decide (a0.n=(0:Int)))&&(decide (a0.d=(0:Int)))))∧Pre σ s) ?_ ?_
   ·cases hb23:y21
    ·have q2:=cj5 E1 E4 X1.get hb23 TT;refine w_x q2 ?_;refine S0 _ _ h22 _ _ ?_;refine w_y q2 ?_;exact qf ⟨(xv q2),hP⟩
    ·cases hb24:(decide (((List.length a0.args:Nat):Int)=(0:Int)))
     ·have q3:=cj6 E1 E4 X1.get hb23 hb24 TT;refine w_x q3 ?_;refine S0 _ _ h22 _ _ ?_;refine w_y q3 ?_;exact qf ⟨(xv q3),hP⟩
     ·have q4:=cj6 E1 E4 X1.get hb23 hb24 TT;refine w_x q4 ?_;refine S0 _ _ h22 _ _ ?_;refine w_y q4 ?_;exact qf ⟨(xv q4),hP⟩
   rintro e s ⟨E2,hP⟩
   refine qo (qx ?_);obtain rfl:=qc h19;refine qO ?_;(try dsimp only at h);obtain rfl:=qc h;exact qq (fun _=>rfl) (xr (rs:= #[.tmp 2]) (cj2 E2 TT)) hP (.refl _) (.v _) hK
  ·refine xf hb20 (qe (w_x TT ?_));refine qg ?_;rcases qj h19 with⟨hb25,h19⟩|⟨hb25,h19⟩
   ·refine xt hb25 ?_;obtain⟨y26,h27,h19⟩:=qb h19;refine qh (fun e s=>eB e 2 (((y26&&(decide ((1:Int)≤((List.length a0.args:Nat):Int))))&&(decide (((List.length a0.args:Nat):Int)≤(6:Int))))&&((decide (a0.n=(0:Int)))&&(decide (a0.d=(0:Int)))))∧Pre σ s) ?_ ?_
    ·cases hb28:y26
     ·have q5:=cj5 E1 E4 X1.get hb28 TT;refine w_x q5 ?_;refine S0 _ _ h27 _ _ ?_;refine w_y q5 ?_;exact qf ⟨(xv q5),hP⟩
     ·cases hb29:(decide ((1:Int)≤((List.length a0.args:Nat):Int)))
      ·have q6:=cj6 E1 E4 X1.get hb28 hb29 TT;refine w_x q6 ?_;refine S0 _ _ h27 _ _ ?_;refine w_y q6 ?_;exact qf ⟨(xv q6),hP⟩
      ·cases hb30:(decide (((List.length a0.args:Nat):Int)≤(6:Int)))
       ·have q7:=cj7 E1 E4 X1.get hb28 hb29 hb30 TT;refine w_x q7 ?_;refine S0 _ _ h27 _ _ ?_;refine w_y q7 ?_;exact qf ⟨(xv q7),hP⟩
       ·have q8:=cj7 E1 E4 X1.get hb28 hb29 hb30 TT;refine w_x q8 ?_;refine S0 _ _ h27 _ _ ?_;refine w_y q8 ?_;exact qf ⟨(xv q8),hP⟩
    rintro e s ⟨E2,hP⟩
    refine qo (qx ?_);obtain rfl:=qc h19;refine qO ?_;(try dsimp only at h);obtain rfl:=qc h;exact qq (fun _=>rfl) (xr (rs:= #[.tmp 2]) (cj2 E2 TT)) hP (.refl _) (.v _) hK
   ·refine xf hb25 (qm (zc ?_));obtain rfl:=qc h19;exact qf ⟨rfl,X1,E1,hP⟩
 rintro e s ⟨rfl,X1,E1,hP⟩
 (try dsimp only at h);refine qk (qh (fun e s=>Bx σ s i1 39 (Expr.cl a0)∧eP e 1 i1∧eB e 81 (((!decide (((List.length a0.args:Nat):Int)=(1:Int)))||(!decide (a0.name=(⟨#[]⟩:ByteArray))))||((!decide (a0.d=(0:Int)))&&(!decide (a0.kind=(5:Int)))))∧Pre σ s) ?_ ?_)
 ·cases hb31:(!decide (((List.length a0.args:Nat):Int)=(1:Int)))
  ·cases hb32:(!decide (a0.name=(⟨#[]⟩:ByteArray)))
   ·cases hb33:(!decide (a0.d=(0:Int)))
    ·have q9:=cj6 E1 X1.get hb31 hb32 hb33 TT;refine w_x q9 ?_;exact qf ⟨X1,E1,(xv q9),hP⟩
    ·have q10:=cj6 E1 X1.get hb31 hb32 hb33 TT;refine w_x q10 ?_;exact qf ⟨X1,E1,(xv q10),hP⟩
   ·refine w_x (cj5 E1 X1.get hb31 hb32 TT) ?_;exact qf ⟨X1,E1,(xv (cj5 E1 X1.get hb31 hb32 TT)),hP⟩
  ·refine w_x (cj4 E1 X1.get hb31 TT) ?_;exact qf ⟨X1,E1,(xv (cj4 E1 X1.get hb31 TT)),hP⟩
 rintro e s ⟨X1,E1,E81,hP⟩
 refine qe ?_;rcases qj h with⟨hb34,h⟩|⟨hb34,h⟩
 ·refine xt (cj2 E81 hb34) (qe (w_x Expr.rlen ?_));refine qg (qo (ze ?_));obtain rfl:=qc h;exact qq (fun _=>rfl) (xr (rs:= #[.tmp 2]) TT) hP (.refl _) (.v _) hK
 ·refine xf (cj2 E81 hb34) (qm (qg (qk (qe (w_x (cj3 E1 X1.get TT) ?_)))));refine qg ?_;obtain⟨x35,h36,h⟩:=qb h;refine qh (fun e s=>.inr ()=x35∧Bx σ s i1 39 (Expr.cl a0)∧eP e 1 i1∧Pre σ s) ?_ ?_
  ·refine qn (qk (qe (w_x TT ?_)));refine qg ?_;obtain⟨x37,h38,h36⟩:=qb h36;refine qh (fun e s=>∃v39,v39=x37∧Bx σ s i1 39 (Expr.cl a0)∧eP e 1 i1∧eI e 83 a0.kind∧eB e 84 v39∧Pre σ s) ?_ ?_
   ·rcases qj h38 with⟨hb40,h38⟩|⟨hb40,h38⟩
    ·refine xt hb40 (qm ?_);obtain rfl:=qc h38;exact qf ⟨_,rfl,X1,E1,(xv TT),(xv TT),hP⟩
    ·refine xf hb40 (w_x TT ?_);obtain rfl:=qc h38;exact qf ⟨_,rfl,X1,E1,(xv TT),(xv TT),hP⟩
   rintro e s ⟨v39,rfl,X1,E1,E83,E84,hP⟩
   (try dsimp only at h36);rcases qj h36 with⟨hb41,h36⟩|⟨hb41,h36⟩
   ·refine xt (cj2 E84 hb41) (qe ?_);obtain⟨y42,h43,h36⟩:=qb h36;refine w_x (cj3 E1 X1.get TT) ?_;refine S1 _ _ _ _ h43 _ _ ?_;refine w_y (cj3 E1 X1.get TT) ?_;refine qg (qo (qx ?_));obtain rfl:=qc h36;refine qO ?_;(try dsimp only at h);obtain rfl:=qc h;exact qq (fun _=>rfl) (xr (rs:= #[.tmp 2]) TT) hP (.refl _) (.v _) hK
   ·refine xf (cj2 E84 hb41) (qe (w_x (cj2 E83 TT) ?_));refine qg ?_;rcases qj h36 with⟨hb44,h36⟩|⟨hb44,h36⟩
    ·refine xt hb44 ?_;obtain⟨y45,h46,h36⟩:=qb h36;obtain⟨w49,h50,h36⟩:=qb h36;refine qh (fun e s=>eB e 2 (y45&&w49)∧Pre σ s) ?_ ?_
     ·cases hb51:y45
      ·replace h50:=zx (by simp only[hb51,Bool.or_true,Bool.true_or,Bool.or_false,Bool.false_or,Bool.and_true,Bool.true_and,Bool.and_false,Bool.false_and,Bool.not_true,Bool.not_false,cond_true,cond_false]) h50;obtain rfl:=qc h50;have q11:=cj4 E1 X1.get hb51 TT;refine w_x q11 ?_;refine S1 _ _ _ _ h46 _ _ ?_;refine w_y q11 ?_;exact qf ⟨(xv q11),hP⟩
      ·replace h50:=qI (by simp only[hb51,Bool.or_true,Bool.true_or,Bool.or_false,Bool.false_or,Bool.and_true,Bool.true_and,Bool.and_false,Bool.false_and,Bool.not_true,Bool.not_false,cond_true,cond_false]) h50;obtain⟨y47,h48,h50⟩:=qb h50;obtain rfl:=qc h50;have q12:=cj4 E1 X1.get hb51 TT;refine w_x q12 ?_;refine S1 _ _ _ _ h46 _ _ ?_;refine w_y q12 ?_;refine S1 _ _ _ _ h48 _ _ ?_;refine w_y q12 ?_;exact qf ⟨(xv q12),hP⟩
     rintro e s ⟨E2,hP⟩
     refine qo (qx ?_);obtain rfl:=qc h36;refine qO ?_;(try dsimp only at h);obtain rfl:=qc h;exact qq (fun _=>rfl) (xr (rs:= #[.tmp 2]) (cj2 E2 TT)) hP (.refl _) (.v _) hK
    ·refine xf hb44 (qk (qe (w_x (cj2 E83 TT) ?_)));refine qg ?_;obtain⟨x52,h53,h36⟩:=qb h36;refine qh (fun e s=>∃v54,v54=x52∧Bx σ s i1 39 (Expr.cl a0)∧eP e 1 i1∧eB e 100 v54∧Pre σ s) ?_ ?_
     ·rcases qj h53 with⟨hb55,h53⟩|⟨hb55,h53⟩
      ·refine xt hb55 (qm ?_);obtain rfl:=qc h53;exact qf ⟨_,rfl,X1,E1,(xv TT),hP⟩
      ·refine xf hb55 (w_x (cj2 E83 TT) ?_);obtain rfl:=qc h53;exact qf ⟨_,rfl,X1,E1,(xv (cj2 E83 TT)),hP⟩
     rintro e s ⟨v54,rfl,X1,E1,E100,hP⟩
     (try dsimp only at h36);rcases qj h36 with⟨hb56,h36⟩|⟨hb56,h36⟩
     ·refine xt (cj2 E100 hb56) (qe ?_);obtain⟨y57,h58,h36⟩:=qb h36;refine w_x (cj3 E1 X1.get TT) ?_;refine S1 _ _ _ _ h58 _ _ ?_;refine w_y (cj3 E1 X1.get TT) ?_;refine qg (qo (qx ?_));obtain rfl:=qc h36;refine qO ?_;(try dsimp only at h);obtain rfl:=qc h;exact qq (fun _=>rfl) (xr (rs:= #[.tmp 2]) TT) hP (.refl _) (.v _) hK
     ·refine xf (cj2 E100 hb56) (qm (zc ?_));obtain rfl:=qc h36;exact qf ⟨rfl,X1,E1,hP⟩
  rintro e s ⟨rfl,X1,E1,hP⟩
  (try dsimp only at h);refine qh (fun e s=>eB e 2 ((decide (a0.kind=(7:Int)))&&(decide (a0.n=(0:Int))))∧Pre σ s) ?_ ?_
  ·cases hb59:(decide (a0.kind=(7:Int)))
   ·refine w_x (cj4 E1 X1.get hb59 TT) ?_;exact qf ⟨(xv (cj4 E1 X1.get hb59 TT)),hP⟩
   ·refine w_x (cj4 E1 X1.get hb59 TT) ?_;exact qf ⟨(xv (cj4 E1 X1.get hb59 TT)),hP⟩
  rintro e s ⟨E2,hP⟩
  refine qo ?_;obtain rfl:=qc h;exact qq (fun _=>rfl) (xr (rs:= #[.tmp 2]) (cj2 E2 TT)) hP (.refl _) (.v _) hK
noncomputable def QK (a0:Program)(f0:ByteArray→Option Bool)(f1:Int→Int→Int→Option Bool):Int→Option (Int⊕(Bool⊕Unit))
 | v116 =>
  if(decide (v116<((List.length a0.outputs:Nat):Int)))then
   ((qS a0.outputs v116).bind fun y122=>
   (f0 y122.name).bind fun y125=>
   (if(!y125)then
    some false
   else
    (f0 y122.flow).bind fun y127=>
    some (!y127)).bind fun w129=>
   (if((!y125)||w129)then
    some false
   else
    (f1 y122.deadline (1:Int) (1000:Int)).bind fun y131=>
    some (!y131)).bind fun w133=>
   if(((!y125)||w129)||w133)then
    some (.inl false)
   else
    some (.inr ()):Option (Bool⊕Unit)).bind fun x=>match x with
   | .inl r=>some (.inr (.inl r))
   | .inr _ =>
    some (.inl (IntKind.i64.wrap (v116+(1:Int))))
  else
   some (.inr (.inr ()))
noncomputable def QL (a0:Program)(f0:ByteArray→Option Bool)(f3:Expr→Int→Option Int)(f5:Expr→Option Bool)(f2:Expr→Int→Option Int):Int→Option (Int⊕(Bool⊕Unit))
 | v85 =>
  if(decide (v85<((List.length a0.flows:Nat):Int)))then
   ((qS a0.flows v85).bind fun y91=>
   (f0 y91.name).bind fun y94=>
   (if(!y94)then
    some false
   else
    (f2 y91.e (100:Int)).bind fun y96=>
    some (decide ((100:Int)<y96))).bind fun w98=>
   (if((!y94)||w98)then
    some false
   else
    (f3 y91.e (30:Int)).bind fun y100=>
    some (decide ((20:Int)<y100))).bind fun w102=>
   (if(((!y94)||w98)||w102)then
    some false
   else
    (f5 y91.e).bind fun y104=>
    some (!y104)).bind fun w106=>
   if((((!y94)||w98)||w102)||w106)then
    some (.inl false)
   else
    some (.inr ()):Option (Bool⊕Unit)).bind fun x=>match x with
   | .inl r=>some (.inr (.inl r))
   | .inr _ =>
    some (.inl (IntKind.i64.wrap (v85+(1:Int))))
  else
   some (.inr (.inr ()))
noncomputable def QM (a0:Program)(f0:ByteArray→Option Bool)(f1:Int→Int→Int→Option Bool):Int→Option (Int⊕(Bool⊕Unit))
 | v59 =>
  if(decide (v59<((List.length a0.inputs:Nat):Int)))then
   ((qS a0.inputs v59).bind fun y65=>
   (f0 y65.name).bind fun y68=>
   (if(!y68)then
    some false
   else
    (f1 y65.period (1:Int) (1000:Int)).bind fun y70=>
    some (!y70)).bind fun w72=>
   (if((!y68)||w72)then
    some false
   else
    (f1 y65.phase (0:Int) (1000:Int)).bind fun y74=>
    some (!y74)).bind fun w76=>
   if(((!y68)||w72)||w76)then
    some (.inl false)
   else
    some (.inr ()):Option (Bool⊕Unit)).bind fun x=>match x with
   | .inl r=>some (.inr (.inl r))
   | .inr _ =>
    some (.inl (IntKind.i64.wrap (v59+(1:Int))))
  else
   some (.inr (.inr ()))
noncomputable def QN (y10:Node)(f0:ByteArray→Option Bool):Int→Option (Int⊕(Bool⊕Unit))
 | v41 =>
  if(decide (v41<((List.length y10.params:Nat):Int)))then
   ((qS y10.params v41).bind fun y47=>
   (f0 y47).bind fun y49=>
   if(!y49)then
    some (.inl false)
   else
    some (.inr ()):Option (Bool⊕Unit)).bind fun x=>match x with
   | .inl r=>some (.inr (.inl r))
   | .inr _ =>
    some (.inl (IntKind.i64.wrap (v41+(1:Int))))
  else
   some (.inr (.inr ()))
noncomputable def QO (a0:Program)(f0:ByteArray→Option Bool)(f4:Expr→Option Bool)(f3:Expr→Int→Option Int)(f2:Expr→Int→Option Int)(f1:Int→Int→Int→Option Bool):Int→Option (Int⊕(Bool⊕Unit))
 | v4 =>
  if(decide (v4<((List.length a0.nodes:Nat):Int)))then
   ((qS a0.nodes v4).bind fun y10=>
   (f0 y10.name).bind fun y13=>
   (if(((!y13)||(decide (((List.length y10.params:Nat):Int)<(1:Int))))||(decide ((6:Int)<((List.length y10.params:Nat):Int))))then
    some false
   else
    (f1 y10.budget (1:Int) (1000:Int)).bind fun y15=>
    some (!y15)).bind fun w17=>
   (if((((!y13)||(decide (((List.length y10.params:Nat):Int)<(1:Int))))||(decide ((6:Int)<((List.length y10.params:Nat):Int))))||w17)then
    some false
   else
    (f2 y10.body (100:Int)).bind fun y19=>
    some (decide ((100:Int)<y19))).bind fun w21=>
   (if(((((!y13)||(decide (((List.length y10.params:Nat):Int)<(1:Int))))||(decide ((6:Int)<((List.length y10.params:Nat):Int))))||w17)||w21)then
    some false
   else
    (f3 y10.body (30:Int)).bind fun y23=>
    some (decide ((20:Int)<y23))).bind fun w25=>
   (if((((((!y13)||(decide (((List.length y10.params:Nat):Int)<(1:Int))))||(decide ((6:Int)<((List.length y10.params:Nat):Int))))||w17)||w21)||w25)then
    some false
   else
    (f4 y10.body).bind fun y27=>
    some (!y27)).bind fun w29=>
   if(((((((!y13)||(decide (((List.length y10.params:Nat):Int)<(1:Int))))||(decide ((6:Int)<((List.length y10.params:Nat):Int))))||w17)||w21)||w25)||w29)then
    some (.inl false)
   else
    (qA (QN y10 f0) (0:Int):Option (Bool⊕Unit)).bind fun x=>match x with
    | .inl r=>some (.inl r)
    | .inr _ =>
     some (.inr ()):Option (Bool⊕Unit)).bind fun x=>match x with
   | .inl r=>some (.inr (.inl r))
   | .inr _ =>
    some (.inl (IntKind.i64.wrap (v4+(1:Int))))
  else
   some (.inr (.inr ()))
noncomputable def B_ref04_Right (f0:ByteArray→Option Bool)(f1:Int→Int→Int→Option Bool)(f2:Expr→Int→Option Int)(f3:Expr→Int→Option Int)(f4:Expr→Option Bool)(f5:Expr→Option Bool)(a0:Program):Option Bool:=
 if(decide ((40:Int)<(IntKind.i64.wrap ((IntKind.i64.wrap ((IntKind.i64.wrap (((List.length a0.nodes:Nat):Int)+((List.length a0.inputs:Nat):Int)))+((List.length a0.flows:Nat):Int)))+((List.length a0.outputs:Nat):Int)))))then
  some false
 else
  (qA (QO a0 f0 f4 f3 f2 f1) (0:Int):Option (Bool⊕Unit)).bind fun x=>match x with
  | .inl r=>some r
  | .inr _ =>
   (qA (QM a0 f0 f1) (0:Int):Option (Bool⊕Unit)).bind fun x=>match x with
   | .inl r=>some r
   | .inr _ =>
    (qA (QL a0 f0 f3 f5 f2) (0:Int):Option (Bool⊕Unit)).bind fun x=>match x with
    | .inl r=>some r
    | .inr _ =>
     (qA (QK a0 f0 f1) (0:Int):Option (Bool⊕Unit)).bind fun x=>match x with
     | .inl r=>some r
     | .inr _ =>
      some true
abbrev C10_0 (z0 z1:Store)(z2:Nat)(z3:Program):Prop:=Bx z0 z1 z2 27 (Program.cl z3)
theorem W_ref04_Right (f0 f1 f2 f3 f4 f5)(S0:Sat_ref03_Right f0)(S1:Sat_ref04_number f1)(S2:Sat_ref04_Size f2)(S3:Sat_ref04_Depth f3)(S4:Sat_ref04_Body f4)(S5:Sat_ref04_Expr f5):Sat_ref04_Right (B_ref04_Right f0 f1 f2 f3 f4 f5):=by
 intro a0 r h σ K hK;refine zB Try.func10 rfl rfl (by kernel_rfl) ?_;unfold B_ref04_Right at h;have hP:=Pre.refl σ;have E0:qu [(.ag (Program.cl a0))] 0=(.ag (Program.cl a0)):=rfl;have TT:=cj2 Expr.rlen (Ya Flow.cle Input.cle Node.cle Output.cle Program.cle T_2 T_22 T_23 T_24 T_25 T_27 T_3 T_37 T_39 T_41 T_65 T_9 T_96 T_97 T_99);refine qh (fun e s=>∃i1:Nat,C10_0 σ s i1 a0∧eP e 1 i1∧Pre σ s) ?_ ?_
 ·refine w_x (cj2 E0 TT) ?_;exact qf ⟨σ.length,(Bx.new hP _ _),(xv (cj2 E0 TT)),(hP.app _)⟩
 rintro e s ⟨i1,X1,E1,hP⟩
 refine qk (qe (w_x (cj3 E1 X1.get TT) ?_));refine qg (qe ?_);rcases qj h with⟨hb1,h⟩|⟨hb1,h⟩
 ·refine xt hb1 (qe (w_x Expr.rlen ?_));refine qg (qo (ze ?_));obtain rfl:=qc h;exact qq (fun _=>rfl) (xr (rs:= #[.tmp 2]) TT) hP (.refl _) (.v _) hK
 ·refine xf hb1 (qm (qg (qk (qe (w_x Expr.rlen ?_)))));refine qg ?_;obtain⟨x2,h3,h⟩:=qb h;refine qh (fun e s=>.inr ()=x2∧C10_0 σ s i1 a0∧eP e 1 i1∧Pre σ s) ?_ ?_
  ·refine qn (qX h3 (fun v e s=>∃v4,v4=v∧C10_0 σ s i1 a0∧eP e 1 i1∧eI e 3 v4∧Pre σ s) ⟨_,WkE.refl _,_,rfl,X1,E1,(xv TT),hP⟩ ?_)
   rintro v x5 e s hf6 ⟨v4,rfl,X1,E1,E3,hP⟩
   unfold QO at hf6;(try dsimp only at hf6);refine qk (qe (w_x (cj4 E1 E3 X1.get TT) ?_));refine qg (qe ?_);rcases qj hf6 with⟨hb7,hf6⟩|⟨hb7,hf6⟩
   ·refine xt hb7 (qm (qg ?_));obtain⟨x8,h9,hf6⟩:=qb hf6;refine qh (fun e s=>.inr ()=x8∧C10_0 σ s i1 a0∧eP e 1 i1∧eI e 3 v4∧Pre σ s) ?_ ?_
    ·refine qn ?_;obtain⟨y10,h11,h9⟩:=qb h9;refine qh (fun e s=>∃i4:Nat,C10_0 σ s i1 a0∧Bx σ s i4 99 (Node.cl y10)∧eP e 1 i1∧eI e 3 v4∧eP e 4 i4∧Pre σ s) ?_ ?_
     ·have R12:=zw (f:=Node.cl) (qp h11).2;have q1:=cj6 E1 E3 X1.g3 R12 (qp h11).1 TT;refine w_x q1 ?_;exact qf ⟨s.length,(X1.app _),(Bx.new hP _ _),E1,E3,(xv q1),(hP.app _)⟩
     rintro e s ⟨i4,X1,X4,E1,E3,E4,hP⟩
     refine qk ?_;obtain⟨y13,h14,h9⟩:=qb h9;obtain⟨w17,h18,h9⟩:=qb h9;obtain⟨w21,h22,h9⟩:=qb h9;obtain⟨w25,h26,h9⟩:=qb h9;obtain⟨w29,h30,h9⟩:=qb h9;refine qh (fun e s=>C10_0 σ s i1 a0∧Bx σ s i4 99 (Node.cl y10)∧eP e 1 i1∧eI e 3 v4∧eP e 4 i4∧eB e 79 (((((((!y13)||(decide (((List.length y10.params:Nat):Int)<(1:Int))))||(decide ((6:Int)<((List.length y10.params:Nat):Int))))||w17)||w21)||w25)||w29)∧Pre σ s) ?_ ?_
     ·cases hb31:(!y13)
      ·cases hb32:(decide (((List.length y10.params:Nat):Int)<(1:Int)))
       ·cases hb33:(decide ((6:Int)<((List.length y10.params:Nat):Int)))
        ·replace h18:=zx (by simp only[hb31,hb32,hb33,Bool.or_true,Bool.true_or,Bool.or_false,Bool.false_or,Bool.and_true,Bool.true_and,Bool.and_false,Bool.false_and,Bool.not_true,Bool.not_false,cond_true,cond_false]) h18;obtain⟨y15,h16,h18⟩:=qb h18;obtain rfl:=qc h18;cases hb34:(!y15)
         ·replace h22:=zx (by simp only[hb31,hb32,hb33,hb34,Bool.or_true,Bool.true_or,Bool.or_false,Bool.false_or,Bool.and_true,Bool.true_and,Bool.and_false,Bool.false_and,Bool.not_true,Bool.not_false,cond_true,cond_false]) h22;obtain⟨y19,h20,h22⟩:=qb h22;obtain rfl:=qc h22;cases hb35:(decide ((100:Int)<y19))
          ·replace h26:=zx (by simp only[hb31,hb32,hb33,hb34,hb35,Bool.or_true,Bool.true_or,Bool.or_false,Bool.false_or,Bool.and_true,Bool.true_and,Bool.and_false,Bool.false_and,Bool.not_true,Bool.not_false,cond_true,cond_false]) h26;obtain⟨y23,h24,h26⟩:=qb h26;obtain rfl:=qc h26;cases hb36:(decide ((20:Int)<y23))
           ·replace h30:=zx (by simp only[hb31,hb32,hb33,hb34,hb35,hb36,Bool.or_true,Bool.true_or,Bool.or_false,Bool.false_or,Bool.and_true,Bool.true_and,Bool.and_false,Bool.false_and,Bool.not_true,Bool.not_false,cond_true,cond_false]) h30;obtain⟨y27,h28,h30⟩:=qb h30;obtain rfl:=qc h30;have q2:=cj9 E4 X4.get hb31 hb32 hb33 hb34 hb35 hb36 TT;refine w_x q2 ?_;refine S0 _ _ h14 _ _ ?_;refine w_y q2 ?_;refine S1 _ _ _ _ h16 _ _ ?_;refine w_y q2 ?_;refine S2 _ _ _ h20 _ _ ?_;refine w_y q2 ?_;refine S3 _ _ _ h24 _ _ ?_;refine w_y q2 ?_;refine S4 _ _ h28 _ _ ?_;refine w_y q2 ?_;exact qf ⟨X1,X4,E1,E3,E4,(xv q2),hP⟩
           ·replace h30:=qI (by simp only[hb31,hb32,hb33,hb34,hb35,hb36,Bool.or_true,Bool.true_or,Bool.or_false,Bool.false_or,Bool.and_true,Bool.true_and,Bool.and_false,Bool.false_and,Bool.not_true,Bool.not_false,cond_true,cond_false]) h30;obtain rfl:=qc h30;have q3:=cj9 E4 X4.get hb31 hb32 hb33 hb34 hb35 hb36 TT;refine w_x q3 ?_;refine S0 _ _ h14 _ _ ?_;refine w_y q3 ?_;refine S1 _ _ _ _ h16 _ _ ?_;refine w_y q3 ?_;refine S2 _ _ _ h20 _ _ ?_;refine w_y q3 ?_;refine S3 _ _ _ h24 _ _ ?_;refine w_y q3 ?_;exact qf ⟨X1,X4,E1,E3,E4,(xv q3),hP⟩
          ·replace h26:=qI (by simp only[hb31,hb32,hb33,hb34,hb35,Bool.or_true,Bool.true_or,Bool.or_false,Bool.false_or,Bool.and_true,Bool.true_and,Bool.and_false,Bool.false_and,Bool.not_true,Bool.not_false,cond_true,cond_false]) h26;obtain rfl:=qc h26;replace h30:=qI (by simp only[hb31,hb32,hb33,hb34,hb35,Bool.or_true,Bool.true_or,Bool.or_false,Bool.false_or,Bool.and_true,Bool.true_and,Bool.and_false,Bool.false_and,Bool.not_true,Bool.not_false,cond_true,cond_false]) h30;obtain rfl:=qc h30;have q4:=cj8 E4 X4.get hb31 hb32 hb33 hb34 hb35 TT;refine w_x q4 ?_;refine S0 _ _ h14 _ _ ?_;refine w_y q4 ?_;refine S1 _ _ _ _ h16 _ _ ?_;refine w_y q4 ?_;refine S2 _ _ _ h20 _ _ ?_;refine w_y q4 ?_;exact qf ⟨X1,X4,E1,E3,E4,(xv q4),hP⟩
         ·replace h22:=qI (by simp only[hb31,hb32,hb33,hb34,Bool.or_true,Bool.true_or,Bool.or_false,Bool.false_or,Bool.and_true,Bool.true_and,Bool.and_false,Bool.false_and,Bool.not_true,Bool.not_false,cond_true,cond_false]) h22;obtain rfl:=qc h22;replace h26:=qI (by simp only[hb31,hb32,hb33,hb34,Bool.or_true,Bool.true_or,Bool.or_false,Bool.false_or,Bool.and_true,Bool.true_and,Bool.and_false,Bool.false_and,Bool.not_true,Bool.not_false,cond_true,cond_false]) h26;obtain rfl:=qc h26;replace h30:=qI (by simp only[hb31,hb32,hb33,hb34,Bool.or_true,Bool.true_or,Bool.or_false,Bool.false_or,Bool.and_true,Bool.true_and,Bool.and_false,Bool.false_and,Bool.not_true,Bool.not_false,cond_true,cond_false]) h30;obtain rfl:=qc h30;have q5:=cj7 E4 X4.get hb31 hb32 hb33 hb34 TT;refine w_x q5 ?_;refine S0 _ _ h14 _ _ ?_;refine w_y q5 ?_;refine S1 _ _ _ _ h16 _ _ ?_;refine w_y q5 ?_;exact qf ⟨X1,X4,E1,E3,E4,(xv q5),hP⟩
        ·replace h18:=qI (by simp only[hb31,hb32,hb33,Bool.or_true,Bool.true_or,Bool.or_false,Bool.false_or,Bool.and_true,Bool.true_and,Bool.and_false,Bool.false_and,Bool.not_true,Bool.not_false,cond_true,cond_false]) h18;obtain rfl:=qc h18;replace h22:=qI (by simp only[hb31,hb32,hb33,Bool.or_true,Bool.true_or,Bool.or_false,Bool.false_or,Bool.and_true,Bool.true_and,Bool.and_false,Bool.false_and,Bool.not_true,Bool.not_false,cond_true,cond_false]) h22;obtain rfl:=qc h22;replace h26:=qI (by simp only[hb31,hb32,hb33,Bool.or_true,Bool.true_or,Bool.or_false,Bool.false_or,Bool.and_true,Bool.true_and,Bool.and_false,Bool.false_and,Bool.not_true,Bool.not_false,cond_true,cond_false]) h26;obtain rfl:=qc h26;replace h30:=qI (by simp only[hb31,hb32,hb33,Bool.or_true,Bool.true_or,Bool.or_false,Bool.false_or,Bool.and_true,Bool.true_and,Bool.and_false,Bool.false_and,Bool.not_true,Bool.not_false,cond_true,cond_false]) h30;obtain rfl:=qc h30;have q6:=cj6 E4 X4.get hb31 hb32 hb33 TT;refine w_x q6 ?_;refine S0 _ _ h14 _ _ ?_;refine w_y q6 ?_;exact qf ⟨X1,X4,E1,E3,E4,(xv q6),hP⟩
       ·replace h18:=qI (by simp only[hb31,hb32,Bool.or_true,Bool.true_or,Bool.or_false,Bool.false_or,Bool.and_true,Bool.true_and,Bool.and_false,Bool.false_and,Bool.not_true,Bool.not_false,cond_true,cond_false]) h18;obtain rfl:=qc h18;replace h22:=qI (by simp only[hb31,hb32,Bool.or_true,Bool.true_or,Bool.or_false,Bool.false_or,Bool.and_true,Bool.true_and,Bool.and_false,Bool.false_and,Bool.not_true,Bool.not_false,cond_true,cond_false]) h22;obtain rfl:=qc h22;replace h26:=qI (by simp only[hb31,hb32,Bool.or_true,Bool.true_or,Bool.or_false,Bool.false_or,Bool.and_true,Bool.true_and,Bool.and_false,Bool.false_and,Bool.not_true,Bool.not_false,cond_true,cond_false]) h26;obtain rfl:=qc h26;replace h30:=qI (by simp only[hb31,hb32,Bool.or_true,Bool.true_or,Bool.or_false,Bool.false_or,Bool.and_true,Bool.true_and,Bool.and_false,Bool.false_and,Bool.not_true,Bool.not_false,cond_true,cond_false]) h30;obtain rfl:=qc h30;have q7:=cj5 E4 X4.get hb31 hb32 TT;refine w_x q7 ?_;refine S0 _ _ h14 _ _ ?_;refine w_y q7 ?_;exact qf ⟨X1,X4,E1,E3,E4,(xv q7),hP⟩
      ·replace h18:=qI (by simp only[hb31,Bool.or_true,Bool.true_or,Bool.or_false,Bool.false_or,Bool.and_true,Bool.true_and,Bool.and_false,Bool.false_and,Bool.not_true,Bool.not_false,cond_true,cond_false]) h18;obtain rfl:=qc h18;replace h22:=qI (by simp only[hb31,Bool.or_true,Bool.true_or,Bool.or_false,Bool.false_or,Bool.and_true,Bool.true_and,Bool.and_false,Bool.false_and,Bool.not_true,Bool.not_false,cond_true,cond_false]) h22;obtain rfl:=qc h22;replace h26:=qI (by simp only[hb31,Bool.or_true,Bool.true_or,Bool.or_false,Bool.false_or,Bool.and_true,Bool.true_and,Bool.and_false,Bool.false_and,Bool.not_true,Bool.not_false,cond_true,cond_false]) h26;obtain rfl:=qc h26;replace h30:=qI (by simp only[hb31,Bool.or_true,Bool.true_or,Bool.or_false,Bool.false_or,Bool.and_true,Bool.true_and,Bool.and_false,Bool.false_and,Bool.not_true,Bool.not_false,cond_true,cond_false]) h30;obtain rfl:=qc h30;have q8:=cj4 E4 X4.get hb31 TT;refine w_x q8 ?_;refine S0 _ _ h14 _ _ ?_;refine w_y q8 ?_;exact qf ⟨X1,X4,E1,E3,E4,(xv q8),hP⟩
     rintro e s ⟨X1,X4,E1,E3,E4,E79,hP⟩
     refine qe ?_;rcases qj h9 with⟨hb37,h9⟩|⟨hb37,h9⟩
     ·refine xt (cj2 E79 hb37) (qe (w_x Expr.rlen ?_));refine qg (qo (ze (qx ?_)));obtain rfl:=qc h9;refine qO ?_;(try dsimp only at hf6);obtain rfl:=qc hf6;refine Zz rfl fun hr38=> ?_;obtain rfl:=hr38;refine qx (qO ?_);(try dsimp only at h);obtain rfl:=qc h;exact qq (fun _=>rfl) (xr (rs:= #[.tmp 2]) TT) hP (.refl _) (.v _) hK
     ·refine xf (cj2 E79 hb37) (qm (qg (qe (w_x Expr.rlen ?_))));refine qg ?_;obtain⟨x39,h40,h9⟩:=qb h9;refine QE (fun e s=>.inr ()=x39∧C10_0 σ s i1 a0∧eP e 1 i1∧eI e 3 v4∧Pre σ s) ?_ ?_
      ·refine qn (qX h40 (fun v e s=>∃v41,v41=v∧C10_0 σ s i1 a0∧Bx σ s i4 99 (Node.cl y10)∧eP e 1 i1∧eI e 3 v4∧eP e 4 i4∧eI e 5 v41∧Pre σ s) ⟨_,WkE.refl _,_,rfl,X1,X4,E1,E3,E4,(xv TT),hP⟩ ?_)
       rintro v x42 e s hf43 ⟨v41,rfl,X1,X4,E1,E3,E4,E5,hP⟩
       unfold QN at hf43;(try dsimp only at hf43);refine qk (qe (w_x (cj4 E4 E5 X4.get TT) ?_));refine qg (qe ?_);rcases qj hf43 with⟨hb44,hf43⟩|⟨hb44,hf43⟩
       ·refine xt hb44 (qm (qg ?_));obtain⟨x45,h46,hf43⟩:=qb hf43;refine qh (fun e s=>.inr ()=x45∧C10_0 σ s i1 a0∧Bx σ s i4 99 (Node.cl y10)∧eP e 1 i1∧eI e 3 v4∧eP e 4 i4∧eI e 5 v41∧Pre σ s) ?_ ?_
        ·refine qn (qe ?_);obtain⟨y47,h48,h46⟩:=qb h46;obtain⟨y49,h50,h46⟩:=qb h46;have R51:(List.map C_s y10.params)[(v41).toNat]? =some [(.v (.string y47))]:=zw (qp h48).2;have q9:=cj6 E4 E5 X4.get R51 (qp h48).1 TT;refine w_x q9 ?_;refine S0 _ _ h50 _ _ ?_;refine w_y q9 ?_;refine qg ?_;rcases qj h46 with⟨hb52,h46⟩|⟨hb52,h46⟩
         ·refine xt hb52 (qe (w_x Expr.rlen ?_));refine qg (qo (qx ?_));obtain rfl:=qc h46;refine qO ?_;(try dsimp only at hf43);obtain rfl:=qc hf43;refine Zz rfl fun hr53=> ?_;obtain rfl:=hr53;refine qx (ct_r ?_);(try dsimp only at h9);refine qx ?_;obtain rfl:=qc h9;refine qO ?_;(try dsimp only at hf6);obtain rfl:=qc hf6;refine Zz rfl fun hr54=> ?_;obtain rfl:=hr54;refine qx (qO ?_);(try dsimp only at h);obtain rfl:=qc h;exact qq (fun _=>rfl) (xr (rs:= #[.tmp 2]) TT) hP (.refl _) (.v _) hK
         ·refine xf hb52 (qm (zc ?_));obtain rfl:=qc h46;exact qf ⟨rfl,X1,X4,E1,E3,E4,E5,hP⟩
        rintro e s ⟨rfl,X1,X4,E1,E3,E4,E5,hP⟩
        (try dsimp only at hf43);refine w_x (cj2 E5 TT) ?_;obtain rfl:=qc hf43;exact zK rfl ⟨_,rfl,X1,X4,E1,E3,E4,(xv (cj2 E5 TT)),hP⟩
       ·refine xf hb44 (qz (qT ?_));obtain rfl:=qc hf43;refine zo rfl fun hr55=> ?_;obtain rfl:=hr55;exact qG (zr ⟨rfl,X1,E1,E3,hP⟩)
      rintro e s ⟨rfl,X1,E1,E3,hP⟩
      (try dsimp only at h9);refine zc ?_;obtain rfl:=qc h9;exact qf ⟨rfl,X1,E1,E3,hP⟩
    rintro e s ⟨rfl,X1,E1,E3,hP⟩
    (try dsimp only at hf6);refine w_x (cj2 E3 TT) ?_;obtain rfl:=qc hf6;exact zK rfl ⟨_,rfl,X1,E1,(xv (cj2 E3 TT)),hP⟩
   ·refine xf hb7 (qz (qT ?_));obtain rfl:=qc hf6;refine zo rfl fun hr56=> ?_;obtain rfl:=hr56;exact qG (qf ⟨rfl,X1,E1,hP⟩)
  rintro e s ⟨rfl,X1,E1,hP⟩
  (try dsimp only at h);refine qk (qe (w_x Expr.rlen ?_));refine qg ?_;obtain⟨x57,h58,h⟩:=qb h;refine qh (fun e s=>.inr ()=x57∧C10_0 σ s i1 a0∧eP e 1 i1∧Pre σ s) ?_ ?_
  ·refine qn (qX h58 (fun v e s=>∃v59,v59=v∧C10_0 σ s i1 a0∧eP e 1 i1∧eI e 6 v59∧Pre σ s) ⟨_,WkE.refl _,_,rfl,X1,E1,(xv TT),hP⟩ ?_)
   rintro v x60 e s hf61 ⟨v59,rfl,X1,E1,E6,hP⟩
   unfold QM at hf61;(try dsimp only at hf61);refine qk (qe (w_x (cj4 E1 E6 X1.get TT) ?_));refine qg (qe ?_);rcases qj hf61 with⟨hb62,hf61⟩|⟨hb62,hf61⟩
   ·refine xt hb62 (qm (qg ?_));obtain⟨x63,h64,hf61⟩:=qb hf61;refine qh (fun e s=>.inr ()=x63∧C10_0 σ s i1 a0∧eP e 1 i1∧eI e 6 v59∧Pre σ s) ?_ ?_
    ·refine qn ?_;obtain⟨y65,h66,h64⟩:=qb h64;refine qh (fun e s=>∃i7:Nat,C10_0 σ s i1 a0∧Bx σ s i7 96 (Input.cl y65)∧eP e 1 i1∧eI e 6 v59∧eP e 7 i7∧Pre σ s) ?_ ?_
     ·have R67:=zw (f:=Input.cl) (qp h66).2;have q10:=cj6 E1 E6 X1.g3 R67 (qp h66).1 TT;refine w_x q10 ?_;exact qf ⟨s.length,(X1.app _),(Bx.new hP _ _),E1,E6,(xv q10),(hP.app _)⟩
     rintro e s ⟨i7,X1,X7,E1,E6,E7,hP⟩
     obtain⟨y68,h69,h64⟩:=qb h64;obtain⟨w72,h73,h64⟩:=qb h64;obtain⟨w76,h77,h64⟩:=qb h64;refine qh (fun e s=>C10_0 σ s i1 a0∧eP e 1 i1∧eI e 6 v59∧eB e 121 (((!y68)||w72)||w76)∧Pre σ s) ?_ ?_
     ·cases hb78:(!y68)
      ·replace h73:=zx (by simp only[hb78,Bool.or_true,Bool.true_or,Bool.or_false,Bool.false_or,Bool.and_true,Bool.true_and,Bool.and_false,Bool.false_and,Bool.not_true,Bool.not_false,cond_true,cond_false]) h73;obtain⟨y70,h71,h73⟩:=qb h73;obtain rfl:=qc h73;cases hb79:(!y70)
       ·replace h77:=zx (by simp only[hb78,hb79,Bool.or_true,Bool.true_or,Bool.or_false,Bool.false_or,Bool.and_true,Bool.true_and,Bool.and_false,Bool.false_and,Bool.not_true,Bool.not_false,cond_true,cond_false]) h77;obtain⟨y74,h75,h77⟩:=qb h77;obtain rfl:=qc h77;have q11:=cj5 E7 X7.get hb78 hb79 TT;refine w_x q11 ?_;refine S0 _ _ h69 _ _ ?_;refine w_y q11 ?_;refine S1 _ _ _ _ h71 _ _ ?_;refine w_y q11 ?_;refine S1 _ _ _ _ h75 _ _ ?_;refine w_y q11 ?_;exact qf ⟨X1,E1,E6,(xv q11),hP⟩
       ·replace h77:=qI (by simp only[hb78,hb79,Bool.or_true,Bool.true_or,Bool.or_false,Bool.false_or,Bool.and_true,Bool.true_and,Bool.and_false,Bool.false_and,Bool.not_true,Bool.not_false,cond_true,cond_false]) h77;obtain rfl:=qc h77;have q12:=cj5 E7 X7.get hb78 hb79 TT;refine w_x q12 ?_;refine S0 _ _ h69 _ _ ?_;refine w_y q12 ?_;refine S1 _ _ _ _ h71 _ _ ?_;refine w_y q12 ?_;exact qf ⟨X1,E1,E6,(xv q12),hP⟩
      ·replace h73:=qI (by simp only[hb78,Bool.or_true,Bool.true_or,Bool.or_false,Bool.false_or,Bool.and_true,Bool.true_and,Bool.and_false,Bool.false_and,Bool.not_true,Bool.not_false,cond_true,cond_false]) h73;obtain rfl:=qc h73;replace h77:=qI (by simp only[hb78,Bool.or_true,Bool.true_or,Bool.or_false,Bool.false_or,Bool.and_true,Bool.true_and,Bool.and_false,Bool.false_and,Bool.not_true,Bool.not_false,cond_true,cond_false]) h77;obtain rfl:=qc h77;have q13:=cj4 E7 X7.get hb78 TT;refine w_x q13 ?_;refine S0 _ _ h69 _ _ ?_;refine w_y q13 ?_;exact qf ⟨X1,E1,E6,(xv q13),hP⟩
     rintro e s ⟨X1,E1,E6,E121,hP⟩
     rcases qj h64 with⟨hb80,h64⟩|⟨hb80,h64⟩
     ·refine xt (cj2 E121 hb80) (qe (w_x Expr.rlen ?_));refine qg (qo (qx ?_));obtain rfl:=qc h64;refine qO ?_;(try dsimp only at hf61);obtain rfl:=qc hf61;refine Zz rfl fun hr81=> ?_;obtain rfl:=hr81;refine qx (qO ?_);(try dsimp only at h);obtain rfl:=qc h;exact qq (fun _=>rfl) (xr (rs:= #[.tmp 2]) TT) hP (.refl _) (.v _) hK
     ·refine xf (cj2 E121 hb80) (qm (zc ?_));obtain rfl:=qc h64;exact qf ⟨rfl,X1,E1,E6,hP⟩
    rintro e s ⟨rfl,X1,E1,E6,hP⟩
    (try dsimp only at hf61);refine w_x (cj2 E6 TT) ?_;obtain rfl:=qc hf61;exact zK rfl ⟨_,rfl,X1,E1,(xv (cj2 E6 TT)),hP⟩
   ·refine xf hb62 (qz (qT ?_));obtain rfl:=qc hf61;refine zo rfl fun hr82=> ?_;obtain rfl:=hr82;exact qG (qf ⟨rfl,X1,E1,hP⟩)
  rintro e s ⟨rfl,X1,E1,hP⟩
  (try dsimp only at h);refine qk (qe (w_x Expr.rlen ?_));refine qg ?_;obtain⟨x83,h84,h⟩:=qb h;refine qh (fun e s=>.inr ()=x83∧C10_0 σ s i1 a0∧eP e 1 i1∧Pre σ s) ?_ ?_
  ·refine qn (qX h84 (fun v e s=>∃v85,v85=v∧C10_0 σ s i1 a0∧eP e 1 i1∧eI e 8 v85∧Pre σ s) ⟨_,WkE.refl _,_,rfl,X1,E1,(xv TT),hP⟩ ?_)
   rintro v x86 e s hf87 ⟨v85,rfl,X1,E1,E8,hP⟩
   unfold QL at hf87;(try dsimp only at hf87);refine qk (qe (w_x (cj4 E1 E8 X1.get TT) ?_));refine qg (qe ?_);rcases qj hf87 with⟨hb88,hf87⟩|⟨hb88,hf87⟩
   ·refine xt hb88 (qm (qg ?_));obtain⟨x89,h90,hf87⟩:=qb hf87;refine qh (fun e s=>.inr ()=x89∧C10_0 σ s i1 a0∧eP e 1 i1∧eI e 8 v85∧Pre σ s) ?_ ?_
    ·refine qn ?_;obtain⟨y91,h92,h90⟩:=qb h90;refine qh (fun e s=>∃i9:Nat,C10_0 σ s i1 a0∧Bx σ s i9 41 (Flow.cl y91)∧eP e 1 i1∧eI e 8 v85∧eP e 9 i9∧Pre σ s) ?_ ?_
     ·have R93:=zw (f:=Flow.cl) (qp h92).2;have q14:=cj6 E1 E8 X1.g3 R93 (qp h92).1 TT;refine w_x q14 ?_;exact qf ⟨s.length,(X1.app _),(Bx.new hP _ _),E1,E8,(xv q14),(hP.app _)⟩
     rintro e s ⟨i9,X1,X9,E1,E8,E9,hP⟩
     obtain⟨y94,h95,h90⟩:=qb h90;obtain⟨w98,h99,h90⟩:=qb h90;obtain⟨w102,h103,h90⟩:=qb h90;obtain⟨w106,h107,h90⟩:=qb h90;refine qh (fun e s=>C10_0 σ s i1 a0∧eP e 1 i1∧eI e 8 v85∧eB e 155 ((((!y94)||w98)||w102)||w106)∧Pre σ s) ?_ ?_
     ·cases hb108:(!y94)
      ·replace h99:=zx (by simp only[hb108,Bool.or_true,Bool.true_or,Bool.or_false,Bool.false_or,Bool.and_true,Bool.true_and,Bool.and_false,Bool.false_and,Bool.not_true,Bool.not_false,cond_true,cond_false]) h99;obtain⟨y96,h97,h99⟩:=qb h99;obtain rfl:=qc h99;cases hb109:(decide ((100:Int)<y96))
       ·replace h103:=zx (by simp only[hb108,hb109,Bool.or_true,Bool.true_or,Bool.or_false,Bool.false_or,Bool.and_true,Bool.true_and,Bool.and_false,Bool.false_and,Bool.not_true,Bool.not_false,cond_true,cond_false]) h103;obtain⟨y100,h101,h103⟩:=qb h103;obtain rfl:=qc h103;cases hb110:(decide ((20:Int)<y100))
        ·replace h107:=zx (by simp only[hb108,hb109,hb110,Bool.or_true,Bool.true_or,Bool.or_false,Bool.false_or,Bool.and_true,Bool.true_and,Bool.and_false,Bool.false_and,Bool.not_true,Bool.not_false,cond_true,cond_false]) h107;obtain⟨y104,h105,h107⟩:=qb h107;obtain rfl:=qc h107;have q15:=cj6 E9 X9.get hb108 hb109 hb110 TT;refine w_x q15 ?_;refine S0 _ _ h95 _ _ ?_;refine w_y q15 ?_;refine S2 _ _ _ h97 _ _ ?_;refine w_y q15 ?_;refine S3 _ _ _ h101 _ _ ?_;refine w_y q15 ?_;refine S5 _ _ h105 _ _ ?_;refine w_y q15 ?_;exact qf ⟨X1,E1,E8,(xv q15),hP⟩
        ·replace h107:=qI (by simp only[hb108,hb109,hb110,Bool.or_true,Bool.true_or,Bool.or_false,Bool.false_or,Bool.and_true,Bool.true_and,Bool.and_false,Bool.false_and,Bool.not_true,Bool.not_false,cond_true,cond_false]) h107;obtain rfl:=qc h107;have q16:=cj6 E9 X9.get hb108 hb109 hb110 TT;refine w_x q16 ?_;refine S0 _ _ h95 _ _ ?_;refine w_y q16 ?_;refine S2 _ _ _ h97 _ _ ?_;refine w_y q16 ?_;refine S3 _ _ _ h101 _ _ ?_;refine w_y q16 ?_;exact qf ⟨X1,E1,E8,(xv q16),hP⟩
       ·replace h103:=qI (by simp only[hb108,hb109,Bool.or_true,Bool.true_or,Bool.or_false,Bool.false_or,Bool.and_true,Bool.true_and,Bool.and_false,Bool.false_and,Bool.not_true,Bool.not_false,cond_true,cond_false]) h103;obtain rfl:=qc h103;replace h107:=qI (by simp only[hb108,hb109,Bool.or_true,Bool.true_or,Bool.or_false,Bool.false_or,Bool.and_true,Bool.true_and,Bool.and_false,Bool.false_and,Bool.not_true,Bool.not_false,cond_true,cond_false]) h107;obtain rfl:=qc h107;have q17:=cj5 E9 X9.get hb108 hb109 TT;refine w_x q17 ?_;refine S0 _ _ h95 _ _ ?_;refine w_y q17 ?_;refine S2 _ _ _ h97 _ _ ?_;refine w_y q17 ?_;exact qf ⟨X1,E1,E8,(xv q17),hP⟩
      ·replace h99:=qI (by simp only[hb108,Bool.or_true,Bool.true_or,Bool.or_false,Bool.false_or,Bool.and_true,Bool.true_and,Bool.and_false,Bool.false_and,Bool.not_true,Bool.not_false,cond_true,cond_false]) h99;obtain rfl:=qc h99;replace h103:=qI (by simp only[hb108,Bool.or_true,Bool.true_or,Bool.or_false,Bool.false_or,Bool.and_true,Bool.true_and,Bool.and_false,Bool.false_and,Bool.not_true,Bool.not_false,cond_true,cond_false]) h103;obtain rfl:=qc h103;replace h107:=qI (by simp only[hb108,Bool.or_true,Bool.true_or,Bool.or_false,Bool.false_or,Bool.and_true,Bool.true_and,Bool.and_false,Bool.false_and,Bool.not_true,Bool.not_false,cond_true,cond_false]) h107;obtain rfl:=qc h107;have q18:=cj4 E9 X9.get hb108 TT;refine w_x q18 ?_;refine S0 _ _ h95 _ _ ?_;refine w_y q18 ?_;exact qf ⟨X1,E1,E8,(xv q18),hP⟩
     rintro e s ⟨X1,E1,E8,E155,hP⟩
     rcases qj h90 with⟨hb111,h90⟩|⟨hb111,h90⟩
     ·refine xt (cj2 E155 hb111) (qe (w_x Expr.rlen ?_));refine qg (qo (qx ?_));obtain rfl:=qc h90;refine qO ?_;(try dsimp only at hf87);obtain rfl:=qc hf87;refine Zz rfl fun hr112=> ?_;obtain rfl:=hr112;refine qx (qO ?_);(try dsimp only at h);obtain rfl:=qc h;exact qq (fun _=>rfl) (xr (rs:= #[.tmp 2]) TT) hP (.refl _) (.v _) hK
     ·refine xf (cj2 E155 hb111) (qm (zc ?_));obtain rfl:=qc h90;exact qf ⟨rfl,X1,E1,E8,hP⟩
    rintro e s ⟨rfl,X1,E1,E8,hP⟩
    (try dsimp only at hf87);refine w_x (cj2 E8 TT) ?_;obtain rfl:=qc hf87;exact zK rfl ⟨_,rfl,X1,E1,(xv (cj2 E8 TT)),hP⟩
   ·refine xf hb88 (qz (qT ?_));obtain rfl:=qc hf87;refine zo rfl fun hr113=> ?_;obtain rfl:=hr113;exact qG (qf ⟨rfl,X1,E1,hP⟩)
  rintro e s ⟨rfl,X1,E1,hP⟩
  (try dsimp only at h);refine qk (qe (w_x Expr.rlen ?_));refine qg ?_;obtain⟨x114,h115,h⟩:=qb h;refine qh (fun e s=>.inr ()=x114∧Pre σ s) ?_ ?_
  ·refine qn (qX h115 (fun v e s=>∃v116,v116=v∧C10_0 σ s i1 a0∧eP e 1 i1∧eI e 10 v116∧Pre σ s) ⟨_,WkE.refl _,_,rfl,X1,E1,(xv TT),hP⟩ ?_)
   rintro v x117 e s hf118 ⟨v116,rfl,X1,E1,E10,hP⟩
   unfold QK at hf118;(try dsimp only at hf118);refine qk (qe (w_x (cj4 E1 E10 X1.get TT) ?_));refine qg (qe ?_);rcases qj hf118 with⟨hb119,hf118⟩|⟨hb119,hf118⟩
   ·refine xt hb119 (qm (qg ?_));obtain⟨x120,h121,hf118⟩:=qb hf118;refine qh (fun e s=>.inr ()=x120∧C10_0 σ s i1 a0∧eP e 1 i1∧eI e 10 v116∧Pre σ s) ?_ ?_
    ·refine qn ?_;obtain⟨y122,h123,h121⟩:=qb h121;refine qh (fun e s=>∃i11:Nat,C10_0 σ s i1 a0∧Bx σ s i11 65 (Output.cl y122)∧eP e 1 i1∧eI e 10 v116∧eP e 11 i11∧Pre σ s) ?_ ?_
     ·have R124:=zw (f:=Output.cl) (qp h123).2;have q19:=cj6 E1 E10 X1.g3 R124 (qp h123).1 TT;refine w_x q19 ?_;exact qf ⟨s.length,(X1.app _),(Bx.new hP _ _),E1,E10,(xv q19),(hP.app _)⟩
     rintro e s ⟨i11,X1,X11,E1,E10,E11,hP⟩
     obtain⟨y125,h126,h121⟩:=qb h121;obtain⟨w129,h130,h121⟩:=qb h121;obtain⟨w133,h134,h121⟩:=qb h121;refine qh (fun e s=>C10_0 σ s i1 a0∧eP e 1 i1∧eI e 10 v116∧eB e 183 (((!y125)||w129)||w133)∧Pre σ s) ?_ ?_
     ·cases hb135:(!y125)
      ·replace h130:=zx (by simp only[hb135,Bool.or_true,Bool.true_or,Bool.or_false,Bool.false_or,Bool.and_true,Bool.true_and,Bool.and_false,Bool.false_and,Bool.not_true,Bool.not_false,cond_true,cond_false]) h130;obtain⟨y127,h128,h130⟩:=qb h130;obtain rfl:=qc h130;cases hb136:(!y127)
       ·replace h134:=zx (by simp only[hb135,hb136,Bool.or_true,Bool.true_or,Bool.or_false,Bool.false_or,Bool.and_true,Bool.true_and,Bool.and_false,Bool.false_and,Bool.not_true,Bool.not_false,cond_true,cond_false]) h134;obtain⟨y131,h132,h134⟩:=qb h134;obtain rfl:=qc h134;have q20:=cj5 E11 X11.get hb135 hb136 TT;refine w_x q20 ?_;refine S0 _ _ h126 _ _ ?_;refine w_y q20 ?_;refine S0 _ _ h128 _ _ ?_;refine w_y q20 ?_;refine S1 _ _ _ _ h132 _ _ ?_;refine w_y q20 ?_;exact qf ⟨X1,E1,E10,(xv q20),hP⟩
       ·replace h134:=qI (by simp only[hb135,hb136,Bool.or_true,Bool.true_or,Bool.or_false,Bool.false_or,Bool.and_true,Bool.true_and,Bool.and_false,Bool.false_and,Bool.not_true,Bool.not_false,cond_true,cond_false]) h134;obtain rfl:=qc h134;have q21:=cj5 E11 X11.get hb135 hb136 TT;refine w_x q21 ?_;refine S0 _ _ h126 _ _ ?_;refine w_y q21 ?_;refine S0 _ _ h128 _ _ ?_;refine w_y q21 ?_;exact qf ⟨X1,E1,E10,(xv q21),hP⟩
      ·replace h130:=qI (by simp only[hb135,Bool.or_true,Bool.true_or,Bool.or_false,Bool.false_or,Bool.and_true,Bool.true_and,Bool.and_false,Bool.false_and,Bool.not_true,Bool.not_false,cond_true,cond_false]) h130;obtain rfl:=qc h130;replace h134:=qI (by simp only[hb135,Bool.or_true,Bool.true_or,Bool.or_false,Bool.false_or,Bool.and_true,Bool.true_and,Bool.and_false,Bool.false_and,Bool.not_true,Bool.not_false,cond_true,cond_false]) h134;obtain rfl:=qc h134;have q22:=cj4 E11 X11.get hb135 TT;refine w_x q22 ?_;refine S0 _ _ h126 _ _ ?_;refine w_y q22 ?_;exact qf ⟨X1,E1,E10,(xv q22),hP⟩
     rintro e s ⟨X1,E1,E10,E183,hP⟩
     rcases qj h121 with⟨hb137,h121⟩|⟨hb137,h121⟩
     ·refine xt (cj2 E183 hb137) (qe (w_x Expr.rlen ?_));refine qg (qo (qx ?_));obtain rfl:=qc h121;refine qO ?_;(try dsimp only at hf118);obtain rfl:=qc hf118;refine Zz rfl fun hr138=> ?_;obtain rfl:=hr138;refine qx (qO ?_);(try dsimp only at h);obtain rfl:=qc h;exact qq (fun _=>rfl) (xr (rs:= #[.tmp 2]) TT) hP (.refl _) (.v _) hK
     ·refine xf (cj2 E183 hb137) (qm (zc ?_));obtain rfl:=qc h121;exact qf ⟨rfl,X1,E1,E10,hP⟩
    rintro e s ⟨rfl,X1,E1,E10,hP⟩
    (try dsimp only at hf118);refine w_x (cj2 E10 TT) ?_;obtain rfl:=qc hf118;exact zK rfl ⟨_,rfl,X1,E1,(xv (cj2 E10 TT)),hP⟩
   ·refine xf hb119 (qz (qT ?_));obtain rfl:=qc hf118;refine zo rfl fun hr139=> ?_;obtain rfl:=hr139;exact qG (qf ⟨rfl,hP⟩)
  rintro e s ⟨rfl,hP⟩
  (try dsimp only at h);refine qe (w_x Expr.rlen ?_);refine qg (qo ?_);obtain rfl:=qc h;exact qq (fun _=>rfl) (xr (rs:= #[.tmp 2]) TT) hP (.refl _) (.v _) hK
end Go.Proofs.Ytohmmfimedgccaa.E
end
section
namespace Go.Proofs.Ytohmmfimedgccaa.E
set_option linter.unusedVariables false
set_option linter.unusedSimpArgs false
set_option maxRecDepth 10000
noncomputable def Ym:=B_ref03_small
noncomputable def Yn:=B_ref03_digit
noncomputable def Jz:=B_lex_Words
noncomputable def YU:=B_ref03_Word Jz
noncomputable def Qu:=B_ref03_Right Ym Yn YU
theorem s_small:Sat_ref03_small Ym:=W_ref03_small
theorem s_digit:Sat_ref03_digit Yn:=W_ref03_digit
theorem s_words:Sat_lex_Words Jz:=W_lex_Words
theorem s_word:Sat_ref03_Word YU:=W_ref03_Word _ s_words
theorem s_right:Sat_ref03_Right Qu:=W_ref03_Right _ _ _ s_small s_digit s_word
theorem t_word (s:ByteArray):∃b,YU s=some b:=by
 unfold YU B_ref03_Word Jz B_lex_Words;simp only[Option.bind_some];obtain⟨r,h1,_⟩:=zn (f:=zY qE s) (fun i v=>v=(i:Int)) qE.length (fun _=>True) (fun i v hi hv=>by
  subst hv;unfold zY;simp only[dlt hi,if_true,zg hi,Option.bind_some];split
  ·exact .inr ⟨_,rfl,trivial⟩
  ·exact .inl ⟨_,rfl,Zm hi (by unfold maxLen;decide)⟩) (fun v hv=>by
  subst hv;unfold zY;simp only[dge,Bool.false_eq_true,if_false];exact⟨_,rfl,trivial⟩) (v0:=(0:Int)) rfl
 rw[h1];cases r<;>exact⟨_,rfl⟩
theorem Jd (s:ByteArray)(hs:s.size≤maxLen):∃b,Qu s=some b:=by
 unfold Qu B_ref03_Right;obtain⟨r,h1,_⟩:=zn (f:=zP s Yn Ym) (fun i v=>v=(i:Int)) s.size (fun _=>True) (fun i v hi hv=>by
  subst hv;unfold zP;obtain⟨b,hb⟩:=getB_at hi;simp only[dlt hi,if_true,hb,Option.bind_some,Ym,B_ref03_small,Yn,B_ref03_digit];have hw:=Zm hi hs
  repeat' split
  all_goals simp only[Option.bind_some]
  all_goals repeat' split
  all_goals first
   |exact .inr ⟨_,rfl,trivial⟩
   |exact .inl ⟨_,rfl,hw⟩) (fun v hv=>by
  subst hv;unfold zP;simp only[dge,Bool.false_eq_true,if_false];exact⟨_,rfl,trivial⟩) (v0:=(0:Int)) rfl
 obtain⟨w,hw⟩:=t_word s;rw[h1];cases r with
 |inl r=>exact⟨_,rfl⟩
 | inr _ =>
  simp only[Option.bind_some,hw];split<;>exact⟨_,rfl⟩
noncomputable def Zu:=B_ref04_number
theorem zzc:Sat_ref04_number Zu:=W_ref04_number
theorem Yt (n lo hi:Int):Zu n lo hi=some (decide (lo≤n)&&decide (n≤hi)):=rfl
mutual
def qN:Expr→Nat
 |⟨_,_,_,_,xs,_⟩=>1+zT xs
def zT:List Expr→Nat
 |[]=>0
 |e::l=>qN e+zT l
end
theorem qqe (e:Expr):qN e=1+zT e.args:=by cases e;rw[qN]
theorem qqw:∀(a b:List Expr),zT (a++b)=zT a+zT b
 |[],b=>by simp[zT]
 |e::l,b=>by simp[zT,qqw l b];omega
theorem zzo {l:List Expr}{i:Nat}(h:i<l.length):zT (l.take (i+1))=zT (l.take i)+qN l[i]:=by
 rw[List.take_succ_eq_append_getElem h,qqw];simp[zT]
def pSize (x:Expr×Int)(r:Int):Prop:=Sp_ref04_Size x.1 x.2 r∧(0≤x.2→1≤r∧r≤x.2+1∧(r≤x.2→r=qN x.1))
noncomputable def YA (e:Expr)(m:Int):Option Int:=pick pSize (e,m)
theorem s_size:Sat_ref04_Size YA:=fun _ _ _ h=>(QY h).1
theorem t_size (e:Expr):e.ok→∀m:Int,0≤m→m≤1000→∃r,YA e m=some r∧pSize (e,m) r:=by
 induction e using Expr.induct with
 | h e ih =>
  intro hok m hm hm2;refine ZH ?_;obtain⟨r,h1,h2⟩:=zn (f:=Zg e m YA) (fun i v=>v.2=(i:Int)∧1≤v.1∧v.1≤m+1∧(v.1≤m→v.1=1+zT (e.args.take i))) e.args.length (fun r=>1≤r∧r≤m+1∧(r≤m→r=1+zT e.args)) (fun i v hi hv=>by
   obtain⟨n,k⟩:=v;obtain⟨rfl,h2,h3,h4⟩:=hv;simp only at h2 h3 h4;unfold Zg;by_cases hn:n≤m
   ·have hmem:=List.getElem_mem hi;obtain⟨r,h5,_,h6⟩:=ih _ hmem (hok.arg _ hmem) (m - n) (by omega) (by omega);obtain⟨h7,h8,h9⟩:=h6 (by simp;omega);simp only at h7 h8 h9;simp only[dlt hi,decide_eq_true hn,Bool.and_self,if_true,zg hi,Option.bind_some];rw[zF (by omega) (by omega),h5];simp only[Option.bind_some];refine .inl ⟨_,rfl,Zm hi hok.len,?_⟩;simp only;rw[zF (by omega) (by omega)];refine⟨by omega,by omega,fun hle=> ?_⟩;rw[zzo hi];have:=h4 hn;have:=h9 (by omega);omega
   ·simp only[decide_eq_false hn,Bool.and_false,Bool.false_eq_true,if_false];exact .inr ⟨_,rfl,h2,h3,fun h=>absurd h hn⟩) (fun v hv=>by
   obtain⟨n,k⟩:=v;obtain⟨rfl,h2,h3,h4⟩:=hv;unfold Zg;simp only[dge,Bool.false_and,Bool.false_eq_true,if_false];rw[List.take_length]at h4;exact⟨_,rfl,h2,h3,h4⟩) (v0:=((1:Int),(0:Int))) ⟨rfl,by omega,by simp only;omega,fun _=>by simp[zT]⟩
  have hB:B_ref04_Size YA e m=some r:=by unfold B_ref04_Size;rw[h1];rfl
  exact⟨r,W_ref04_Size _ s_size _ _ _ hB,fun _=>⟨h2.1,h2.2.1,fun h=>by rw[h2.2.2 h,qqe];simp⟩⟩
def pDepth (x:Expr×Int)(r:Int):Prop:=Sp_ref04_Depth x.1 x.2 r∧0≤r∧r≤x.2
noncomputable def Ji (e:Expr)(m:Int):Option Int:=pick pDepth (e,m)
theorem s_depth:Sat_ref04_Depth Ji:=fun _ _ _ h=>(QY h).1
theorem t_depth (e:Expr):e.ok→∀m:Int,0≤m→m≤1000→∃r,Ji e m=some r∧pDepth (e,m) r:=by
 induction e using Expr.induct with
 | h e ih =>
  intro hok m hm hm2;refine ZH ?_;by_cases h0:m=0
  ·have hB:B_ref04_Depth Ji e m=some 0:=by unfold B_ref04_Depth;simp[h0]
   exact⟨0,W_ref04_Depth _ s_depth _ _ _ hB,by omega,by simp only;omega⟩
  ·obtain⟨r,h1,h2⟩:=zn (f:=QT e m Ji) (fun i v=>v.2=(i:Int)∧0≤v.1∧v.1≤m - 1) e.args.length (fun r=>0≤r∧r≤m - 1) (fun i v hi hv=>by
    obtain⟨n,k⟩:=v;obtain⟨rfl,h2,h3⟩:=hv;simp only at h2 h3;unfold QT;have hmem:=List.getElem_mem hi;obtain⟨r,h5,_,h6,h7⟩:=ih _ hmem (hok.arg _ hmem) (m - 1) (by omega) (by omega);simp only at h6 h7;simp only[dlt hi,if_true,zg hi,Option.bind_some];rw[zF (n:=m - 1) (by omega) (by omega),h5];simp only[Option.bind_some];refine .inl ⟨_,rfl,Zm hi hok.len,?_⟩;simp only;split<;>omega) (fun v hv=>by
    obtain⟨n,k⟩:=v;obtain⟨rfl,h2,h3⟩:=hv;unfold QT;simp only[dge,Bool.false_eq_true,if_false];exact⟨_,rfl,h2,h3⟩) (v0:=((0:Int),(0:Int))) ⟨rfl,by omega,by simp only;omega⟩
   have hB:B_ref04_Depth Ji e m=some (r+1):=by
    unfold B_ref04_Depth;rw[decide_eq_false h0,h1];simp only[Bool.false_eq_true,if_false,Option.bind_some];rw[zF (by omega) (by omega)]
   exact⟨r+1,W_ref04_Depth _ s_depth _ _ _ hB,by omega,by simp only;omega⟩
end Go.Proofs.Ytohmmfimedgccaa.E
end
section
namespace Go.Proofs.Ytohmmfimedgccaa.E
set_option maxRecDepth 100000
set_option maxHeartbeats 4000000
set_option linter.unusedVariables false
set_option linter.unusedSimpArgs false
noncomputable def B_syntax_reader_now (a0:qa):Option qd:=
 if(decide (((List.length a0.l:Nat):Int)≤a0.pos))then
  some (qd.mk (0:Int) (⟨#[]⟩:ByteArray) (0:Int) a0.end_)
 else
  (qS a0.l a0.pos).bind fun y2=>
  some y2
theorem W_syntax_reader_now:Sat_syntax_reader_now (B_syntax_reader_now):=by
 intro a0 r h σ K j0 q H0 hq hK;refine zB Try.func79 rfl rfl (by kernel_rfl) ?_;unfold B_syntax_reader_now at h;have hP:=Pre.refl σ;have jl0:=H0.lt;have E0:qu [(.pt j0 0)] 0=(.pt j0 0):=rfl;have TT:=cj11 Expr.rlen T_155 T_2 T_27 T_3 T_30 T_81 T_85 T_9 qd.cle qa.cle;refine qh (fun e s=>∃i2:Nat,Gx s j0 (AObj.box 155 (qa.cl q a0))∧Bx σ s i2 85 [(.v (.int .i64 (0:Int))),(.v (.string (⟨#[]⟩:ByteArray))),(.v (.int .i64 (0:Int))),(.v (.int .i64 (0:Int)))]∧eP e 0 j0∧eP e 2 i2∧j0≠i2∧Pre σ s) ?_ ?_
 ·refine w_x (cj2 H0.g3 TT) ?_;exact qf ⟨σ.length,(H0.app [some (AObj.box 85 [(.v (.int .i64 (0:Int))),(.v (.string (⟨#[]⟩:ByteArray))),(.v (.int .i64 (0:Int))),(.v (.int .i64 (0:Int)))])]),(Bx.new hP _ _),E0,(xv (cj2 H0.g3 TT)),(Nat.ne_of_lt H0.lt),(hP.app _)⟩
 rintro e s ⟨i2,X0,X2,E0,E2,N0__2,hP⟩
 refine qk (qe (w_xp (cj3 E0 X0.get TT) ?_));refine qg (qe ?_);rcases qj h with⟨hb1,h⟩|⟨hb1,h⟩
 ·refine xt hb1 (qh (fun e s=>Bx σ s i2 85 [(.v (.int .i64 (0:Int))),(.v (.string (⟨#[]⟩:ByteArray))),(.v (.int .i64 (0:Int))),(.v (.int .i64 a0.end_))]∧eP e 2 i2∧Pre σ s) ?_ ?_)
  ·refine w_x (cj7 E0 E2 X0.get X2.get (X0.nea (Ne.symm N0__2)) X2.samea TT) ?_;exact qf ⟨(X2.same _ _),E2,(hP.set X2.le (some (AObj.box 85 [(.v (.int .i64 (0:Int))),(.v (.string (⟨#[]⟩:ByteArray))),(.v (.int .i64 (0:Int))),(.v (.int .i64 a0.end_))])))⟩
  rintro e s ⟨X2,E2,hP⟩
  refine qo (ze ?_);obtain rfl:=qc h;exact qq (fun _=>rfl) (xr (rs:= #[.cell 2 85]) (cj3 X2.get E2 TT)) hP (.refl _) (.ag (CnL.cons (.v _) (CnL.cons (.v _) (CnL.cons (.v _) (CnL.cons (.v _) CnL.nil))))) hK
 ·refine xf hb1 (qm (qg ?_));obtain⟨y2,h3,h⟩:=qb h;refine qh (fun e s=>Bx σ s i2 85 (qd.cl y2)∧eP e 2 i2∧Pre σ s) ?_ ?_
  ·have R4:=zw (f:=qd.cl) (qp h3).2;have q1:=cj9 E0 E2 X0.get X2.get R4 (qp h3).1 (X0.nea (Ne.symm N0__2)) X2.samea TT;refine w_xd 8 0 q1 ?_;refine Qn q1 ?_;exact qf ⟨(X2.same _ _),E2,(hP.set X2.le (some (AObj.box 85 (qd.cl y2))))⟩
  rintro e s ⟨X2,E2,hP⟩
  refine qo ?_;obtain rfl:=qc h;exact qq (fun _=>rfl) (xr (rs:= #[.cell 2 85]) (cj3 X2.get E2 TT)) hP (.refl _) (.ag (CnL.cons (.v _) (CnL.cons (.v _) (CnL.cons (.v _) (CnL.cons (.v _) CnL.nil))))) hK
noncomputable def B_syntax_reader_fail (a0:qa)(a1:Int)(a2:Int):Option (Unit×qa):=
 (if(decide (a0.e=(0:Int)))then
  some (qa.mk a0.l a0.end_ a0.pos a1 a2 a0.p)
 else
  some a0:Option qa).bind fun v3=>
 some ((),v3)
abbrev zO (a0:qa)(a1:Int)(q:Qz):List PV:=[(.sl (List.map qd.cl a0.l)),(.v (.int .i64 a0.end_)),(.v (.int .i64 a0.pos)),(.v (.int .i64 a1)),(.v (.int .i64 a0.e)),q.c5,q.c6,q.c7,q.c8]
abbrev Qg (a0:qa)(a1:Int)(a2:Int)(q:Qz):List PV:=[(.sl (List.map qd.cl a0.l)),(.v (.int .i64 a0.end_)),(.v (.int .i64 a0.pos)),(.v (.int .i64 a1)),(.v (.int .i64 a2)),q.c5,q.c6,q.c7,q.c8]
theorem W_syntax_reader_fail:Sat_syntax_reader_fail (B_syntax_reader_fail):=by
 intro a0 a1 a2 r h σ K j0 q H0 hq hK;refine Qw (Q:=fun r s=>∃l:List (Nat×AObj),(l.map (·.1)).Nodup∧(∀x∈l,x.1<σ.length∧ClO σ.length x.2)∧Pq σ l K r s) Try.func80 rfl rfl (by kernel_rfl) (fun _ _ h=>h) ?_;unfold B_syntax_reader_fail at h;have hP:=Pre.refl σ;have jl0:=H0.lt;have hF:=Fr.refl σ [j0];have E0:qu [(.pt j0 0),(.v (.int .i64 a1)),(.v (.int .i64 a2))] 0=(.pt j0 0):=rfl;have E1:qu [(.pt j0 0),(.v (.int .i64 a1)),(.v (.int .i64 a2))] 1=(.v (.int .i64 a1)):=rfl;have E2:qu [(.pt j0 0),(.v (.int .i64 a1)),(.v (.int .i64 a2))] 2=(.v (.int .i64 a2)):=rfl;have TT:=cj7 Expr.rlen T_155 T_27 T_3 T_30 T_81 qa.cle;refine qe (w_x (cj3 E0 H0.get TT) ?_);refine qg ?_;obtain⟨x1,h2,h⟩:=qb h;refine QE (fun e s=>∃v3,∃τ:Store,v3=x1∧Gx s j0 (AObj.box 155 (qa.cl q v3))∧Fr σ τ [j0]∧Pre τ s) ?_ ?_
 ·rcases qj h2 with⟨hb4,h2⟩|⟨hb4,h2⟩
  ·refine xt hb4 ?_;have q1:=Gx.same H0 (AObj.box 155 (zO a0 a1 q));have q2:=Gx.same q1 (AObj.box 155 (Qg a0 a1 a2 q));refine w_x (cj7 E0 E1 E2 H0.get q1.get q2.get TT) ?_;obtain rfl:=qc h2;exact zr ⟨_,(List.set (List.set σ j0 (some (AObj.box 155 (zO a0 a1 q)))) j0 (some (AObj.box 155 (Qg a0 a1 a2 q)))),rfl,q2,((hF.set (by simp) (some (AObj.box 155 (zO a0 a1 q)))).set (by simp) (some (AObj.box 155 (Qg a0 a1 a2 q)))),((hP.setp (hF.lt jl0) (some (AObj.box 155 (zO a0 a1 q)))).setp ((hF.set (by simp) (some (AObj.box 155 (zO a0 a1 q)))).lt jl0) (some (AObj.box 155 (Qg a0 a1 a2 q))))⟩
  ·refine xf hb4 (qm ?_);obtain rfl:=qc h2;exact zr ⟨_,σ,rfl,H0,hF,hP⟩
 rintro e s ⟨v3,τ,rfl,X0,hF,hP⟩
 (try dsimp only at h);obtain rfl:=qc h;have hn5:(List.map (·.1) ([(j0,(AObj.box 155 (qa.cl q v3)))]:List (Nat×AObj))).Nodup:=(List.nodup_cons.2 ⟨(fun h=>by simp at h),List.nodup_nil⟩);have he6:=Fr.eq hF hn5 (List.forall_mem_cons.2 ⟨⟨jl0,(Gx.back X0 hP (hF.lt jl0))⟩,(fun x hx=>absurd hx (by simp))⟩);exact qU (fun h=>absurd rfl h) (xr (rs:= #[]) TT) ⟨_,hn5,(List.forall_mem_cons.2 ⟨⟨jl0,(ClO.bx (ClL.cons (Cn.cl (Cn.rows qd.cn _) _) (ClL.cons (Cn.cl (.v _) _) (ClL.cons (Cn.cl (.v _) _) (ClL.cons (Cn.cl (.v _) _) (ClL.cons (Cn.cl (.v _) _) (ClL.cons hq.c5 (ClL.cons hq.c6 (ClL.cons hq.c7 (ClL.cons hq.c8 ClL.nil))))))))))⟩,(fun x hx=>absurd hx (by simp))⟩),he6▸hP,_,(.refl _),(.tu CnL.nil),hK⟩
noncomputable def B_syntax_reader_take (f0:qa→Option qd)(a0:qa):Option (qd×qa):=
 (f0 a0).bind fun y1=>
 some (y1,(qa.mk a0.l a0.end_ (IntKind.i64.wrap (a0.pos+(1:Int))) a0.at_ a0.e a0.p))
abbrev Qf (a0:qa)(q:Qz):List PV:=[(.sl (List.map qd.cl a0.l)),(.v (.int .i64 a0.end_)),(.v (.int .i64 (IntKind.i64.wrap (a0.pos+(1:Int))))),(.v (.int .i64 a0.at_)),(.v (.int .i64 a0.e)),q.c5,q.c6,q.c7,q.c8]
abbrev C127_0 (z0:Store)(z1:Nat)(z2:qa)(z3:Qz):Prop:=Gx z0 z1 (AObj.box 155 [(.sl (List.map qd.cl z2.l)),(.v (.int .i64 z2.end_)),(.v (.int .i64 (IntKind.i64.wrap (z2.pos+(1:Int))))),(.v (.int .i64 z2.at_)),(.v (.int .i64 z2.e)),z3.c5,z3.c6,z3.c7,z3.c8])
abbrev C127_1 (z0 z1:Store)(z2:Nat):Prop:=Bx z0 z1 z2 85 [(.v (.int .i64 (0:Int))),(.v (.string (⟨#[]⟩:ByteArray))),(.v (.int .i64 (0:Int))),(.v (.int .i64 (0:Int)))]
theorem W_syntax_reader_take (f0)(S0:Sat_syntax_reader_now f0):Sat_syntax_reader_take (B_syntax_reader_take f0):=by
 intro a0 r h σ K j0 q H0 hq hK;refine Qw (Q:=fun r s=>∃l:List (Nat×AObj),(l.map (·.1)).Nodup∧(∀x∈l,x.1<σ.length∧ClO σ.length x.2)∧Pq σ l K r s) Try.func127 rfl rfl (by kernel_rfl) (fun _ _ h=>h) ?_;unfold B_syntax_reader_take at h;have hP:=Pre.refl σ;have jl0:=H0.lt;have hF:=Fr.refl σ [j0];have E0:qu [(.pt j0 0)] 0=(.pt j0 0):=rfl;have TT:=ZD Expr.rlen T_153 T_155 T_2 T_27 T_3 T_30 T_81 T_85 T_9 qd.cle qa.cle;refine qh (fun e s=>∃i2:Nat,∃τ:Store,Gx s j0 (AObj.box 155 (qa.cl q a0))∧C127_1 σ s i2∧eP e 0 j0∧eP e 2 i2∧j0≠i2∧Fr σ τ [j0]∧Pre τ s) ?_ ?_
 ·refine w_x (cj2 H0.g3 TT) ?_;exact qf ⟨σ.length,σ,(H0.app [some (AObj.box 85 [(.v (.int .i64 (0:Int))),(.v (.string (⟨#[]⟩:ByteArray))),(.v (.int .i64 (0:Int))),(.v (.int .i64 (0:Int)))])]),(Bx.newf hF hP 85 [(.v (.int .i64 (0:Int))),(.v (.string (⟨#[]⟩:ByteArray))),(.v (.int .i64 (0:Int))),(.v (.int .i64 (0:Int)))]),E0,(xv (cj2 H0.g3 TT)),(Nat.ne_of_lt H0.lt),hF,(hP.app _)⟩
 rintro e s ⟨i2,τ,X0,X2,E0,E2,N0__2,hF,hP⟩
 obtain⟨y1,h2,h⟩:=qb h;refine qh (fun e s=>∃i3:Nat,∃τ:Store,Gx s j0 (AObj.box 155 (qa.cl q a0))∧C127_1 σ s i2∧Bx σ s i3 85 (qd.cl y1)∧eP e 0 j0∧eP e 2 i2∧eP e 3 i3∧j0≠i2∧j0≠i3∧i2≠i3∧Fr σ τ [j0]∧Pre τ s) ?_ ?_
 ·have q1:=cj3 E0 X0.g3 TT;refine w_x q1 ?_;refine S0 _ _ h2 _ _ _ q X0 (hq.le (Fr.gle hF hP)) ?_;refine w_y q1 ?_;exact qf ⟨s.length,τ,(X0.app _),(X2.app _),(Bx.newf hF hP 85 (qd.cl y1)),E0,E2,(xv q1),N0__2,(Nat.ne_of_lt X0.lt),(Nat.ne_of_lt X2.lt),hF,(hP.app _)⟩
 rintro e s ⟨i3,τ,X0,X2,X3,E0,E2,E3,N0__2,N0__3,N2__3,hF,hP⟩
 refine qh (fun e s=>∃τ:Store,C127_0 s j0 a0 q∧C127_1 σ s i2∧Bx σ s i3 85 (qd.cl y1)∧eP e 2 i2∧eP e 3 i3∧j0≠i2∧j0≠i3∧i2≠i3∧Fr σ τ [j0]∧Pre τ s) ?_ ?_
 ·refine w_x (cj4 E0 X0.get X0.samea TT) ?_;exact qf ⟨(List.set τ j0 (some (AObj.box 155 (Qf a0 q)))),(Gx.same X0 _),(X2.ne N0__2 _),(X3.ne N0__3 _),E2,E3,N0__2,N0__3,N2__3,(hF.set (by simp) (some (AObj.box 155 (Qf a0 q)))),(hP.setp (hF.lt jl0) (some (AObj.box 155 (Qf a0 q))))⟩
 rintro e s ⟨τ,X0,X2,X3,E2,E3,N0__2,N0__3,N2__3,hF,hP⟩
 refine qh (fun e s=>∃τ:Store,C127_0 s j0 a0 q∧Bx σ s i2 85 (qd.cl y1)∧eP e 2 i2∧j0≠i2∧Fr σ τ [j0]∧Pre τ s) ?_ ?_
 ·refine w_x (cj7 E2 E3 X2.get X3.get X2.samea (X3.nea N2__3) TT) ?_;exact qf ⟨τ,(X0.ne (Ne.symm N0__2) _),(X2.same _ _),E2,N0__2,hF,(hP.set (hF.ge X2.le) (some (AObj.box 85 (qd.cl y1))))⟩
 rintro e s ⟨τ,X0,X2,E2,N0__2,hF,hP⟩
 refine qo ?_;obtain rfl:=qc h;have hn3:(List.map (·.1) ([(j0,(AObj.box 155 (Qf a0 q)))]:List (Nat×AObj))).Nodup:=(List.nodup_cons.2 ⟨(fun h=>by simp at h),List.nodup_nil⟩);have he4:=Fr.eq hF hn3 (List.forall_mem_cons.2 ⟨⟨jl0,(Gx.back X0 hP (hF.lt jl0))⟩,(fun x hx=>absurd hx (by simp))⟩);exact qU (fun _=>rfl) (xr (rs:= #[.cell 2 85]) (cj3 X2.get E2 TT)) ⟨_,hn3,(List.forall_mem_cons.2 ⟨⟨jl0,(ClO.bx (ClL.cons (Cn.cl (Cn.rows qd.cn _) _) (ClL.cons (Cn.cl (.v _) _) (ClL.cons (Cn.cl (.v _) _) (ClL.cons (Cn.cl (.v _) _) (ClL.cons (Cn.cl (.v _) _) (ClL.cons hq.c5 (ClL.cons hq.c6 (ClL.cons hq.c7 (ClL.cons hq.c8 ClL.nil))))))))))⟩,(fun x hx=>absurd hx (by simp))⟩),he4▸hP,_,(.refl _),(.ag (CnL.cons (.v _) (CnL.cons (.v _) (CnL.cons (.v _) (CnL.cons (.v _) CnL.nil))))),hK⟩
noncomputable def B_syntax_reader_is (f0:qa→Option qd)(a0:qa)(a1:ByteArray):Option Bool:=
 (f0 a0).bind fun y1=>
 some (((decide (a0.e=(0:Int)))&&(decide (y1.text=a1)))&&(!decide (y1.kind=(0:Int))))
theorem W_syntax_reader_is (f0)(S0:Sat_syntax_reader_now f0):Sat_syntax_reader_is (B_syntax_reader_is f0):=by
 intro a0 a1 r h σ K j0 q H0 hq hK;refine zB Try.func114 rfl rfl (by kernel_rfl) ?_;unfold B_syntax_reader_is at h;have hP:=Pre.refl σ;have jl0:=H0.lt;have E0:qu [(.pt j0 0),(.v (.string a1))] 0=(.pt j0 0):=rfl;have E1:qu [(.pt j0 0),(.v (.string a1))] 1=(.v (.string a1)):=rfl;have TT:=ZD Expr.rlen T_153 T_155 T_2 T_27 T_3 T_30 T_81 T_85 T_9 qd.cle qa.cle;refine qe (w_x (cj2 H0.get TT) ?_);refine qg ?_;obtain⟨y1,h2,h⟩:=qb h;refine qh (fun e s=>∃i5:Nat,Gx s j0 (AObj.box 155 (qa.cl q a0))∧Bx σ s i5 85 (qd.cl y1)∧eP e 0 j0∧eT e 1 a1∧eP e 5 i5∧Pre σ s) ?_ ?_
 ·have q1:=cj3 E0 H0.g3 TT;refine w_x q1 ?_;refine S0 _ _ h2 _ _ _ q H0 (hq.le (Pre.le hP)) ?_;refine w_y q1 ?_;exact qf ⟨σ.length,(H0.app [some (AObj.box 85 (qd.cl y1))]),(Bx.new hP _ _),E0,E1,(xv q1),(hP.app _)⟩
 rintro e s ⟨i5,X0,X5,E0,E1,E5,hP⟩
 refine qh (fun e s=>eB e 4 (((decide (a0.e=(0:Int)))&&(decide (y1.text=a1)))&&(!decide (y1.kind=(0:Int))))∧Pre σ s) ?_ ?_
 ·cases hb3:(decide (a0.e=(0:Int)))
  ·have q2:=cj7 E0 E1 E5 X0.get X5.get hb3 TT;refine w_x q2 ?_;exact qf ⟨(xv q2),hP⟩
  ·cases hb4:(decide (y1.text=a1))
   ·have q3:=cj8 E0 E1 E5 X0.get X5.get hb3 hb4 TT;refine w_x q3 ?_;exact qf ⟨(xv q3),hP⟩
   ·have q4:=cj8 E0 E1 E5 X0.get X5.get hb3 hb4 TT;refine w_x q4 ?_;exact qf ⟨(xv q4),hP⟩
 rintro e s ⟨E4,hP⟩
 refine qo ?_;obtain rfl:=qc h;exact qq (fun _=>rfl) (xr (rs:= #[.tmp 4]) (cj2 E4 TT)) hP (.refl _) (.v _) hK
noncomputable def B_syntax_reader_can (f0:qa→ByteArray→Option Bool)(a0:qa)(a1:ByteArray):Option (Bool×qa):=
 (f0 a0 a1).bind fun y1=>
 (if y1 then
  some (qa.mk a0.l a0.end_ (IntKind.i64.wrap (a0.pos+(1:Int))) a0.at_ a0.e a0.p)
 else
  some a0:Option qa).bind fun v5=>
 some (y1,v5)
abbrev Qo (a0:qa)(q:Qz):List PV:=[(.sl (List.map qd.cl a0.l)),(.v (.int .i64 a0.end_)),(.v (.int .i64 (IntKind.i64.wrap (a0.pos+(1:Int))))),(.v (.int .i64 a0.at_)),(.v (.int .i64 a0.e)),q.c5,q.c6,q.c7,q.c8]
theorem W_syntax_reader_can (f0)(S0:Sat_syntax_reader_is f0):Sat_syntax_reader_can (B_syntax_reader_can f0):=by
 intro a0 a1 r h σ K j0 q H0 hq hK;refine Qw (Q:=fun r s=>∃l:List (Nat×AObj),(l.map (·.1)).Nodup∧(∀x∈l,x.1<σ.length∧ClO σ.length x.2)∧Pq σ l K r s) Try.func81 rfl rfl (by kernel_rfl) (fun _ _ h=>h) ?_;unfold B_syntax_reader_can at h;have hP:=Pre.refl σ;have jl0:=H0.lt;have hF:=Fr.refl σ [j0];have E0:qu [(.pt j0 0),(.v (.string a1))] 0=(.pt j0 0):=rfl;have E1:qu [(.pt j0 0),(.v (.string a1))] 1=(.v (.string a1)):=rfl;have TT:=cj9 Expr.rlen T_153 T_155 T_27 T_3 T_30 T_81 T_9 qa.cle;refine qe (w_x (cj2 H0.get TT) ?_);refine qg (qe ?_);obtain⟨y1,h2,h⟩:=qb h;refine w_x (cj4 E0 E1 H0.get TT) ?_;refine S0 _ _ _ h2 _ _ _ q H0 (hq.le (Fr.gle hF hP)) ?_;refine w_y (cj4 E0 E1 H0.get TT) ?_;refine qg (qk (qe (w_x (cj2 H0.get TT) ?_)));refine qg ?_;obtain⟨x3,h4,h⟩:=qb h;refine qh (fun e s=>∃v5,∃τ:Store,v5=x3∧Gx s j0 (AObj.box 155 (qa.cl q v5))∧eB e 5 y1∧Fr σ τ [j0]∧Pre τ s) ?_ ?_
 ·rcases qj h4 with⟨hb6,h4⟩|⟨hb6,h4⟩
  ·refine xt hb6 ?_;have q1:=Gx.same H0 (AObj.box 155 (Qo a0 q));refine w_x (cj4 E0 H0.get q1.get TT) ?_;obtain rfl:=qc h4;exact qf ⟨_,(List.set σ j0 (some (AObj.box 155 (Qo a0 q)))),rfl,q1,(xv (cj4 E0 H0.get q1.get TT)),(hF.set (by simp) (some (AObj.box 155 (Qo a0 q)))),(hP.setp (hF.lt jl0) (some (AObj.box 155 (Qo a0 q))))⟩
  ·refine xf hb6 (qm ?_);obtain rfl:=qc h4;exact qf ⟨_,σ,rfl,H0,(xv TT),hF,hP⟩
 rintro e s ⟨v5,τ,rfl,X0,E5,hF,hP⟩
 (try dsimp only at h);refine qe (w_x (cj2 E5 TT) ?_);refine qg (qo ?_);obtain rfl:=qc h;have hn7:(List.map (·.1) ([(j0,(AObj.box 155 (qa.cl q v5)))]:List (Nat×AObj))).Nodup:=(List.nodup_cons.2 ⟨(fun h=>by simp at h),List.nodup_nil⟩);have he8:=Fr.eq hF hn7 (List.forall_mem_cons.2 ⟨⟨jl0,(Gx.back X0 hP (hF.lt jl0))⟩,(fun x hx=>absurd hx (by simp))⟩);exact qU (fun _=>rfl) (xr (rs:= #[.tmp 4]) TT) ⟨_,hn7,(List.forall_mem_cons.2 ⟨⟨jl0,(ClO.bx (ClL.cons (Cn.cl (Cn.rows qd.cn _) _) (ClL.cons (Cn.cl (.v _) _) (ClL.cons (Cn.cl (.v _) _) (ClL.cons (Cn.cl (.v _) _) (ClL.cons (Cn.cl (.v _) _) (ClL.cons hq.c5 (ClL.cons hq.c6 (ClL.cons hq.c7 (ClL.cons hq.c8 ClL.nil))))))))))⟩,(fun x hx=>absurd hx (by simp))⟩),he8▸hP,_,(.refl _),(.v _),hK⟩
noncomputable def zI (a0:(List ByteArray))(a1:ByteArray):Int→Option (Int⊕(Int⊕Unit))
 | v3 =>
  if(decide (v3<((List.length a0:Nat):Int)))then
   ((qS a0 v3).bind fun y9=>
   if(decide (a1=y9))then
    some (.inl v3)
   else
    some (.inr ()):Option (Int⊕Unit)).bind fun x=>match x with
   | .inl r=>some (.inr (.inl r))
   | .inr _ =>
    some (.inl (IntKind.i64.wrap (v3+(1:Int))))
  else
   some (.inr (.inr ()))
noncomputable def B_slices_Index_string (a0:(List ByteArray))(a1:ByteArray):Option Int:=
 (qA (zI a0 a1) (0:Int):Option (Int⊕Unit)).bind fun x=>match x with
 | .inl r=>some r
 | .inr _ =>
  some (-1:Int)
theorem W_slices_Index_string:Sat_slices_Index_string (B_slices_Index_string):=by
 intro a0 a1 r h σ K hK;refine zB Try.func133 rfl rfl (by kernel_rfl) ?_;unfold B_slices_Index_string at h;have hP:=Pre.refl σ;have E0:qu [(.sl (List.map C_s a0)),(.v (.string a1))] 0=(.sl (List.map C_s a0)):=rfl;have E1:qu [(.sl (List.map C_s a0)),(.v (.string a1))] 1=(.v (.string a1)):=rfl;have TT:=cj4 Expr.rlen T_3 T_9 T_97;refine qe (w_x Expr.rlen ?_);refine qg (qk (qe (w_x (cj2 E0 TT) ?_)));refine qg ?_;obtain⟨x1,h2,h⟩:=qb h;refine qh (fun e s=>.inr ()=x1∧Pre σ s) ?_ ?_
 ·refine qn (qX h2 (fun v e s=>∃v3,v3=v∧eS e 0 C_s a0∧eT e 1 a1∧eL e 7 a0∧eI e 8 v3∧Pre σ s) ⟨_,WkE.refl _,_,rfl,E0,E1,(xv TT),(xv TT),hP⟩ ?_)
  rintro v x4 e s hf5 ⟨v3,rfl,E0,E1,E7,E8,hP⟩
  unfold zI at hf5;(try dsimp only at hf5);refine qe (w_x (cj3 E7 E8 TT) ?_);refine qg (qe ?_);rcases qj hf5 with⟨hb6,hf5⟩|⟨hb6,hf5⟩
  ·refine xt hb6 (qm (qg ?_));obtain⟨x7,h8,hf5⟩:=qb hf5;refine qh (fun e s=>.inr ()=x7∧eS e 0 C_s a0∧eT e 1 a1∧eL e 7 a0∧eI e 8 v3∧Pre σ s) ?_ ?_
   ·refine qn (qe (w_x (cj2 E8 TT) ?_));refine qg (qe ?_);obtain⟨y9,h10,h8⟩:=qb h8;have R11:(List.map C_s a0)[(v3).toNat]? =some [(.v (.string y9))]:=zw (qp h10).2;refine w_x (cj5 E0 E1 R11 (qp h10).1 TT) ?_;refine qg ?_;rcases qj h8 with⟨hb12,h8⟩|⟨hb12,h8⟩
    ·refine xt hb12 (qe (w_x Expr.rlen ?_));refine qg (qo (qx ?_));obtain rfl:=qc h8;refine qO ?_;(try dsimp only at hf5);obtain rfl:=qc hf5;refine Zz rfl fun hr13=> ?_;obtain rfl:=hr13;refine qx (qO ?_);(try dsimp only at h);obtain rfl:=qc h;exact qq (fun _=>rfl) (xr (rs:= #[.tmp 4]) TT) hP (.refl _) (.v _) hK
    ·refine xf hb12 (qm (zc ?_));obtain rfl:=qc h8;exact qf ⟨rfl,E0,E1,E7,E8,hP⟩
   rintro e s ⟨rfl,E0,E1,E7,E8,hP⟩
   (try dsimp only at hf5);refine w_x (cj2 E8 TT) ?_;obtain rfl:=qc hf5;exact zK rfl ⟨_,rfl,E0,E1,E7,(xv (cj2 E8 TT)),hP⟩
  ·refine xf hb6 (qz (qT ?_));obtain rfl:=qc hf5;refine zo rfl fun hr14=> ?_;obtain rfl:=hr14;exact qG (qf ⟨rfl,hP⟩)
 rintro e s ⟨rfl,hP⟩
 (try dsimp only at h);refine qe (w_x Expr.rlen ?_);refine qg (qo ?_);obtain rfl:=qc h;exact qq (fun _=>rfl) (xr (rs:= #[.tmp 4]) TT) hP (.refl _) (.v _) hK
noncomputable def B_slices_Contains_string (f0:(List ByteArray)→ByteArray→Option Int)(a0:(List ByteArray))(a1:ByteArray):Option Bool:=
 (f0 a0 a1).bind fun y1=>
 some (decide ((0:Int)≤y1))
theorem W_slices_Contains_string (f0)(S0:Sat_slices_Index_string f0):Sat_slices_Contains_string (B_slices_Contains_string f0):=by
 intro a0 a1 r h σ K hK;refine zB Try.func128 rfl rfl (by kernel_rfl) ?_;unfold B_slices_Contains_string at h;have hP:=Pre.refl σ;have E0:qu [(.sl (List.map C_s a0)),(.v (.string a1))] 0=(.sl (List.map C_s a0)):=rfl;have E1:qu [(.sl (List.map C_s a0)),(.v (.string a1))] 1=(.v (.string a1)):=rfl;have TT:=cj4 Expr.rlen T_3 T_9 T_97;refine qe (w_x Expr.rlen ?_);refine qg (qe ?_);obtain⟨y1,h2,h⟩:=qb h;refine w_x (cj3 E0 E1 TT) ?_;refine S0 _ _ _ h2 _ _ ?_;refine w_y (cj3 E0 E1 TT) ?_;refine qg (qo ?_);obtain rfl:=qc h;exact qq (fun _=>rfl) (xr (rs:= #[.tmp 4]) TT) hP (.refl _) (.v _) hK
noncomputable def B_syntax_reader_name (f0:qa→Int→Int→Option (Unit×qa))(f1:Option (List ByteArray))(f2:qa→Option (qd×qa))(f3:(List ByteArray)→ByteArray→Option Bool)(a0:qa):Option (qd×qa):=
 (f2 a0).bind fun y1=>
 (if(!decide (y1.1.kind=(1:Int)))then
  some false
 else
  (f1).bind fun y3=>
  (f3 y3 y1.1.text).bind fun y5=>
  some y5).bind fun w7=>
 (if((!decide (y1.1.kind=(1:Int)))||w7)then
  (f0 y1.2 y1.1.at_ (1:Int)).bind fun y14=>
  some y14.2
 else
  some y1.2:Option qa).bind fun v12=>
 some (y1.1,v12)
abbrev C115_0 (z0 z1:Store)(z2:Nat):Prop:=Bx z0 z1 z2 85 [(.v (.int .i64 (0:Int))),(.v (.string (⟨#[]⟩:ByteArray))),(.v (.int .i64 (0:Int))),(.v (.int .i64 (0:Int)))]
theorem W_syntax_reader_name (f0 f1 f2 f3)(S0:Sat_syntax_reader_fail f0)(S1:Sat_lex_Words f1)(S2:Sat_syntax_reader_take f2)(S3:Sat_slices_Contains_string f3):Sat_syntax_reader_name (B_syntax_reader_name f0 f1 f2 f3):=by
 intro a0 r h σ K j0 q H0 hq hK;refine Qw (Q:=fun r s=>∃l:List (Nat×AObj),(l.map (·.1)).Nodup∧(∀x∈l,x.1<σ.length∧ClO σ.length x.2)∧Pq σ l K r s) Try.func115 rfl rfl (by kernel_rfl) (fun _ _ h=>h) ?_;unfold B_syntax_reader_name at h;have hP:=Pre.refl σ;have jl0:=H0.lt;have hF:=Fr.refl σ [j0];have E0:qu [(.pt j0 0)] 0=(.pt j0 0):=rfl;have TT:=cj10 Expr.rlen T_153 T_2 T_3 T_30 T_85 T_9 T_97 qd.cle qa.cle;refine qh (fun e s=>∃i2:Nat,∃τ:Store,Gx s j0 (AObj.box 155 (qa.cl q a0))∧C115_0 σ s i2∧eP e 0 j0∧eP e 2 i2∧j0≠i2∧Fr σ τ [j0]∧Pre τ s) ?_ ?_
 ·refine w_x (cj2 H0.g3 TT) ?_;exact qf ⟨σ.length,σ,(H0.app [some (AObj.box 85 [(.v (.int .i64 (0:Int))),(.v (.string (⟨#[]⟩:ByteArray))),(.v (.int .i64 (0:Int))),(.v (.int .i64 (0:Int)))])]),(Bx.newf hF hP 85 [(.v (.int .i64 (0:Int))),(.v (.string (⟨#[]⟩:ByteArray))),(.v (.int .i64 (0:Int))),(.v (.int .i64 (0:Int)))]),E0,(xv (cj2 H0.g3 TT)),(Nat.ne_of_lt H0.lt),hF,(hP.app _)⟩
 rintro e s ⟨i2,τ,X0,X2,E0,E2,N0__2,hF,hP⟩
 obtain⟨y1,h2,h⟩:=qb h;refine qh (fun e s=>∃i3:Nat,∃τ:Store,Gx s j0 (AObj.box 155 (qa.cl q y1.2))∧C115_0 σ s i2∧Bx σ s i3 85 (qd.cl y1.1)∧eP e 0 j0∧eP e 2 i2∧eP e 3 i3∧j0≠i2∧j0≠i3∧i2≠i3∧Fr σ τ [j0]∧Pre τ s) ?_ ?_
 ·have q1:=Gx.same X0 (AObj.box 155 (qa.cl q y1.2));have q2:=cj4 E0 X0.g3 q1.get TT;refine w_x q2 ?_;refine S2 _ _ h2 _ _ _ q X0 (hq.le (Fr.gle hF hP)) ?_;refine w_y q2 ?_;have q3:=X2.ne N0__2 (some (AObj.box 155 (qa.cl q y1.2)));exact qf ⟨(List.set s j0 (some (AObj.box 155 (qa.cl q y1.2)))).length,(List.set τ j0 (some (AObj.box 155 (qa.cl q y1.2)))),(q1.app _),(q3.app _),(Bx.newf (hF.set (by simp) (some (AObj.box 155 (qa.cl q y1.2)))) (hP.setp (hF.lt jl0) (some (AObj.box 155 (qa.cl q y1.2)))) 85 (qd.cl y1.1)),E0,E2,(xv q2),N0__2,(Nat.ne_of_lt q1.lt),(Nat.ne_of_lt q3.lt),(hF.set (by simp) (some (AObj.box 155 (qa.cl q y1.2)))),((hP.setp (hF.lt jl0) (some (AObj.box 155 (qa.cl q y1.2)))).app _)⟩
 rintro e s ⟨i3,τ,X0,X2,X3,E0,E2,E3,N0__2,N0__3,N2__3,hF,hP⟩
 refine qk ?_;obtain⟨w7,h8,h⟩:=qb h;refine qh (fun e s=>∃τ:Store,Gx s j0 (AObj.box 155 (qa.cl q y1.2))∧C115_0 σ s i2∧Bx σ s i3 85 (qd.cl y1.1)∧eP e 0 j0∧eP e 2 i2∧eP e 3 i3∧eB e 14 ((!decide (y1.1.kind=(1:Int)))||w7)∧j0≠i2∧j0≠i3∧i2≠i3∧Fr σ τ [j0]∧Pre τ s) ?_ ?_
 ·cases hb9:(!decide (y1.1.kind=(1:Int)))
  ·replace h8:=zx (by simp only[hb9,Bool.or_true,Bool.true_or,Bool.or_false,Bool.false_or,Bool.and_true,Bool.true_and,Bool.and_false,Bool.false_and,Bool.not_true,Bool.not_false,cond_true,cond_false]) h8;obtain⟨y3,h4,h8⟩:=qb h8;obtain⟨y5,h6,h8⟩:=qb h8;obtain rfl:=qc h8;have q4:=cj4 E3 X3.get hb9 TT;refine w_xd 7 0 q4 ?_;refine S1 _ h4 _ _ ?_;refine QD q4 ?_;refine Qn q4 ?_;refine S3 _ _ _ h6 _ _ ?_;refine w_y q4 ?_;exact qf ⟨τ,X0,X2,X3,E0,E2,E3,(xv q4),N0__2,N0__3,N2__3,hF,hP⟩
  ·replace h8:=qI (by simp only[hb9,Bool.or_true,Bool.true_or,Bool.or_false,Bool.false_or,Bool.and_true,Bool.true_and,Bool.and_false,Bool.false_and,Bool.not_true,Bool.not_false,cond_true,cond_false]) h8;obtain rfl:=qc h8;have q5:=cj4 E3 X3.get hb9 TT;refine w_xd 7 0 q5 ?_;refine Qn q5 ?_;exact qf ⟨τ,X0,X2,X3,E0,E2,E3,(xv q5),N0__2,N0__3,N2__3,hF,hP⟩
 rintro e s ⟨τ,X0,X2,X3,E0,E2,E3,E14,N0__2,N0__3,N2__3,hF,hP⟩
 obtain⟨x10,h11,h⟩:=qb h;refine qh (fun e s=>∃v12,∃τ:Store,v12=x10∧Gx s j0 (AObj.box 155 (qa.cl q v12))∧C115_0 σ s i2∧Bx σ s i3 85 (qd.cl y1.1)∧eP e 2 i2∧eP e 3 i3∧j0≠i2∧j0≠i3∧i2≠i3∧Fr σ τ [j0]∧Pre τ s) ?_ ?_
 ·rcases qj h11 with⟨hb13,h11⟩|⟨hb13,h11⟩
  ·refine xt (cj2 E14 hb13) ?_;obtain⟨y14,h15,h11⟩:=qb h11;have q6:=cj7 E0 E3 X0.get X3.get X0.samea (X3.nea N0__3) TT;refine w_x q6 ?_;refine S0 _ _ _ _ h15 _ _ _ q X0 (hq.le (Fr.gle hF hP)) ?_;refine w_y q6 ?_;obtain rfl:=qc h11;exact qf ⟨_,(List.set τ j0 (some (AObj.box 155 (qa.cl q y14.2)))),rfl,(Gx.same X0 _),(X2.ne N0__2 _),(X3.ne N0__3 _),E2,E3,N0__2,N0__3,N2__3,(hF.set (by simp) (some (AObj.box 155 (qa.cl q y14.2)))),(hP.setp (hF.lt jl0) (some (AObj.box 155 (qa.cl q y14.2))))⟩
  ·refine xf (cj2 E14 hb13) (qm ?_);obtain rfl:=qc h11;exact qf ⟨_,τ,rfl,X0,X2,X3,E2,E3,N0__2,N0__3,N2__3,hF,hP⟩
 rintro e s ⟨v12,τ,rfl,X0,X2,X3,E2,E3,N0__2,N0__3,N2__3,hF,hP⟩
 (try dsimp only at h);refine qh (fun e s=>∃τ:Store,Gx s j0 (AObj.box 155 (qa.cl q v12))∧Bx σ s i2 85 (qd.cl y1.1)∧eP e 2 i2∧j0≠i2∧Fr σ τ [j0]∧Pre τ s) ?_ ?_
 ·refine w_x (cj7 E2 E3 X2.get X3.get X2.samea (X3.nea N2__3) TT) ?_;exact qf ⟨τ,(X0.ne (Ne.symm N0__2) _),(X2.same _ _),E2,N0__2,hF,(hP.set (hF.ge X2.le) (some (AObj.box 85 (qd.cl y1.1))))⟩
 rintro e s ⟨τ,X0,X2,E2,N0__2,hF,hP⟩
 refine qo ?_;obtain rfl:=qc h;have hn16:(List.map (·.1) ([(j0,(AObj.box 155 (qa.cl q v12)))]:List (Nat×AObj))).Nodup:=(List.nodup_cons.2 ⟨(fun h=>by simp at h),List.nodup_nil⟩);have he17:=Fr.eq hF hn16 (List.forall_mem_cons.2 ⟨⟨jl0,(Gx.back X0 hP (hF.lt jl0))⟩,(fun x hx=>absurd hx (by simp))⟩);exact qU (fun _=>rfl) (xr (rs:= #[.cell 2 85]) (cj3 X2.get E2 TT)) ⟨_,hn16,(List.forall_mem_cons.2 ⟨⟨jl0,(ClO.bx (ClL.cons (Cn.cl (Cn.rows qd.cn _) _) (ClL.cons (Cn.cl (.v _) _) (ClL.cons (Cn.cl (.v _) _) (ClL.cons (Cn.cl (.v _) _) (ClL.cons (Cn.cl (.v _) _) (ClL.cons hq.c5 (ClL.cons hq.c6 (ClL.cons hq.c7 (ClL.cons hq.c8 ClL.nil))))))))))⟩,(fun x hx=>absurd hx (by simp))⟩),he17▸hP,_,(.refl _),(.ag (CnL.cons (.v _) (CnL.cons (.v _) (CnL.cons (.v _) (CnL.cons (.v _) CnL.nil))))),hK⟩
noncomputable def B_syntax_reader_number (f0:qa→Int→Int→Option (Unit×qa))(f1:qa→Option (qd×qa))(a0:qa)(a1:Int)(a2:Int):Option (Int×qa):=
 (f1 a0).bind fun y1=>
 ((if(!decide (y1.1.kind=(2:Int)))then
  (f0 y1.2 y1.1.at_ (1:Int)).bind fun y10=>
  some y10.2
 else
  (if((decide (y1.1.n<a1))||(decide (a2<y1.1.n)))then
   (f0 y1.2 y1.1.at_ (7:Int)).bind fun y17=>
   some y17.2
  else
   some y1.2:Option qa).bind fun v15=>
  some v15:Option qa).bind fun v8=>
 some v8:Option qa).bind fun v5=>
 some (y1.1.n,v5)
theorem W_syntax_reader_number (f0 f1)(S0:Sat_syntax_reader_fail f0)(S1:Sat_syntax_reader_take f1):Sat_syntax_reader_number (B_syntax_reader_number f0 f1):=by
 intro a0 a1 a2 r h σ K j0 q H0 hq hK;refine Qw (Q:=fun r s=>∃l:List (Nat×AObj),(l.map (·.1)).Nodup∧(∀x∈l,x.1<σ.length∧ClO σ.length x.2)∧Pq σ l K r s) Try.func119 rfl rfl (by kernel_rfl) (fun _ _ h=>h) ?_;unfold B_syntax_reader_number at h;have hP:=Pre.refl σ;have jl0:=H0.lt;have hF:=Fr.refl σ [j0];have E0:qu [(.pt j0 0),(.v (.int .i64 a1)),(.v (.int .i64 a2))] 0=(.pt j0 0):=rfl;have E1:qu [(.pt j0 0),(.v (.int .i64 a1)),(.v (.int .i64 a2))] 1=(.v (.int .i64 a1)):=rfl;have E2:qu [(.pt j0 0),(.v (.int .i64 a1)),(.v (.int .i64 a2))] 2=(.v (.int .i64 a2)):=rfl;have TT:=cj9 Expr.rlen T_153 T_2 T_3 T_30 T_85 T_9 qd.cle qa.cle;refine qe (w_x (cj2 H0.get TT) ?_);refine qg ?_;obtain⟨y1,h2,h⟩:=qb h;refine qh (fun e s=>∃i7:Nat,∃τ:Store,Gx s j0 (AObj.box 155 (qa.cl q y1.2))∧Bx σ s i7 85 (qd.cl y1.1)∧eP e 0 j0∧eI e 1 a1∧eI e 2 a2∧eP e 7 i7∧j0≠i7∧Fr σ τ [j0]∧Pre τ s) ?_ ?_
 ·have q1:=Gx.same H0 (AObj.box 155 (qa.cl q y1.2));have q2:=cj4 E0 H0.g3 q1.get TT;refine w_x q2 ?_;refine S1 _ _ h2 _ _ _ q H0 (hq.le (Fr.gle hF hP)) ?_;refine w_y q2 ?_;exact qf ⟨(List.set σ j0 (some (AObj.box 155 (qa.cl q y1.2)))).length,(List.set σ j0 (some (AObj.box 155 (qa.cl q y1.2)))),(q1.app _),(Bx.newf (hF.set (by simp) (some (AObj.box 155 (qa.cl q y1.2)))) (hP.setp (hF.lt jl0) (some (AObj.box 155 (qa.cl q y1.2)))) 85 (qd.cl y1.1)),E0,E1,E2,(xv q2),(Nat.ne_of_lt q1.lt),(hF.set (by simp) (some (AObj.box 155 (qa.cl q y1.2)))),((hP.setp (hF.lt jl0) (some (AObj.box 155 (qa.cl q y1.2)))).app _)⟩
 rintro e s ⟨i7,τ,X0,X7,E0,E1,E2,E7,N0__7,hF,hP⟩
 obtain⟨x3,h4,h⟩:=qb h;refine qh (fun e s=>∃v5,∃τ:Store,v5=x3∧Gx s j0 (AObj.box 155 (qa.cl q v5))∧Bx σ s i7 85 (qd.cl y1.1)∧eP e 7 i7∧j0≠i7∧Fr σ τ [j0]∧Pre τ s) ?_ ?_
 ·refine qn (qe (w_x (cj3 E7 X7.get TT) ?_));refine qg ?_;obtain⟨x6,h7,h4⟩:=qb h4;refine QE (fun e s=>∃v8,∃τ:Store,v8=x6∧Gx s j0 (AObj.box 155 (qa.cl q v8))∧Bx σ s i7 85 (qd.cl y1.1)∧eP e 7 i7∧j0≠i7∧Fr σ τ [j0]∧Pre τ s) ?_ ?_
  ·rcases qj h7 with⟨hb9,h7⟩|⟨hb9,h7⟩
   ·refine xt hb9 ?_;obtain⟨y10,h11,h7⟩:=qb h7;have q3:=cj7 E0 E7 X0.get X7.get X0.samea (X7.nea N0__7) TT;refine w_x q3 ?_;refine S0 _ _ _ _ h11 _ _ _ q X0 (hq.le (Fr.gle hF hP)) ?_;refine w_y q3 ?_;obtain rfl:=qc h7;exact zr ⟨_,(List.set τ j0 (some (AObj.box 155 (qa.cl q y10.2)))),rfl,(Gx.same X0 _),(X7.ne N0__7 _),E7,N0__7,(hF.set (by simp) (some (AObj.box 155 (qa.cl q y10.2)))),(hP.setp (hF.lt jl0) (some (AObj.box 155 (qa.cl q y10.2))))⟩
   ·refine xf hb9 (qh (fun e s=>∃τ:Store,Gx s j0 (AObj.box 155 (qa.cl q y1.2))∧Bx σ s i7 85 (qd.cl y1.1)∧eP e 0 j0∧eP e 7 i7∧eB e 18 ((decide (y1.1.n<a1))||(decide (a2<y1.1.n)))∧j0≠i7∧Fr σ τ [j0]∧Pre τ s) ?_ ?_)
    ·cases hb12:(decide (y1.1.n<a1))
     ·refine w_x (cj6 E1 E2 E7 X7.get hb12 TT) ?_;exact qf ⟨τ,X0,X7,E0,E7,(xv (cj6 E1 E2 E7 X7.get hb12 TT)),N0__7,hF,hP⟩
     ·refine w_x (cj6 E1 E2 E7 X7.get hb12 TT) ?_;exact qf ⟨τ,X0,X7,E0,E7,(xv (cj6 E1 E2 E7 X7.get hb12 TT)),N0__7,hF,hP⟩
    rintro e s ⟨τ,X0,X7,E0,E7,E18,N0__7,hF,hP⟩
    obtain⟨x13,h14,h7⟩:=qb h7;refine QE (fun e s=>∃v15,∃τ:Store,v15=x13∧Gx s j0 (AObj.box 155 (qa.cl q v15))∧Bx σ s i7 85 (qd.cl y1.1)∧eP e 7 i7∧j0≠i7∧Fr σ τ [j0]∧Pre τ s) ?_ ?_
    ·rcases qj h14 with⟨hb16,h14⟩|⟨hb16,h14⟩
     ·refine xt (cj2 E18 hb16) ?_;obtain⟨y17,h18,h14⟩:=qb h14;have q4:=cj7 E0 E7 X0.get X7.get X0.samea (X7.nea N0__7) TT;refine w_x q4 ?_;refine S0 _ _ _ _ h18 _ _ _ q X0 (hq.le (Fr.gle hF hP)) ?_;refine w_y q4 ?_;obtain rfl:=qc h14;exact zr ⟨_,(List.set τ j0 (some (AObj.box 155 (qa.cl q y17.2)))),rfl,(Gx.same X0 _),(X7.ne N0__7 _),E7,N0__7,(hF.set (by simp) (some (AObj.box 155 (qa.cl q y17.2)))),(hP.setp (hF.lt jl0) (some (AObj.box 155 (qa.cl q y17.2))))⟩
     ·refine xf (cj2 E18 hb16) (qm ?_);obtain rfl:=qc h14;exact zr ⟨_,τ,rfl,X0,X7,E7,N0__7,hF,hP⟩
    rintro e s ⟨v15,τ,rfl,X0,X7,E7,N0__7,hF,hP⟩
    (try dsimp only at h7);obtain rfl:=qc h7;exact zr ⟨_,τ,rfl,X0,X7,E7,N0__7,hF,hP⟩
  rintro e s ⟨v8,τ,rfl,X0,X7,E7,N0__7,hF,hP⟩
  (try dsimp only at h4);refine zc ?_;obtain rfl:=qc h4;exact qf ⟨_,τ,rfl,X0,X7,E7,N0__7,hF,hP⟩
 rintro e s ⟨v5,τ,rfl,X0,X7,E7,N0__7,hF,hP⟩
 (try dsimp only at h);refine qe (w_x (cj3 E7 X7.get TT) ?_);refine qg (qo ?_);obtain rfl:=qc h;have hn19:(List.map (·.1) ([(j0,(AObj.box 155 (qa.cl q v5)))]:List (Nat×AObj))).Nodup:=(List.nodup_cons.2 ⟨(fun h=>by simp at h),List.nodup_nil⟩);have he20:=Fr.eq hF hn19 (List.forall_mem_cons.2 ⟨⟨jl0,(Gx.back X0 hP (hF.lt jl0))⟩,(fun x hx=>absurd hx (by simp))⟩);exact qU (fun _=>rfl) (xr (rs:= #[.tmp 6]) TT) ⟨_,hn19,(List.forall_mem_cons.2 ⟨⟨jl0,(ClO.bx (ClL.cons (Cn.cl (Cn.rows qd.cn _) _) (ClL.cons (Cn.cl (.v _) _) (ClL.cons (Cn.cl (.v _) _) (ClL.cons (Cn.cl (.v _) _) (ClL.cons (Cn.cl (.v _) _) (ClL.cons hq.c5 (ClL.cons hq.c6 (ClL.cons hq.c7 (ClL.cons hq.c8 ClL.nil))))))))))⟩,(fun x hx=>absurd hx (by simp))⟩),he20▸hP,_,(.refl _),(.v _),hK⟩
noncomputable def B_syntax_reader_must (f0:qa→Option qd)(f1:qa→Int→Int→Option (Unit×qa))(f2:qa→ByteArray→Option (Bool×qa))(a0:qa)(a1:ByteArray):Option (Unit×qa):=
 (f2 a0 a1).bind fun y1=>
 (if(!y1.1)then
  (f0 y1.2).bind fun y7=>
  (f1 y1.2 y7.at_ (1:Int)).bind fun y9=>
  some y9.2
 else
  some y1.2:Option qa).bind fun v5=>
 some ((),v5)
theorem W_syntax_reader_must (f0 f1 f2)(S0:Sat_syntax_reader_now f0)(S1:Sat_syntax_reader_fail f1)(S2:Sat_syntax_reader_can f2):Sat_syntax_reader_must (B_syntax_reader_must f0 f1 f2):=by
 intro a0 a1 r h σ K j0 q H0 hq hK;refine Qw (Q:=fun r s=>∃l:List (Nat×AObj),(l.map (·.1)).Nodup∧(∀x∈l,x.1<σ.length∧ClO σ.length x.2)∧Pq σ l K r s) Try.func116 rfl rfl (by kernel_rfl) (fun _ _ h=>h) ?_;unfold B_syntax_reader_must at h;have hP:=Pre.refl σ;have jl0:=H0.lt;have hF:=Fr.refl σ [j0];have E0:qu [(.pt j0 0),(.v (.string a1))] 0=(.pt j0 0):=rfl;have E1:qu [(.pt j0 0),(.v (.string a1))] 1=(.v (.string a1)):=rfl;have TT:=cj9 Expr.rlen T_153 T_2 T_3 T_30 T_85 T_9 qd.cle qa.cle;obtain⟨y1,h2,h⟩:=qb h;refine qh (fun e s=>∃τ:Store,Gx s j0 (AObj.box 155 (qa.cl q y1.2))∧eP e 0 j0∧eB e 7 (!y1.1)∧Fr σ τ [j0]∧Pre τ s) ?_ ?_
 ·have q1:=Gx.same H0 (AObj.box 155 (qa.cl q y1.2));have q2:=cj5 E0 E1 H0.get q1.get TT;refine w_x q2 ?_;refine S2 _ _ _ h2 _ _ _ q H0 (hq.le (Fr.gle hF hP)) ?_;refine w_y q2 ?_;exact qf ⟨(List.set σ j0 (some (AObj.box 155 (qa.cl q y1.2)))),q1,E0,(xv q2),(hF.set (by simp) (some (AObj.box 155 (qa.cl q y1.2)))),(hP.setp (hF.lt jl0) (some (AObj.box 155 (qa.cl q y1.2))))⟩
 rintro e s ⟨τ,X0,E0,E7,hF,hP⟩
 obtain⟨x3,h4,h⟩:=qb h;refine QE (fun e s=>∃v5,∃τ:Store,v5=x3∧Gx s j0 (AObj.box 155 (qa.cl q v5))∧Fr σ τ [j0]∧Pre τ s) ?_ ?_
 ·rcases qj h4 with⟨hb6,h4⟩|⟨hb6,h4⟩
  ·refine xt (cj2 E7 hb6) ?_;obtain⟨y7,h8,h4⟩:=qb h4;obtain⟨y9,h10,h4⟩:=qb h4;have q3:=cj4 E0 X0.get X0.samea TT;refine w_x q3 ?_;refine S0 _ _ h8 _ _ _ q X0 (hq.le (Fr.gle hF hP)) ?_;refine w_y q3 ?_;refine S1 _ _ _ _ h10 _ _ _ q X0 (hq.le (Fr.gle hF hP)) ?_;refine w_y q3 ?_;obtain rfl:=qc h4;exact zr ⟨_,(List.set τ j0 (some (AObj.box 155 (qa.cl q y9.2)))),rfl,(Gx.same X0 _),(hF.set (by simp) (some (AObj.box 155 (qa.cl q y9.2)))),(hP.setp (hF.lt jl0) (some (AObj.box 155 (qa.cl q y9.2))))⟩
  ·refine xf (cj2 E7 hb6) (qm ?_);obtain rfl:=qc h4;exact zr ⟨_,τ,rfl,X0,hF,hP⟩
 rintro e s ⟨v5,τ,rfl,X0,hF,hP⟩
 (try dsimp only at h);obtain rfl:=qc h;have hn11:(List.map (·.1) ([(j0,(AObj.box 155 (qa.cl q v5)))]:List (Nat×AObj))).Nodup:=(List.nodup_cons.2 ⟨(fun h=>by simp at h),List.nodup_nil⟩);have he12:=Fr.eq hF hn11 (List.forall_mem_cons.2 ⟨⟨jl0,(Gx.back X0 hP (hF.lt jl0))⟩,(fun x hx=>absurd hx (by simp))⟩);exact qU (fun h=>absurd rfl h) (xr (rs:= #[]) TT) ⟨_,hn11,(List.forall_mem_cons.2 ⟨⟨jl0,(ClO.bx (ClL.cons (Cn.cl (Cn.rows qd.cn _) _) (ClL.cons (Cn.cl (.v _) _) (ClL.cons (Cn.cl (.v _) _) (ClL.cons (Cn.cl (.v _) _) (ClL.cons (Cn.cl (.v _) _) (ClL.cons hq.c5 (ClL.cons hq.c6 (ClL.cons hq.c7 (ClL.cons hq.c8 ClL.nil))))))))))⟩,(fun x hx=>absurd hx (by simp))⟩),he12▸hP,_,(.refl _),(.tu CnL.nil),hK⟩
noncomputable def zi (a0:Expr)(f0:Expr→Option Int):(Int×Int)→Option ((Int×Int)⊕Int)
 | (v4, v5) =>
  if(decide (v5<((List.length a0.args:Nat):Int)))then
   ((qS a0.args v5).bind fun y12=>
   (f0 y12).bind fun y15=>
   some (if v4<y15 then y15 else v4):Option Int).bind fun v11=>
   some (.inl (v11,(IntKind.i64.wrap (v5+(1:Int)))))
  else
   some (.inr v4)
noncomputable def B_syntax_Depth (f0:Expr→Option Int)(a0:Expr):Option Int:=
 (qA (zi a0 f0) ((0:Int),(0:Int)):Option Int).bind fun v3=>
 some (IntKind.i64.wrap (v3+(1:Int)))
theorem W_syntax_Depth (f0)(S0:Sat_syntax_Depth f0):Sat_syntax_Depth (B_syntax_Depth f0):=by
 intro a0 r h σ K hK;refine zB Try.func37 rfl rfl (by kernel_rfl) ?_;unfold B_syntax_Depth at h;have hP:=Pre.refl σ;have E0:qu [(.ag (Expr.cl a0))] 0=(.ag (Expr.cl a0)):=rfl;have TT:=cj7 Expr.cle Expr.rlen T_2 T_3 T_37 T_39 T_9;refine qh (fun e s=>∃i1:Nat,Bx σ s i1 39 (Expr.cl a0)∧eP e 1 i1∧Pre σ s) ?_ ?_
 ·refine w_x (cj2 E0 TT) ?_;exact qf ⟨σ.length,(Bx.new hP _ _),(xv (cj2 E0 TT)),(hP.app _)⟩
 rintro e s ⟨i1,X1,E1,hP⟩
 refine qe (w_x Expr.rlen ?_);refine qg (qk (qe (w_x (cj3 E1 X1.get TT) ?_)));refine qg ?_;obtain⟨x1,h2,h⟩:=qb h;refine qh (fun e s=>∃v3,v3=x1∧eI e 3 v3∧Pre σ s) ?_ ?_
 ·refine qn (qX h2 (fun v e s=>∃v4 v5,(v4,v5)=v∧eI e 3 v4∧e 7=(.sl (Expr.rows a0.args))∧eL e 8 a0.args∧eI e 9 v5∧Pre σ s) ⟨_,WkE.refl _,_,_,rfl,(xv TT),(xv TT),(xv TT),(xv TT),hP⟩ ?_)
  rintro v x6 e s hf7 ⟨v4,v5,rfl,E3,E7,E8,E9,hP⟩
  unfold zi at hf7;(try dsimp only at hf7);refine qe (w_x (cj3 E8 E9 TT) ?_);refine qg (qe ?_);rcases qj hf7 with⟨hb8,hf7⟩|⟨hb8,hf7⟩
  ·refine xt hb8 (qm (qg ?_));obtain⟨x9,h10,hf7⟩:=qb hf7;refine qh (fun e s=>∃v11,v11=x9∧eI e 3 v11∧e 7=(.sl (Expr.rows a0.args))∧eL e 8 a0.args∧eI e 9 v5∧Pre σ s) ?_ ?_
   ·refine qn ?_;obtain⟨y12,h13,h10⟩:=qb h10;refine qh (fun e s=>∃i5:Nat,Bx σ s i5 39 (Expr.cl y12)∧eI e 3 v4∧eP e 5 i5∧e 7=(.sl (Expr.rows a0.args))∧eL e 8 a0.args∧eI e 9 v5∧Pre σ s) ?_ ?_
    ·have R14:(Expr.rows a0.args)[(v5).toNat]? =some (Expr.cl y12):=Expr.rget (qp h13).2;have q1:=cj5 E7 E9 R14 (qp h13).1 TT;refine w_x q1 ?_;exact qf ⟨s.length,(Bx.new hP _ _),E3,(xv q1),E7,E8,E9,(hP.app _)⟩
    rintro e s ⟨i5,X5,E3,E5,E7,E8,E9,hP⟩
    obtain⟨y15,h16,h10⟩:=qb h10;have q2:=cj4 E3 E5 X5.get TT;refine w_x q2 ?_;refine S0 _ _ h16 _ _ ?_;refine w_y q2 ?_;refine zc ?_;obtain rfl:=qc h10;exact qf ⟨_,rfl,(xv q2),E7,E8,E9,hP⟩
   rintro e s ⟨v11,rfl,E3,E7,E8,E9,hP⟩
   (try dsimp only at hf7);refine w_x (cj2 E9 TT) ?_;obtain rfl:=qc hf7;exact zK rfl ⟨_,_,rfl,E3,E7,E8,(xv (cj2 E9 TT)),hP⟩
  ·refine xf hb8 (qz (qT ?_));obtain rfl:=qc hf7;refine zo rfl fun hr17=> ?_;obtain rfl:=hr17;exact qG (qf ⟨_,rfl,E3,hP⟩)
 rintro e s ⟨v3,rfl,E3,hP⟩
 (try dsimp only at h);refine qe (w_x (cj2 E3 TT) ?_);refine qg (qo ?_);obtain rfl:=qc h;exact qq (fun _=>rfl) (xr (rs:= #[.tmp 2]) TT) hP (.refl _) (.v _) hK
noncomputable def B_syntax_reader_made (f0:Expr→Option Int)(f1:qa→Int→Int→Option (Unit×qa))(a0:qa)(a1:Expr):Option (Expr×qa):=
 (if(decide (a0.e=(0:Int)))then
  (f0 a1).bind fun y1=>
  some (decide ((20:Int)<y1))
 else
  some false).bind fun w3=>
 (if((decide (a0.e=(0:Int)))&&w3)then
  (f1 a0 a1.at_ (2:Int)).bind fun y10=>
  some y10.2
 else
  some a0:Option qa).bind fun v8=>
 if(!decide (v8.e=(0:Int)))then
  some ((Expr.mk (0:Int) (⟨#[]⟩:ByteArray) (0:Int) (0:Int) ([]) (0:Int)),v8)
 else
  some (a1,v8)
abbrev C130_0 (z0 z1:Store)(z2:Nat):Prop:=Bx z0 z1 z2 39 [(.v (.int .i64 (0:Int))),(.v (.string (⟨#[]⟩:ByteArray))),(.v (.int .i64 (0:Int))),(.v (.int .i64 (0:Int))),.e0,(.v (.int .i64 (0:Int)))]
theorem W_syntax_reader_made (f0 f1)(S0:Sat_syntax_Depth f0)(S1:Sat_syntax_reader_fail f1):Sat_syntax_reader_made (B_syntax_reader_made f0 f1):=by
 intro a0 a1 r h σ K j0 q H0 hq hK;refine Qw (Q:=fun r s=>∃l:List (Nat×AObj),(l.map (·.1)).Nodup∧(∀x∈l,x.1<σ.length∧ClO σ.length x.2)∧Pq σ l K r s) Try.func130 rfl rfl (by kernel_rfl) (fun _ _ h=>h) ?_;unfold B_syntax_reader_made at h;have hP:=Pre.refl σ;have jl0:=H0.lt;have hF:=Fr.refl σ [j0];have E0:qu [(.pt j0 0),(.ag (Expr.cl a1))] 0=(.pt j0 0):=rfl;have E1:qu [(.pt j0 0),(.ag (Expr.cl a1))] 1=(.ag (Expr.cl a1)):=rfl;have TT:=cj13 Expr.cle Expr.rlen T_153 T_155 T_2 T_27 T_3 T_30 T_37 T_39 T_81 T_9 qa.cle;refine qh (fun e s=>∃i3 i4:Nat,∃τ:Store,Gx s j0 (AObj.box 155 (qa.cl q a0))∧Bx σ s i3 39 (Expr.cl a1)∧C130_0 σ s i4∧eP e 0 j0∧eP e 3 i3∧eP e 4 i4∧j0≠i3∧j0≠i4∧i3≠i4∧Fr σ τ [j0]∧Pre τ s) ?_ ?_
 ·have q1:=cj3 E1 H0.g3 TT;refine w_x q1 ?_;have q2:=Bx.newf hF hP 39 (Expr.cl a1);exact qf ⟨σ.length,(σ++[some (AObj.box 39 (Expr.cl a1))]).length,σ,((H0.app [some (AObj.box 39 (Expr.cl a1))]).app [some (AObj.box 39 [(.v (.int .i64 (0:Int))),(.v (.string (⟨#[]⟩:ByteArray))),(.v (.int .i64 (0:Int))),(.v (.int .i64 (0:Int))),.e0,(.v (.int .i64 (0:Int)))])]),(q2.app _),(Bx.newf hF (hP.app _) 39 [(.v (.int .i64 (0:Int))),(.v (.string (⟨#[]⟩:ByteArray))),(.v (.int .i64 (0:Int))),(.v (.int .i64 (0:Int))),.e0,(.v (.int .i64 (0:Int)))]),E0,(xv q1),(xv q1),(Nat.ne_of_lt H0.lt),(Nat.ne_of_lt (H0.app [some (AObj.box 39 (Expr.cl a1))]).lt),(Nat.ne_of_lt q2.lt),hF,((hP.app _).app _)⟩
 rintro e s ⟨i3,i4,τ,X0,X3,X4,E0,E3,E4,N0__3,N0__4,N3__4,hF,hP⟩
 refine qk ?_;obtain⟨w3,h4,h⟩:=qb h;refine qh (fun e s=>∃τ:Store,Gx s j0 (AObj.box 155 (qa.cl q a0))∧Bx σ s i3 39 (Expr.cl a1)∧C130_0 σ s i4∧eP e 0 j0∧eP e 3 i3∧eP e 4 i4∧eB e 14 ((decide (a0.e=(0:Int)))&&w3)∧j0≠i3∧j0≠i4∧i3≠i4∧Fr σ τ [j0]∧Pre τ s) ?_ ?_
 ·cases hb5:(decide (a0.e=(0:Int)))
  ·replace h4:=zx (by simp only[hb5,Bool.or_true,Bool.true_or,Bool.or_false,Bool.false_or,Bool.and_true,Bool.true_and,Bool.and_false,Bool.false_and,Bool.not_true,Bool.not_false,cond_true,cond_false]) h4;obtain rfl:=qc h4;have q3:=cj6 E0 E3 X0.get X3.get hb5 TT;refine w_x q3 ?_;exact qf ⟨τ,X0,X3,X4,E0,E3,E4,(xv q3),N0__3,N0__4,N3__4,hF,hP⟩
  ·replace h4:=qI (by simp only[hb5,Bool.or_true,Bool.true_or,Bool.or_false,Bool.false_or,Bool.and_true,Bool.true_and,Bool.and_false,Bool.false_and,Bool.not_true,Bool.not_false,cond_true,cond_false]) h4;obtain⟨y1,h2,h4⟩:=qb h4;obtain rfl:=qc h4;have q4:=cj6 E0 E3 X0.get X3.get hb5 TT;refine w_x q4 ?_;refine S0 _ _ h2 _ _ ?_;refine w_y q4 ?_;exact qf ⟨τ,X0,X3,X4,E0,E3,E4,(xv q4),N0__3,N0__4,N3__4,hF,hP⟩
 rintro e s ⟨τ,X0,X3,X4,E0,E3,E4,E14,N0__3,N0__4,N3__4,hF,hP⟩
 obtain⟨x6,h7,h⟩:=qb h;refine qh (fun e s=>∃v8,∃τ:Store,v8=x6∧Gx s j0 (AObj.box 155 (qa.cl q v8))∧Bx σ s i3 39 (Expr.cl a1)∧C130_0 σ s i4∧eP e 0 j0∧eP e 3 i3∧eP e 4 i4∧j0≠i3∧j0≠i4∧i3≠i4∧Fr σ τ [j0]∧Pre τ s) ?_ ?_
 ·rcases qj h7 with⟨hb9,h7⟩|⟨hb9,h7⟩
  ·refine xt (cj2 E14 hb9) ?_;obtain⟨y10,h11,h7⟩:=qb h7;have q5:=cj7 E0 E3 X0.get X3.get X0.samea (X3.nea N0__3) TT;refine w_x q5 ?_;refine S1 _ _ _ _ h11 _ _ _ q X0 (hq.le (Fr.gle hF hP)) ?_;refine w_y q5 ?_;obtain rfl:=qc h7;exact qf ⟨_,(List.set τ j0 (some (AObj.box 155 (qa.cl q y10.2)))),rfl,(Gx.same X0 _),(X3.ne N0__3 _),(X4.ne N0__4 _),E0,E3,E4,N0__3,N0__4,N3__4,(hF.set (by simp) (some (AObj.box 155 (qa.cl q y10.2)))),(hP.setp (hF.lt jl0) (some (AObj.box 155 (qa.cl q y10.2))))⟩
  ·refine xf (cj2 E14 hb9) (qm ?_);obtain rfl:=qc h7;exact qf ⟨_,τ,rfl,X0,X3,X4,E0,E3,E4,N0__3,N0__4,N3__4,hF,hP⟩
 rintro e s ⟨v8,τ,rfl,X0,X3,X4,E0,E3,E4,N0__3,N0__4,N3__4,hF,hP⟩
 (try dsimp only at h);refine qk (qe (w_x (cj3 E0 X0.get TT) ?_));refine qg (qe ?_);rcases qj h with⟨hb12,h⟩|⟨hb12,h⟩
 ·refine xt hb12 (qh (fun e s=>∃τ:Store,Gx s j0 (AObj.box 155 (qa.cl q v8))∧C130_0 σ s i4∧eP e 4 i4∧j0≠i4∧Fr σ τ [j0]∧Pre τ s) ?_ ?_)
  ·refine w_x (cj4 E4 X4.get X4.samea TT) ?_;exact qf ⟨τ,(X0.ne (Ne.symm N0__4) _),(X4.same _ _),E4,N0__4,hF,(hP.set (hF.ge X4.le) (some (AObj.box 39 [(.v (.int .i64 (0:Int))),(.v (.string (⟨#[]⟩:ByteArray))),(.v (.int .i64 (0:Int))),(.v (.int .i64 (0:Int))),.e0,(.v (.int .i64 (0:Int)))])))⟩
  rintro e s ⟨τ,X0,X4,E4,N0__4,hF,hP⟩
  refine qo (ze ?_);obtain rfl:=qc h;have hn13:(List.map (·.1) ([(j0,(AObj.box 155 (qa.cl q v8)))]:List (Nat×AObj))).Nodup:=(List.nodup_cons.2 ⟨(fun h=>by simp at h),List.nodup_nil⟩);have he14:=Fr.eq hF hn13 (List.forall_mem_cons.2 ⟨⟨jl0,(Gx.back X0 hP (hF.lt jl0))⟩,(fun x hx=>absurd hx (by simp))⟩);exact qU (fun _=>rfl) (xr (rs:= #[.cell 4 39]) (cj3 X4.get E4 TT)) ⟨_,hn13,(List.forall_mem_cons.2 ⟨⟨jl0,(ClO.bx (ClL.cons (Cn.cl (Cn.rows qd.cn _) _) (ClL.cons (Cn.cl (.v _) _) (ClL.cons (Cn.cl (.v _) _) (ClL.cons (Cn.cl (.v _) _) (ClL.cons (Cn.cl (.v _) _) (ClL.cons hq.c5 (ClL.cons hq.c6 (ClL.cons hq.c7 (ClL.cons hq.c8 ClL.nil))))))))))⟩,(fun x hx=>absurd hx (by simp))⟩),he14▸hP,_,(Wk.agl (.cons (.refl _) (.cons (.refl _) (.cons (.refl _) (.cons (.refl _) (.cons .e0 (.cons (.refl _) .nil))))))),(.ag (CnL.cons (.v _) (CnL.cons (.v _) (CnL.cons (.v _) (CnL.cons (.v _) (CnL.cons Cn.sl0 (CnL.cons (.v _) CnL.nil))))))),hK⟩
 ·refine xf hb12 (qm (qg (qh (fun e s=>∃τ:Store,Gx s j0 (AObj.box 155 (qa.cl q v8))∧Bx σ s i4 39 (Expr.cl a1)∧eP e 4 i4∧j0≠i4∧Fr σ τ [j0]∧Pre τ s) ?_ ?_)))
  ·refine w_x (cj7 E3 E4 X3.get X4.get (X3.nea (Ne.symm N3__4)) X4.samea TT) ?_;exact qf ⟨τ,(X0.ne (Ne.symm N0__4) _),(X4.same _ _),E4,N0__4,hF,(hP.set (hF.ge X4.le) (some (AObj.box 39 (Expr.cl a1))))⟩
  rintro e s ⟨τ,X0,X4,E4,N0__4,hF,hP⟩
  refine qo ?_;obtain rfl:=qc h;have hn15:(List.map (·.1) ([(j0,(AObj.box 155 (qa.cl q v8)))]:List (Nat×AObj))).Nodup:=(List.nodup_cons.2 ⟨(fun h=>by simp at h),List.nodup_nil⟩);have he16:=Fr.eq hF hn15 (List.forall_mem_cons.2 ⟨⟨jl0,(Gx.back X0 hP (hF.lt jl0))⟩,(fun x hx=>absurd hx (by simp))⟩);exact qU (fun _=>rfl) (xr (rs:= #[.cell 4 39]) (cj3 X4.get E4 TT)) ⟨_,hn15,(List.forall_mem_cons.2 ⟨⟨jl0,(ClO.bx (ClL.cons (Cn.cl (Cn.rows qd.cn _) _) (ClL.cons (Cn.cl (.v _) _) (ClL.cons (Cn.cl (.v _) _) (ClL.cons (Cn.cl (.v _) _) (ClL.cons (Cn.cl (.v _) _) (ClL.cons hq.c5 (ClL.cons hq.c6 (ClL.cons hq.c7 (ClL.cons hq.c8 ClL.nil))))))))))⟩,(fun x hx=>absurd hx (by simp))⟩),he16▸hP,_,(.refl _),(.ag (CnL.cons (.v _) (CnL.cons (.v _) (CnL.cons (.v _) (CnL.cons (.v _) (CnL.cons (Expr.cnr _) (CnL.cons (.v _) CnL.nil))))))),hK⟩
end Go.Proofs.Ytohmmfimedgccaa.E
end
section
namespace Go.Proofs.Ytohmmfimedgccaa.E
set_option linter.unusedVariables false
set_option linter.unusedSimpArgs false
noncomputable def qZ:=B_syntax_reader_now
noncomputable def zp:=B_syntax_reader_fail
noncomputable def YO:=B_syntax_reader_take qZ
noncomputable def r_is:=B_syntax_reader_is qZ
noncomputable def zf:=B_syntax_reader_can r_is
noncomputable def ZQ:=B_slices_Contains_string B_slices_Index_string
noncomputable def QG:=B_syntax_reader_name zp Jz YO ZQ
noncomputable def Qi:=B_syntax_reader_number zp YO
noncomputable def zA:=B_syntax_reader_must qZ zp zf
theorem ZX:Sat_syntax_reader_now qZ:=W_syntax_reader_now
theorem Ys:Sat_syntax_reader_fail zp:=W_syntax_reader_fail
theorem z_take:Sat_syntax_reader_take YO:=W_syntax_reader_take _ ZX
theorem z_is:Sat_syntax_reader_is r_is:=W_syntax_reader_is _ ZX
theorem JG:Sat_syntax_reader_can zf:=W_syntax_reader_can _ z_is
theorem z_cont:Sat_slices_Contains_string ZQ:=W_slices_Contains_string _ W_slices_Index_string
theorem Yq:Sat_syntax_reader_name QG:=W_syntax_reader_name _ _ _ _ Ys s_words z_take z_cont
theorem z_num:Sat_syntax_reader_number Qi:=W_syntax_reader_number _ _ Ys z_take
theorem Zr:Sat_syntax_reader_must zA:=W_syntax_reader_must _ _ _ ZX Ys JG
inductive Sm:Expr→Prop
 |mk {e:Expr}:e.args.length≤maxLen→(∀x∈e.args,Sm x)→Sm e
def pDep (e:Expr)(r:Int):Prop:=Sp_syntax_Depth e r∧(e.args=[]→r=1)∧∀x,e.args=[x]→x.args=[]→r=2
noncomputable def r_dep:Expr→Option Int:=pick pDep
theorem z_dep:Sat_syntax_Depth r_dep:=fun _ _ h=>(QY h).1
theorem d_nil {e:Expr}{f:Expr→Option Int}(h:e.args=[]):B_syntax_Depth f e=some 1:=by
 unfold B_syntax_Depth;rw[Qp (r:=0) (by unfold zi;dsimp only;rw[h];rfl)];exact congrArg some (zF (n:=0+1) (by omega) (by omega))
theorem d_one {e x:Expr}{f:Expr→Option Int}(h:e.args=[x])(hx:f x=some 1):B_syntax_Depth f e=some 2:=by
 unfold B_syntax_Depth;have s1:zi e f (0,0)=some (.inl (1,1)):=by
  unfold zi;dsimp only;rw[h,show qS [x] 0=some x from rfl];simp only[Option.bind_some,hx];rfl
 have s2:zi e f (1,1)=some (.inr 1):=by
  unfold zi;dsimp only;rw[h];rfl
 rw[ZL s1,Qp s2];exact congrArg some (zF (n:=1+1) (by omega) (by omega))
theorem t_dep (e:Expr):Sm e→∃r,r_dep e=some r∧pDep e r:=by
 induction e using Expr.induct with
 | h e ih =>
  rintro⟨h1,h2⟩
  obtain⟨r,h3,_⟩:=zn (f:=zi e r_dep) (fun i v=>v.2=(i:Int)) e.args.length (fun _=>True) (fun i v hi hv=>by
   obtain⟨d,_⟩:=v;obtain rfl:=hv;obtain⟨r,hr,_⟩:=ih _ (List.getElem_mem hi) (h2 _ (List.getElem_mem hi));left;unfold zi;dsimp only;rw[dlt hi,zg hi];simp only[if_true,Option.bind_some,hr];exact⟨_,rfl,Zm hi h1⟩) (fun v hv=>by
   obtain⟨d,_⟩:=v;obtain rfl:=hv;unfold zi;dsimp only;rw[dge];exact⟨_,rfl,trivial⟩) (v0:=((0:Int),(0:Int))) rfl
  have hB:∃r,B_syntax_Depth r_dep e=some r:=by
   unfold B_syntax_Depth;rw[h3];exact⟨_,rfl⟩
  obtain⟨r,hr⟩:=hB;refine ZH (P:=pDep) (a:=e) ⟨r,W_syntax_Depth _ z_dep _ _ hr,fun h=> ?_,fun x hx hn=> ?_⟩
  ·rw[d_nil h]at hr;exact(Option.some.inj hr).symm
  ·obtain⟨d,hd,_,hd1,_⟩:=ih x (by rw[hx];exact List.mem_cons_self) (h2 _ (by rw[hx];exact List.mem_cons_self));rw[d_one hx (hd1 hn▸hd)]at hr;exact(Option.some.inj hr).symm
noncomputable def zJ:=B_syntax_reader_made r_dep zp
theorem Yr:Sat_syntax_reader_made zJ:=W_syntax_reader_made _ _ z_dep Ys
structure Cx where
 l:List qd
 en:Int
 k:Nat
 T:Int
 C:List (List UInt8)
structure Cx.ok (X:Cx):Prop where
 hl:X.l.length≤4000
 hat:∀t∈X.l,0≤t.at_∧t.at_≤X.en
 hen:0≤X.en∧X.T≤X.en
 hk:X.k≤X.l.length∧X.k≤X.C.length
 far:∀(j:Nat) t,X.k≤j→X.l[j]? =some t→X.T≤t.at_
 hC:∀(j:Nat) w,j<X.k→X.C[j]? =some w→∃t,X.l[j]? =some t∧t.text=bs w∧t.kind=kd w∧t.kind≠0
variable {X:Cx} {r r':qa} {Q Q':List (List UInt8)→Prop}
structure In (X:Cx)(r:qa):Prop where
 l:r.l=X.l
 en:r.end_=X.en
 pos:0≤r.pos
structure Fz (X:Cx)(r:qa):Prop extends In X r where
 e:r.e=0
 lo:(X.k:Int)≤r.pos
 hi:r.pos≤(X.l.length:Int)
structure Er (X:Cx)(r:qa):Prop extends In X r where
 e:r.e≠0
 hi:r.pos≤4005
 at_:0≤r.at_∧r.at_≤X.en
 far:r.e=1→X.T≤r.at_
structure Vd (X:Cx)(D:List (List UInt8))(r:qa):Prop extends In X r where
 e:r.e=0
 hi:r.pos<(X.k:Int)
 D:X.C.drop r.pos.toNat=D
def Fa (X:Cx)(r:qa):Prop:=Fz X r∨Er X r
def St (X:Cx)(Q:List (List UInt8)→Prop)(r:qa):Prop:=Fa X r∨∃D,Q D∧Vd X D r
theorem St.mono (h:St X Q r)(hq:∀D,Q D→Q' D):St X Q' r:=h.imp id fun⟨D,h1,h2⟩=>⟨D,hq D h1,h2⟩
theorem St.F (h:St X Q r)(hq:∀D,¬Q D):Fa X r:=h.elim id fun⟨D,h1,_⟩=>absurd h1 (hq D)
theorem St.in (h:St X Q r):In X r:=by
 rcases h with(h|h)|⟨D,_,h⟩
 ·exact h.toIn
 ·exact h.toIn
 ·exact h.toIn
theorem St.hi (hX:X.ok)(h:St X Q r):r.pos≤4005∧(r.e=0→r.pos≤(X.l.length:Int)):=by
 have:=hX.hl;have:=hX.hk;rcases h with(h|h)|⟨D,_,h⟩
 ·have:=h.hi;exact⟨by omega,fun _=>this⟩
 ·exact⟨h.hi,fun e=>absurd e h.e⟩
 ·have:=h.hi;exact⟨by omega,fun _=>by omega⟩
theorem Vd.cons (hX:X.ok){D:List (List UInt8)}(h:Vd X D r):∃w D',D=w::D'∧∃t,X.l[r.pos.toNat]? =some t∧t.text=bs w∧t.kind=kd w∧t.kind≠0:=by
 have h1:=h.hi;have h2:=h.pos;have h3:=hX.hk;have hlt:r.pos.toNat<X.C.length:=by omega
 have:=h.D;rw[List.drop_eq_getElem_cons hlt]at this;exact⟨_,_,this.symm,hX.hC _ _ (by omega) (List.getElem?_eq_getElem hlt)⟩
theorem now_in (hX:X.ok)(h:In X r):∃t,qZ r=some t∧(0≤t.at_∧t.at_≤X.en)∧((X.k:Int)≤r.pos→X.T≤t.at_)∧(t.kind≠0→r.pos<(X.l.length:Int))∧(r.pos<(X.l.length:Int)→X.l[r.pos.toNat]? =some t):=by
 unfold qZ B_syntax_reader_now;rw[h.l,h.en];have hp:=h.pos;by_cases hl:(X.l.length:Int)≤r.pos
 ·rw[decide_eq_true hl];exact⟨_,rfl,⟨hX.hen.1,Int.le_refl _⟩,fun _=>hX.hen.2,fun h=>absurd rfl h,fun h=>by omega⟩
 ·rw[decide_eq_false hl];have hlt:r.pos.toNat<X.l.length:=by omega
  unfold qS;rw[if_pos hp,List.getElem?_eq_getElem hlt];exact⟨_,rfl,hX.hat _ (List.getElem_mem hlt),fun hk=>hX.far _ _ (by omega) (List.getElem?_eq_getElem hlt),fun _=>by omega,fun _=>rfl⟩
def Hd (t:qd)(D:List (List UInt8)):Prop:=∃w D',D=w::D'∧t.text=bs w∧t.kind=kd w∧t.kind≠0
theorem QV (hX:X.ok)(h:St X Q r):∃t,qZ r=some t∧(0≤t.at_∧t.at_≤X.en)∧((X.k:Int)≤r.pos→X.T≤t.at_)∧(t.kind≠0→r.pos<(X.l.length:Int))∧St X (fun D=>Q D∧Hd t D) r:=by
 obtain⟨t,h1,h2,h3,h4,h5⟩:=now_in hX h.in;refine⟨t,h1,h2,h3,h4,h.imp id ?_⟩
 rintro⟨D,hq,hv⟩
 obtain⟨w,D',hD,t',e1,e2⟩:=hv.cons hX;have:=hv.hi;have:=hX.hk;rw[h5 (by omega)]at e1;obtain rfl:=Option.some.inj e1;exact⟨D,⟨hq,w,D',hD,e2⟩,hv⟩
abbrev inc (r:qa):qa:=⟨r.l,r.end_,IntKind.i64.wrap (r.pos+1),r.at_,r.e,r.p⟩
theorem JC (h:In X r)(hp:r.pos≤4005):(inc r).pos=r.pos+1:=by
 have:=h.pos;exact zF (by omega) (by omega)
theorem inc_in (h:In X r)(hp:r.pos≤4005):In X (inc r):=⟨h.l,h.en,by rw[JC h hp];have:=h.pos;omega⟩
theorem qqE (hX:X.ok)(h:St X Q r)(hp:r.pos≤4004)(h0:r.e=0→r.pos<(X.l.length:Int))(hq:∀D,Q D→∃w D',D=w::D'∧Q' D'):St X Q' (inc r):=by
 have hi:=h.in;have e:=JC hi (by omega);have hin:=inc_in hi (by omega);rcases h with(h|h)|⟨D,h1,h⟩
 ·exact .inl (.inl {toIn:=hin,e:=h.e,lo:=by rw[e];have:=h.lo;omega,hi:=by rw[e];have:=h0 h.e;omega})
 ·exact .inl (.inr {toIn:=hin,e:=h.e,hi:=by rw[e];omega,at_:=h.at_,far:=h.far})
 ·obtain⟨w,D',rfl,h2⟩:=hq D h1;have:=h.hi;have:=h.pos;have:=hX.hk;by_cases hk:r.pos+1<(X.k:Int)
  ·refine .inr ⟨D',h2,{toIn:=hin,e:=h.e,hi:=by rw[e];exact hk,D:= ?_}⟩;rw[e,show(r.pos+1).toNat=r.pos.toNat+1 by omega];have:=congrArg List.tail h.D;simpa using this
  ·exact .inl (.inl {toIn:=hin,e:=h.e,lo:=by rw[e];omega,hi:=by rw[e];omega})
theorem JD (hX:X.ok)(h:St X Q r){a c:Int}(ha:0≤a∧a≤X.en)(hc:c≠0)(h1:c=1→Fa X r∧((X.k:Int)≤r.pos→X.T≤a)):∃r',zp r a c=some ((),r')∧Fa X r'∧r'.pos=r.pos∧r'.e≠0:=by
 have hp:=(h.hi hX).1;unfold zp B_syntax_reader_fail;by_cases he:r.e=0
 ·rw[decide_eq_true he];refine⟨_,rfl,.inr {toIn:=⟨h.in.l,h.in.en,h.in.pos⟩,e:=hc,hi:=hp,at_:=ha,far:=fun h2=> ?_},rfl,hc⟩;obtain⟨h3,h4⟩:=h1 h2;rcases h3 with h3|h3
  ·exact h4 h3.lo
  ·exact absurd he h3.e
 ·rw[decide_eq_false he];refine⟨r,rfl,?_,rfl,he⟩;rcases h with h|⟨D,_,h⟩
  ·exact h
  ·exact absurd h.e he
theorem is_st (hX:X.ok)(h:St X Q r)(s:List UInt8):∃b,r_is r (bs s)=some b∧(b=true→r.e=0∧r.pos<(X.l.length:Int)∧St X (fun D=>Q D∧∃D',D=s::D') r)∧(b=false→St X (fun D=>Q D∧D.head?≠some s) r):=by
 obtain⟨t,h1,_,_,h4,h5⟩:=QV hX h;unfold r_is B_syntax_reader_is;rw[h1];refine⟨_,rfl,fun hb=> ?_,fun hb=> ?_⟩
 ·simp only[Bool.and_eq_true,decide_eq_true_eq,Bool.not_eq_true',decide_eq_false_iff_not]at hb;refine⟨hb.1.1,h4 hb.2,h5.mono fun D ⟨hq,w,D',hD,e1,_⟩=>⟨hq,D',?_⟩⟩;rw[hb.1.2,YE]at e1;rw[hD,e1]
 ·refine h5.imp id ?_
  rintro⟨D,⟨hq,w,D',hD,e1,e2,e3⟩,hv⟩
  refine⟨D,⟨hq,fun hh=> ?_⟩,hv⟩;rw[hD]at hh;obtain rfl:=Option.some.inj hh;rw[decide_eq_true hv.e,decide_eq_true e1,decide_eq_false e3]at hb;cases hb
theorem zL (hX:X.ok)(h:St X Q r)(s:List UInt8):∃b r',zf r (bs s)=some (b,r')∧(b=true→r.e=0∧r'.pos=r.pos+1∧r.pos<(X.l.length:Int)∧St X (fun D=>Q (s::D)) r')∧(b=false→r'=r∧St X (fun D=>Q D∧D.head?≠some s) r):=by
 obtain⟨b,h1,h2,h3⟩:=is_st hX h s;unfold zf B_syntax_reader_can;rw[h1];cases b with
 |false=>exact⟨false,r,rfl,fun h=>(by cases h),fun _=>⟨rfl,h3 rfl⟩⟩
 | true =>
  obtain⟨e,hlt,hs⟩:=h2 rfl;have hl:=hX.hl;refine⟨true,inc r,rfl,fun _=>⟨e,JC h.in (by omega),hlt,qqE hX hs (by omega) (fun _=>hlt) ?_⟩,fun h=>(by cases h)⟩
  rintro D ⟨hq,D',rfl⟩
  exact⟨s,D',rfl,hq⟩
theorem zH (hX:X.ok)(h:St X Q r)(s:List UInt8)(hq:∀D,Q D→∃D',D=s::D'∧Q' D'):∃r',zA r (bs s)=some ((),r')∧r.pos≤r'.pos∧r'.pos≤r.pos+1∧St X Q' r':=by
 obtain⟨b,r1,h1,h2,h3⟩:=zL hX h s;unfold zA B_syntax_reader_must;rw[h1];cases b with
 | true =>
  obtain⟨_,h4,_,h5⟩:=h2 rfl;refine⟨r1,rfl,by omega,by omega,h5.mono fun D hD=> ?_⟩;obtain⟨D',e,hQ⟩:=hq _ hD;cases e;exact hQ
 | false =>
  obtain⟨rfl,h4⟩:=h3 rfl;have hF:Fa X r1:=h4.F fun D ⟨hD,hn⟩=>by
   obtain⟨D',rfl,_⟩:=hq D hD;exact hn rfl
  obtain⟨t,k1,k2,k3,_,_⟩:=QV hX h4;obtain⟨r2,k4,k5,k6,_⟩:=JD hX h4 (c:=1) k2 (by decide) (fun _=>⟨hF,k3⟩);refine⟨r2,?_,by omega,by omega,.inl k5⟩;simp[k1,k4]
theorem take_eq {t:qd}(h:qZ r=some t):YO r=some (t,inc r):=by
 unfold YO B_syntax_reader_take;rw[h];rfl
theorem cont_eq (l:List ByteArray)(s:ByteArray)(hl:l.length≤100):∃b,ZQ l s=some b∧(b=true↔s∈l):=by
 unfold ZQ B_slices_Contains_string B_slices_Index_string;obtain⟨v,h1,h2⟩:=zn (f:=zI l s) (fun i v=>v=(i:Int)∧∀(j:Nat) (hj:j<l.length),j<i→s≠l[j]) l.length (fun v=>(∃i:Int,v=.inl i∧0≤i∧s∈l)∨(v=.inr ()∧s∉l)) (fun i v hi hv=>by
  obtain⟨rfl,hv⟩:=hv;unfold zI;dsimp only;rw[dlt hi];simp only[if_true,zg hi,Option.bind_some];by_cases he:s=l[i]
  ·rw[decide_eq_true he];exact .inr ⟨_,rfl,.inl ⟨_,rfl,by omega,he▸List.getElem_mem hi⟩⟩
  ·rw[decide_eq_false he];refine .inl ⟨_,rfl,Zm hi (ml (by omega)),fun j hj hlt=> ?_⟩;by_cases hji:j=i
   ·subst hji;exact he
   ·exact hv j hj (by omega)) (fun v hv=>by
  obtain⟨rfl,hv⟩:=hv;unfold zI;dsimp only;rw[dge];refine⟨_,rfl,.inr ⟨rfl,fun hm=> ?_⟩⟩;obtain⟨j,hj,e⟩:=List.getElem_of_mem hm;exact hv j hj hj e.symm) (v0:=(0:Int)) ⟨rfl,fun j _ h=>by omega⟩
 rw[h1];rcases h2 with⟨i,rfl,h3,h4⟩|⟨rfl,h3⟩
 ·exact⟨_,rfl,by simp[h3,h4]⟩
 ·exact⟨_,rfl,by simp[h3]⟩
theorem Jh (hX:X.ok)(h:St X Q r)(hp:r.pos≤4004)(hq:∀D,Q D→∃w D',D=w::D'∧kd w=1∧bs w∉qE∧Q' D'):∃t r',QG r=some (t,r')∧(0≤t.at_∧t.at_≤X.en)∧r'.pos=r.pos+1∧St X Q' r':=by
 obtain⟨t,h1,h2,h3,h4,h5⟩:=QV hX h;obtain⟨b,c1,c2⟩:=cont_eq qE t.text (by decide);unfold QG B_syntax_reader_name Jz B_lex_Words;rw[take_eq h1];have hip:=JC h.in (by omega);have bad:(¬t.kind=1∨b=true)→∃r2,zp (inc r) t.at_ 1=some ((),r2)∧r2.pos=r.pos+1∧St X Q' r2:=fun hb=>by
  have hF:Fa X r:=h5.F fun D ⟨hD,w,D',e,e1,e2,_⟩=>by
   obtain⟨w',D2,e',k1,k2,_⟩:=hq D hD;rw[e]at e';cases e';rcases hb with hb|hb
   ·exact hb (by rw[e2,k1])
   ·exact k2 (e1▸c2.1 hb)
  have hin:=inc_in h.in (by omega);unfold zp B_syntax_reader_fail;by_cases he:r.e=0
  ·rw[decide_eq_true he];refine⟨_,rfl,hip,.inl (.inr {toIn:=⟨hin.l,hin.en,hin.pos⟩,e:=by simp,hi:=by show(inc r).pos≤_;omega,at_:=h2,far:=fun _=> ?_})⟩;rcases hF with hF|hF
   ·exact h3 hF.lo
   ·exact absurd he hF.e
  ·rw[decide_eq_false he];refine⟨_,rfl,hip,?_⟩;rcases hF with hF|hF
   ·exact absurd hF.e he
   ·exact .inl (.inr {toIn:=hin,e:=he,hi:=by omega,at_:=hF.at_,far:=hF.far})
 have good:t.kind=1→St X Q' (inc r):=fun hk=>qqE hX h hp (fun _=>h4 (by rw[hk];decide)) fun D hD=>by
  obtain⟨w',D2,e',_,_,k3⟩:=hq D hD;exact⟨w',D2,e',k3⟩
 by_cases hk:t.kind=1
 ·simp only[Option.bind_some,hk,decide_true,Bool.not_true,Bool.false_eq_true,if_false,Bool.false_or,c1];cases b with
  | true =>
   obtain⟨r2,k1,k2,k3⟩:=bad (.inr rfl);exact⟨t,r2,by simp[c1,k1],h2,k2,k3⟩
  |false=>exact⟨t,inc r,by simp[c1],h2,hip,good hk⟩
 ·obtain⟨r2,k1,k2,k3⟩:=bad (.inl hk);exact⟨t,r2,by simp[hk,k1],h2,k2,k3⟩
theorem Yz (hX:X.ok)(h:St X Q r)(hp:r.pos≤4004)(lo hi:Int)(hq:∀D,Q D→∃w D',D=w::D'∧kd w=2∧Q' D'):∃n r',Qi r lo hi=some (n,r')∧r'.pos=r.pos+1∧St X Q' r':=by
 obtain⟨t,h1,h2,h3,h4,h5⟩:=QV hX h;unfold Qi B_syntax_reader_number;rw[take_eq h1];have hip:=JC h.in (by omega);have hin:=inc_in h.in (by omega);by_cases hk:t.kind=2
 ·have good:St X Q' (inc r):=qqE hX h hp (fun _=>h4 (by rw[hk];decide)) fun D hD=>by
   obtain⟨w',D2,e',_,k3⟩:=hq D hD;exact⟨w',D2,e',k3⟩
  simp only[Option.bind_some,hk,decide_true,Bool.not_true,Bool.false_eq_true,if_false];split
  ·obtain⟨r2,k1,k2,k3,_⟩:=JD hX good (a:=t.at_) (c:=7) h2 (by decide) (fun h=>by cases h);exact⟨t.n,r2,by simp[k1],by omega,.inl k2⟩
  ·exact⟨_,inc r,rfl,hip,good⟩
 ·have hF:Fa X r:=h5.F fun D ⟨hD,w,D',e,e1,e2,_⟩=>by
   obtain⟨w',D2,e',k1,_⟩:=hq D hD;rw[e]at e';cases e';exact hk (by rw[e2,k1])
  have bad:∃r2,zp (inc r) t.at_ 1=some ((),r2)∧r2.pos=r.pos+1∧St X Q' r2:=by
   unfold zp B_syntax_reader_fail;by_cases he:r.e=0
   ·rw[decide_eq_true he];refine⟨_,rfl,hip,.inl (.inr {toIn:=⟨hin.l,hin.en,hin.pos⟩,e:=by simp,hi:=by show(inc r).pos≤_;omega,at_:=h2,far:=fun _=> ?_})⟩;rcases hF with hF|hF
    ·exact h3 hF.lo
    ·exact absurd he hF.e
   ·rw[decide_eq_false he];refine⟨_,rfl,hip,?_⟩;rcases hF with hF|hF
    ·exact absurd hF.e he
    ·exact .inl (.inr {toIn:=hin,e:=he,hi:=by omega,at_:=hF.at_,far:=hF.far})
  obtain⟨r2,k1,k2,k3⟩:=bad;exact⟨t.n,r2,by simp[hk,k1],k2,k3⟩
def nilE:Expr:=Expr.mk 0 (bs []) 0 0 [] 0
theorem qqv:Sm nilE:=⟨by simp[nilE],fun x hx=>by cases hx⟩
theorem Qt (hX:X.ok)(h:St X Q r){e:Expr}(he:Sm e)(ha:0≤e.at_∧e.at_≤X.en):∃e' r',zJ r e=some (e',r')∧Sm e'∧r'.pos=r.pos∧St X Q r':=by
 unfold zJ B_syntax_reader_made;by_cases h0:r.e=0
 ·obtain⟨d,hd,_⟩:=t_dep e he;simp only[decide_eq_true h0,if_true,hd,Option.bind_some,Bool.true_and];by_cases hd20:20<d
  ·obtain⟨r2,k1,k2,k3,_⟩:=JD hX h (a:=e.at_) (c:=2) ha (by decide) (fun h=>by cases h);simp only[decide_eq_true hd20,if_true,k1,Option.bind_some];split
   ·exact⟨_,r2,rfl,qqv,k3,.inl k2⟩
   ·exact⟨_,r2,rfl,he,k3,.inl k2⟩
  ·simp only[decide_eq_false hd20,Bool.false_eq_true,if_false,Option.bind_some,decide_eq_true h0,Bool.not_true];exact⟨_,r,rfl,he,rfl,h⟩
 ·simp only[decide_eq_false h0,Bool.false_eq_true,if_false,Bool.false_and,Option.bind_some,Bool.not_false,if_true];exact⟨_,r,rfl,qqv,rfl,h⟩
end Go.Proofs.Ytohmmfimedgccaa.E
end
section
namespace Go.Proofs.Ytohmmfimedgccaa.E
set_option maxRecDepth 100000
set_option maxHeartbeats 4000000
set_option linter.unusedVariables false
set_option linter.unusedSimpArgs false
noncomputable def B_syntax_reader_atom_c1 (f0:qa→Option (Expr×qa))(a0:Expr)(a1:qa):Option (Unit×Expr×qa):=
 (f0 a1).bind fun y1=>
 (Ql 72 a0.args [y1.1]).bind fun y3=>
 some ((),(Expr.mk a0.kind a0.name a0.n a0.d y3 a0.at_,y1.2))
theorem W_syntax_reader_atom_c1 (f0)(S0:Sat_syntax_reader_expr f0):Sat_syntax_reader_atom_c1 (B_syntax_reader_atom_c1 f0):=by
 intro a0 a1 r h σ K j0 j0_4 j1 j1_900 q H0 H0_4 H1 H1_900 N0__1 N0__1_900 N1__1_900 hq hK;refine Qw (Q:=fun r s=>∃l:List (Nat×AObj),(l.map (·.1)).Nodup∧(∀x∈l,x.1<σ.length∧ClO σ.length x.2)∧Pq σ l K r s) Try.func138 rfl rfl (by kernel_rfl) (fun _ _ h=>h) ?_;unfold B_syntax_reader_atom_c1 at h;have hP:=Pre.refl σ;have jl0:=H0.lt;have jl0_4:=H0_4.lt;have jl1:=H1.lt;have jl1_900:=H1_900.lt;have hF:=Fr.refl σ [j0,j0_4,j1_900];have E0:qu [(.pt j0 0),(.pt j1 0)] 0=(.pt j0 0):=rfl;have E1:qu [(.pt j0 0),(.pt j1 0)] 1=(.pt j1 0):=rfl;have TT:=cj9 Expr.cle Expr.rlen T_153 T_2 T_3 T_37 T_39 T_9 qa.cle;obtain⟨y1,h2,h⟩:=qb h;obtain⟨y3,h4,h⟩:=qb h;obtain rfl:=qc h;obtain⟨hb,hy3⟩:=zG h4;have hk:List.length y3=(List.length a0.args)+1:=by rw[←hy3];simp
 have hkz:((Expr.rows a0.args)++[[(PV.v (.int .i64 (0:Int))),(PV.v (.string (⟨#[]⟩:ByteArray))),(PV.v (.int .i64 (0:Int))),(PV.v (.int .i64 (0:Int))),(PV.v (.slice none 0 0)),(PV.v (.int .i64 (0:Int)))]]).length=(List.length y3):=by rw[List.length_append,Expr.rlen,hk];rfl
 have q4:=Gx.ap H1_900 H0_4;have q3:=Gx.ap H0_4 H1_900;have q2:=Gx.ap H0_4 H0;have q1:=Gx.ap H0_4 H1;have p2:=Gx.ap H0 H0_4;have v0:=H0_4.ne q4 (some (AObj.box 155 (qa.cl q y1.2)));have R10:=vc_len (rows:=(Expr.rows a0.args)) (n:=(List.length a0.args)) T_37 (hget H0_4.get q4) (by simp[Expr.rlen]);simp only[lenX,T_37]at R10;have ha:=vc_app (i:=j0_4) (s:=(List.set σ j1_900 (some (AObj.box 155 (qa.cl q y1.2))))) (n:=(List.length a0.args)) (k:=(List.length y3)) (x:=(.sl [[(PV.v (.int .i64 (0:Int))),(PV.v (.string (⟨#[]⟩:ByteArray))),(PV.v (.int .i64 (0:Int))),(PV.v (.int .i64 (0:Int))),(PV.v (.slice none 0 0)),(PV.v (.int .i64 (0:Int)))]])) (rows:=(Expr.rows a0.args)) (ns:=[[(PV.v (.int .i64 (0:Int))),(PV.v (.string (⟨#[]⟩:ByteArray))),(PV.v (.int .i64 (0:Int))),(PV.v (.int .i64 (0:Int))),(PV.v (.slice none 0 0)),(PV.v (.int .i64 (0:Int)))]]) (vr:=(Expr.rows a0.args)++[[(PV.v (.int .i64 (0:Int))),(PV.v (.string (⟨#[]⟩:ByteArray))),(PV.v (.int .i64 (0:Int))),(PV.v (.int .i64 (0:Int))),(PV.v (.slice none 0 0)),(PV.v (.int .i64 (0:Int)))]]) T_37 T_39 v0.get (by simp[Expr.rlen]) (Jg rfl) (by simp) (by decide) (by simpa using hb) rfl hkz rfl;have v1:=Gx.same v0 (vcO 39 6 ((Expr.rows a0.args)++[[(PV.v (.int .i64 (0:Int))),(PV.v (.string (⟨#[]⟩:ByteArray))),(PV.v (.int .i64 (0:Int))),(PV.v (.int .i64 (0:Int))),(PV.v (.slice none 0 0)),(PV.v (.int .i64 (0:Int)))]]));have RZ:((Expr.rows a0.args)++[[(PV.v (.int .i64 (0:Int))),(PV.v (.string (⟨#[]⟩:ByteArray))),(PV.v (.int .i64 (0:Int))),(PV.v (.int .i64 (0:Int))),(PV.v (.slice none 0 0)),(PV.v (.int .i64 (0:Int)))]])[(List.length a0.args)]? =some [(PV.v (.int .i64 (0:Int))),(PV.v (.string (⟨#[]⟩:ByteArray))),(PV.v (.int .i64 (0:Int))),(PV.v (.int .i64 (0:Int))),(PV.v (.slice none 0 0)),(PV.v (.int .i64 (0:Int)))]:=by rw[List.getElem?_append_right (by rw[Expr.rlen];exact Nat.le_refl _),Expr.rlen,Nat.sub_self];rfl
 have hall:∀r∈(Expr.rows a0.args)++[[(PV.v (.int .i64 (0:Int))),(PV.v (.string (⟨#[]⟩:ByteArray))),(PV.v (.int .i64 (0:Int))),(PV.v (.int .i64 (0:Int))),(PV.v (.slice none 0 0)),(PV.v (.int .i64 (0:Int)))]],r.length=6:=fun r hr=>by
  rcases List.mem_append.1 hr with h|h
  · exact Expr.rall _ r h
  · rw[List.mem_singleton.1 h];rfl
 have hset:((Expr.rows a0.args)++[[(PV.v (.int .i64 (0:Int))),(PV.v (.string (⟨#[]⟩:ByteArray))),(PV.v (.int .i64 (0:Int))),(PV.v (.int .i64 (0:Int))),(PV.v (.slice none 0 0)),(PV.v (.int .i64 (0:Int)))]]).set (List.length a0.args) (zz [(PV.v (.int .i64 (0:Int))),(PV.v (.string (⟨#[]⟩:ByteArray))),(PV.v (.int .i64 (0:Int))),(PV.v (.int .i64 (0:Int))),(PV.v (.slice none 0 0)),(PV.v (.int .i64 (0:Int)))] 0 (Expr.cl y1.1))=Expr.rows y3:=by
  rw[←hy3,Expr.rows_app,List.set_append_right _ _ (by rw[Expr.rlen];exact Nat.le_refl _),Expr.rlen,Nat.sub_self,Expr.rows_eq [y1.1]];rfl
 have fp:List.take ((List.length a0.args)*6) (List.flatten ((Expr.rows a0.args)++[[(PV.v (.int .i64 (0:Int))),(PV.v (.string (⟨#[]⟩:ByteArray))),(PV.v (.int .i64 (0:Int))),(PV.v (.int .i64 (0:Int))),(PV.v (.slice none 0 0)),(PV.v (.int .i64 (0:Int)))]]))++(Expr.cl y1.1)++List.drop ((List.length a0.args)*6+6) (List.flatten ((Expr.rows a0.args)++[[(PV.v (.int .i64 (0:Int))),(PV.v (.string (⟨#[]⟩:ByteArray))),(PV.v (.int .i64 (0:Int))),(PV.v (.int .i64 (0:Int))),(PV.v (.slice none 0 0)),(PV.v (.int .i64 (0:Int)))]]))=List.flatten (Expr.rows y3):=vc_put (sz:=6) (j:=(List.length a0.args)) (off:=0) (k:=6) hall RZ rfl (by decide) hset;have fv:=vc_vec (rows:=(Expr.rows y3)) (n:=(List.length y3)) (sz:=6) (by intro h0;have h1:=congrArg List.length h0;rw[Expr.rlen,hk]at h1;exact absurd h1 (by simp)) (Expr.rlen _) 39;have fit:=setO_fit (sz:=6) (rows:=(Expr.rows a0.args)++[[(PV.v (.int .i64 (0:Int))),(PV.v (.string (⟨#[]⟩:ByteArray))),(PV.v (.int .i64 (0:Int))),(PV.v (.int .i64 (0:Int))),(PV.v (.slice none 0 0)),(PV.v (.int .i64 (0:Int)))]]) (o:=0) (k:=6) hall RZ (by decide);have fi0:((0:Int)≤(((List.length a0.args):Nat):Int))=True:=eq_true (Int.natCast_nonneg _);have fi1:((((List.length a0.args):Nat):Int)<(((List.length y3):Nat):Int))=True:=eq_true (by rw[hk];omega);have fi2:(((List.length a0.args):Nat):Int).toNat=(List.length a0.args):=rfl;have b1:=(H0.ne (Ne.symm N0__1_900) (some (AObj.box 155 (qa.cl q y1.2)))).ne q2 (some (vcO 39 6 ((Expr.rows a0.args)++[[(PV.v (.int .i64 (0:Int))),(PV.v (.string (⟨#[]⟩:ByteArray))),(PV.v (.int .i64 (0:Int))),(PV.v (.int .i64 (0:Int))),(PV.v (.slice none 0 0)),(PV.v (.int .i64 (0:Int)))]])));have g1:=vc_get (n:=(List.length y3)) v1.get RZ hkz;have g2:=vc_get (n:=(List.length y3)) (v1.ne p2 (some (AObj.box 39 [(PV.v (.int .i64 a0.kind)),(.v (.string a0.name)),(.v (.int .i64 a0.n)),(.v (.int .i64 a0.d)),(.vc j0_4 (List.length y3)),(.v (.int .i64 a0.at_))]))).get RZ hkz;have b2:=b1.ne q2 (some (vcO 39 6 (Expr.rows y3)));have q5:=hget H1.get (Ne.symm N1__1_900);have q6:=hget H0.get (Ne.symm N0__1_900);have q7:=Gx.same H1_900 (AObj.box 155 (qa.cl q y1.2));have hn19:(List.map (·.1) ([(j0,(AObj.box 39 [(PV.v (.int .i64 a0.kind)),(.v (.string a0.name)),(.v (.int .i64 a0.n)),(.v (.int .i64 a0.d)),(.vc j0_4 (List.length y3)),(.v (.int .i64 a0.at_))])),(j0_4,(vcO 39 6 (Expr.rows y3))),(j1_900,(AObj.box 155 (qa.cl q y1.2)))]:List (Nat×AObj))).Nodup:=(List.nodup_cons.2 ⟨(by simp only[List.map_cons,List.map_nil,List.mem_cons,List.not_mem_nil,or_false,not_or];exact⟨p2,N0__1_900⟩),(List.nodup_cons.2 ⟨(by simp only[List.map_cons,List.map_nil,List.mem_cons,List.not_mem_nil,or_false,not_or];exact q3),(List.nodup_cons.2 ⟨(fun h=>by simp at h),List.nodup_nil⟩)⟩)⟩);have fin:∀e:Env,∀s,s=List.set (List.set (List.set σ j1_900 (some (AObj.box 155 (qa.cl q y1.2)))) j0_4 (some (vcO 39 6 (Expr.rows y3)))) j0 (some (AObj.box 39 [(PV.v (.int .i64 a0.kind)),(.v (.string a0.name)),(.v (.int .i64 a0.n)),(.v (.int .i64 a0.d)),(.vc j0_4 (List.length y3)),(.v (.int .i64 a0.at_))]))→Bd E.T Try.f138 (fun r s=>∃l:List (Nat×AObj),(l.map (·.1)).Nodup∧(∀x∈l,x.1<σ.length∧ClO σ.length x.2)∧Pq σ l K r s) .nrm e s:=by
  rintro e s rfl
  have f1:=hF.set (i:=j1_900) (by simp) (some (AObj.box 155 (qa.cl q y1.2)));have f2:=f1.set (i:=j0_4) (by simp) (some (vcO 39 6 (Expr.rows y3)));have f3:=f2.set (i:=j0) (by simp) (some (AObj.box 39 [(PV.v (.int .i64 a0.kind)),(.v (.string a0.name)),(.v (.int .i64 a0.n)),(.v (.int .i64 a0.d)),(.vc j0_4 (List.length y3)),(.v (.int .i64 a0.at_))]));have r1:=hP.setp (hF.lt jl1_900) (some (AObj.box 155 (qa.cl q y1.2)));have r2:=r1.setp (f1.lt jl0_4) (some (vcO 39 6 (Expr.rows y3)));have r3:=r2.setp (f2.lt jl0) (some (AObj.box 39 [(PV.v (.int .i64 a0.kind)),(.v (.string a0.name)),(.v (.int .i64 a0.n)),(.v (.int .i64 a0.d)),(.vc j0_4 (List.length y3)),(.v (.int .i64 a0.at_))]));have x0:=Gx.same ((H0.ne (Ne.symm N0__1_900) (some (AObj.box 155 (qa.cl q y1.2)))).ne q2 (some (vcO 39 6 (Expr.rows y3)))) (AObj.box 39 [(PV.v (.int .i64 a0.kind)),(.v (.string a0.name)),(.v (.int .i64 a0.n)),(.v (.int .i64 a0.d)),(.vc j0_4 (List.length y3)),(.v (.int .i64 a0.at_))]);have x1:=(Gx.same v0 (vcO 39 6 (Expr.rows y3))).ne p2 (some (AObj.box 39 [(PV.v (.int .i64 a0.kind)),(.v (.string a0.name)),(.v (.int .i64 a0.n)),(.v (.int .i64 a0.d)),(.vc j0_4 (List.length y3)),(.v (.int .i64 a0.at_))]));have x2:=(q7.ne q3 (some (vcO 39 6 (Expr.rows y3)))).ne N0__1_900 (some (AObj.box 39 [(PV.v (.int .i64 a0.kind)),(.v (.string a0.name)),(.v (.int .i64 a0.n)),(.v (.int .i64 a0.d)),(.vc j0_4 (List.length y3)),(.v (.int .i64 a0.at_))]));have he:=Fr.eq f3 hn19 (List.forall_mem_cons.2 ⟨⟨jl0,(Gx.back x0 r3 (f3.lt jl0))⟩,(List.forall_mem_cons.2 ⟨⟨jl0_4,(Gx.back x1 r3 (f3.lt jl0_4))⟩,(List.forall_mem_cons.2 ⟨⟨jl1_900,(Gx.back x2 r3 (f3.lt jl1_900))⟩,(fun x hx=>absurd hx (by simp))⟩)⟩)⟩);exact qU (fun h=>absurd rfl h) (xr (rs:= #[]) TT) ⟨_,hn19,(List.forall_mem_cons.2 ⟨⟨jl0,(ClO.bx (ClL.cons (Cn.cl (.v _) _) (ClL.cons (Cn.cl (.v _) _) (ClL.cons (Cn.cl (.v _) _) (ClL.cons (Cn.cl (.v _) _) (ClL.cons (Cl.vc jl0_4) (ClL.cons (Cn.cl (.v _) _) ClL.nil)))))))⟩,(List.forall_mem_cons.2 ⟨⟨jl0_4,(ClO.vcn (Expr.cnr _))⟩,(List.forall_mem_cons.2 ⟨⟨jl1_900,(ClO.bx (ClL.cons (Cn.cl (Cn.rows qd.cn _) _) (ClL.cons (Cn.cl (.v _) _) (ClL.cons (Cn.cl (.v _) _) (ClL.cons (Cn.cl (.v _) _) (ClL.cons (Cn.cl (.v _) _) (ClL.cons hq.c5 (ClL.cons hq.c6 (ClL.cons hq.c7 (ClL.cons hq.c8 ClL.nil))))))))))⟩,(fun x hx=>absurd hx (by simp))⟩)⟩)⟩),he▸r3,_,(.refl _),(.tu CnL.nil),hK⟩
 have e1:List.set (List.set (List.set (List.set σ j1_900 (some (AObj.box 155 (qa.cl q y1.2)))) j0_4 (some (vcO 39 6 ((Expr.rows a0.args)++[[(PV.v (.int .i64 (0:Int))),(PV.v (.string (⟨#[]⟩:ByteArray))),(PV.v (.int .i64 (0:Int))),(PV.v (.int .i64 (0:Int))),(PV.v (.slice none 0 0)),(PV.v (.int .i64 (0:Int)))]])))) j0_4 (some (vcO 39 6 (Expr.rows y3)))) j0 (some (AObj.box 39 [(PV.v (.int .i64 a0.kind)),(.v (.string a0.name)),(.v (.int .i64 a0.n)),(.v (.int .i64 a0.d)),(.vc j0_4 (List.length y3)),(.v (.int .i64 a0.at_))]))=List.set (List.set (List.set σ j1_900 (some (AObj.box 155 (qa.cl q y1.2)))) j0_4 (some (vcO 39 6 (Expr.rows y3)))) j0 (some (AObj.box 39 [(PV.v (.int .i64 a0.kind)),(.v (.string a0.name)),(.v (.int .i64 a0.n)),(.v (.int .i64 a0.d)),(.vc j0_4 (List.length y3)),(.v (.int .i64 a0.at_))])):=by rw[List.set_set]
 have e2:List.set (List.set (List.set (List.set σ j1_900 (some (AObj.box 155 (qa.cl q y1.2)))) j0_4 (some (vcO 39 6 ((Expr.rows a0.args)++[[(PV.v (.int .i64 (0:Int))),(PV.v (.string (⟨#[]⟩:ByteArray))),(PV.v (.int .i64 (0:Int))),(PV.v (.int .i64 (0:Int))),(PV.v (.slice none 0 0)),(PV.v (.int .i64 (0:Int)))]])))) j0 (some (AObj.box 39 [(PV.v (.int .i64 a0.kind)),(.v (.string a0.name)),(.v (.int .i64 a0.n)),(.v (.int .i64 a0.d)),(.vc j0_4 (List.length y3)),(.v (.int .i64 a0.at_))]))) j0_4 (some (vcO 39 6 (Expr.rows y3)))=List.set (List.set (List.set σ j1_900 (some (AObj.box 155 (qa.cl q y1.2)))) j0_4 (some (vcO 39 6 (Expr.rows y3)))) j0 (some (AObj.box 39 [(PV.v (.int .i64 a0.kind)),(.v (.string a0.name)),(.v (.int .i64 a0.n)),(.v (.int .i64 a0.d)),(.vc j0_4 (List.length y3)),(.v (.int .i64 a0.at_))])):=by rw[List.set_comm _ _ p2,List.set_set]
 have FX:=Ya E0 E1 q6 q5 H0.get H1.get H1_900.get (H0.ne (Ne.symm N0__1_900) (some (AObj.box 155 (qa.cl q y1.2)))).get (H1.ne (Ne.symm N1__1_900) (some (AObj.box 155 (qa.cl q y1.2)))).get q7.get R10 ha b1.get b2.get g1 g2 fi0 fi1 fi2 (cj5 fp fv fit fp TT);refine w_xt j1_900 6 5 #[true,true,true,true,true,true,false,false,false,false,false] FX ?_;refine S0 _ _ h2 _ _ _ q H1_900 (hq.le (Fr.gle hF hP)) ?_;refine QD FX ?_;refine t_1 6 FX ?_;refine t_2 7 9 FX ?_ ?_
 · refine t_2 8 9 FX ?_ ?_
   · refine t_1 9 FX ?_;refine t_1 10 FX ?_;exact t_end (fin _ _ e1)
   · refine t_2 8 10 FX ?_ ?_
     · refine t_1 10 FX ?_;exact t_end (fin _ _ e1)
     · refine t_1 8 FX ?_;exact t_end (fin _ _ e2)
 · refine t_2 7 10 FX ?_ ?_
   · refine t_2 8 10 FX ?_ ?_
     · refine t_1 10 FX ?_;exact t_end (fin _ _ e1)
     · refine t_1 8 FX ?_;exact t_end (fin _ _ e2)
   · refine t_1 7 FX ?_;refine t_1 8 FX ?_;exact t_end (fin _ _ e2)
noncomputable def qK (f4:Expr→qa→Option (Unit×Expr×qa))(f2:qa→ByteArray→Option (Bool×qa))(f1:qa→Int→Int→Option (Unit×qa))(f0:qa→Option qd):(Int×qa×Expr×(List Expr))→Option ((Int×qa×Expr×(List Expr))⊕(qa×Expr×(List Expr)))
 | (v6, v7, v8, v9) =>
  if(decide (v7.e=(0:Int)))then
   ((if(decide (v6=(6:Int)))then
    (f0 v7).bind fun y22=>
    (f1 v7 y22.at_ (8:Int)).bind fun y24=>
    some y24.2
   else
    some v7:Option qa).bind fun v20=>
   (f4 (Expr.mk v8.kind v8.name v8.n v8.d v9 v8.at_) v20).bind fun y26=>
   (f2 y26.2.2 (⟨#[44]⟩:ByteArray)).bind fun y28=>
   if(!y28.1)then
    some (.inl (y28.2,(Expr.mk y26.2.1.kind y26.2.1.name y26.2.1.n y26.2.1.d y26.2.1.args y26.2.1.at_),y26.2.1.args))
   else
    some (.inr (y28.2,(Expr.mk y26.2.1.kind y26.2.1.name y26.2.1.n y26.2.1.d y26.2.1.args y26.2.1.at_),y26.2.1.args)):Option ((qa×Expr×(List Expr))⊕(qa×Expr×(List Expr)))).bind fun x=>match x with
   | .inl r=>some (.inr r)
   | .inr (v15, v16, v17) =>
    some (.inl ((IntKind.i64.wrap (v6+(1:Int))),v15,(Expr.mk v16.kind v16.name v16.n v16.d v17 v16.at_),v17))
  else
   some (.inr (v7,(Expr.mk v8.kind v8.name v8.n v8.d v9 v8.at_),v9))
noncomputable def B_syntax_reader_list_of_atom_c1 (f0:qa→Option qd)(f1:qa→Int→Int→Option (Unit×qa))(f2:qa→ByteArray→Option (Bool×qa))(f3:qa→ByteArray→Option (Unit×qa))(f4:Expr→qa→Option (Unit×Expr×qa))(a0:qa)(a1:Expr):Option (Unit×qa×Expr):=
 (qA (qK f4 f2 f1 f0) ((0:Int),a0,(Expr.mk a1.kind a1.name a1.n a1.d a1.args a1.at_),a1.args):Option (qa×Expr×(List Expr))).bind fun(v3,v4,v5)=>
 (f3 v3 (⟨#[41]⟩:ByteArray)).bind fun y33=>
 some ((),y33.2,(Expr.mk v4.kind v4.name v4.n v4.d v5 v4.at_))
abbrev C6117_0 (z0:Store)(z1:Nat)(z2:Expr)(z3:Nat)(z4:(List Expr)):Prop:=Gx z0 z1 (AObj.box 39 [(.v (.int .i64 z2.kind)),(.v (.string z2.name)),(.v (.int .i64 z2.n)),(.v (.int .i64 z2.d)),(.vc z3 (List.length z4)),(.v (.int .i64 z2.at_))])
abbrev C6117_1 (z0:Store)(z1:Nat)(z2:(Unit×Expr×qa))(z3:Nat):Prop:=Gx z0 z1 (AObj.box 39 [(.v (.int .i64 z2.2.1.kind)),(.v (.string z2.2.1.name)),(.v (.int .i64 z2.2.1.n)),(.v (.int .i64 z2.2.1.d)),(.vc z3 (List.length z2.2.1.args)),(.v (.int .i64 z2.2.1.at_))])
abbrev C6117_2 (z0:Env)(z1 z2:Nat):Prop:=z0 1=(.fn 138 [] [(.pt z1 0),(.pt z2 0)])
abbrev C6117_3 (z0:Store)(z1 z2:Nat):Prop:=Gx z0 z1 (AObj.box 153 [(.pt z2 0)])
theorem W_syntax_reader_list_of_atom_c1 (f0 f1 f2 f3 f4)(S0:Sat_syntax_reader_now f0)(S1:Sat_syntax_reader_fail f1)(S2:Sat_syntax_reader_can f2)(S3:Sat_syntax_reader_must f3)(S4:Sat_syntax_reader_atom_c1 f4):Sat_syntax_reader_list_of_atom_c1 (B_syntax_reader_list_of_atom_c1 f0 f1 f2 f3 f4):=by
 intro a0 a1 r h σ K j0 j1_910 j1_914 j1_930 q H0 H1_910 H1_914 H1_930 N0__1_910 N0__1_930 N1_910__1_930 hq hK;refine Qw (Q:=fun r s=>∃l:List (Nat×AObj),(l.map (·.1)).Nodup∧(∀x∈l,x.1<σ.length∧ClO σ.length x.2)∧Pq σ l K r s) Try.func117 rfl rfl (by kernel_rfl) (fun _ _ h=>h) ?_;unfold B_syntax_reader_list_of_atom_c1 at h;have hP:=Pre.refl σ;have jl0:=H0.lt;have jl1_910:=H1_910.lt;have jl1_914:=H1_914.lt;have jl1_930:=H1_930.lt;have hF:=Fr.refl σ [j0,j1_910,j1_914];have E0:qu [(.pt j0 0),(.fn 138 [] [(.pt j1_910 0),(.pt j1_930 0)])] 0=(.pt j0 0):=rfl;have E1:qu [(.pt j0 0),(.fn 138 [] [(.pt j1_910 0),(.pt j1_930 0)])] 1=(.fn 138 [] [(.pt j1_910 0),(.pt j1_930 0)]):=rfl;have TT:=ZD Expr.rlen T_153 T_155 T_2 T_27 T_3 T_30 T_81 T_85 T_9 qd.cle qa.cle;refine qk (qe (w_x (cj4 H0.get H1_910.get H1_930.get TT) ?_));refine qg ?_;obtain⟨x1,h2,h⟩:=qb h;refine qh (fun e s=>∃v3 v4 v5,∃τ:Store,(v3,v4,v5)=x1∧Gx s j0 (AObj.box 155 (qa.cl q v3))∧C6117_0 s j1_910 v4 j1_914 v5∧Gx s j1_914 (vcO 39 6 (Expr.rows v5))∧C6117_3 s j1_930 j0∧eP e 0 j0∧j0≠j1_910∧j0≠j1_930∧j1_910≠j1_930∧Fr σ τ [j0,j1_910,j1_914]∧Pre τ s) ?_ ?_
 ·refine qn (qX h2 (fun v e s=>∃v6 v7 v8 v9,∃τ:Store,(v6,v7,v8,v9)=v∧Gx s j0 (AObj.box 155 (qa.cl q v7))∧C6117_0 s j1_910 v8 j1_914 v9∧Gx s j1_914 (vcO 39 6 (Expr.rows v9))∧C6117_3 s j1_930 j0∧eP e 0 j0∧C6117_2 e j1_910 j1_930∧eI e 4 v6∧j0≠j1_910∧j0≠j1_930∧j1_910≠j1_930∧Fr σ τ [j0,j1_910,j1_914]∧Pre τ s) ⟨_,WkE.refl _,_,_,_,_,σ,rfl,H0,H1_910,H1_914,H1_930,E0,E1,(xv TT),N0__1_910,N0__1_930,N1_910__1_930,hF,hP⟩ ?_)
  rintro v x10 e s hf11 ⟨v6,v7,v8,v9,τ,rfl,X0,X1_910,X1_914,X1_930,E0,E1,E4,N0__1_910,N0__1_930,N1_910__1_930,hF,hP⟩
  unfold qK at hf11;(try dsimp only at hf11);refine qk (qe (w_x (cj3 E0 X0.get TT) ?_));refine qg (qe ?_);rcases qj hf11 with⟨hb12,hf11⟩|⟨hb12,hf11⟩
  ·refine xt hb12 (qm (qg ?_));obtain⟨x13,h14,hf11⟩:=qb hf11;refine qh (fun e s=>∃v15:qa,∃v16:Expr,∃v17:(List Expr),∃τ:Store,.inr (v15,v16,v17)=x13∧Gx s j0 (AObj.box 155 (qa.cl q v15))∧C6117_0 s j1_910 v16 j1_914 v17∧Gx s j1_914 (vcO 39 6 (Expr.rows v17))∧C6117_3 s j1_930 j0∧eP e 0 j0∧C6117_2 e j1_910 j1_930∧eI e 4 v6∧j0≠j1_910∧j0≠j1_930∧j1_910≠j1_930∧Fr σ τ [j0,j1_910,j1_914]∧Pre τ s) ?_ ?_
   ·refine qn (qk (qe (w_x (cj2 E4 TT) ?_)));refine qg ?_;obtain⟨x18,h19,h14⟩:=qb h14;refine qh (fun e s=>∃v20,∃τ:Store,v20=x18∧Gx s j0 (AObj.box 155 (qa.cl q v20))∧C6117_0 s j1_910 v8 j1_914 v9∧Gx s j1_914 (vcO 39 6 (Expr.rows v9))∧C6117_3 s j1_930 j0∧eP e 0 j0∧C6117_2 e j1_910 j1_930∧eI e 4 v6∧j0≠j1_910∧j0≠j1_930∧j1_910≠j1_930∧Fr σ τ [j0,j1_910,j1_914]∧Pre τ s) ?_ ?_
    ·rcases qj h19 with⟨hb21,h19⟩|⟨hb21,h19⟩
     ·refine xt hb21 ?_;obtain⟨y22,h23,h19⟩:=qb h19;obtain⟨y24,h25,h19⟩:=qb h19;have q1:=cj4 E0 X0.get X0.samea TT;refine w_x q1 ?_;refine S0 _ _ h23 _ _ _ q X0 (hq.le (Fr.gle hF hP)) ?_;refine w_y q1 ?_;refine S1 _ _ _ _ h25 _ _ _ q X0 (hq.le (Fr.gle hF hP)) ?_;refine w_y q1 ?_;obtain rfl:=qc h19;exact qf ⟨_,(List.set τ j0 (some (AObj.box 155 (qa.cl q y24.2)))),rfl,(Gx.same X0 _),(X1_910.ne N0__1_910 _),(X1_914.ne (Gx.ap X0 X1_914) _),(X1_930.ne N0__1_930 _),E0,E1,E4,N0__1_910,N0__1_930,N1_910__1_930,(hF.set (by simp) (some (AObj.box 155 (qa.cl q y24.2)))),(hP.setp (hF.lt jl0) (some (AObj.box 155 (qa.cl q y24.2))))⟩
     ·refine xf hb21 (qm ?_);obtain rfl:=qc h19;exact qf ⟨_,τ,rfl,X0,X1_910,X1_914,X1_930,E0,E1,E4,N0__1_910,N0__1_930,N1_910__1_930,hF,hP⟩
    rintro e s ⟨v20,τ,rfl,X0,X1_910,X1_914,X1_930,E0,E1,E4,N0__1_910,N0__1_930,N1_910__1_930,hF,hP⟩
    (try dsimp only at h14);obtain⟨y26,h27,h14⟩:=qb h14;refine qh (fun e s=>∃τ:Store,Gx s j0 (AObj.box 155 (qa.cl q y26.2.2))∧C6117_1 s j1_910 y26 j1_914∧Gx s j1_914 (vcO 39 6 (Expr.rows y26.2.1.args))∧C6117_3 s j1_930 j0∧eP e 0 j0∧C6117_2 e j1_910 j1_930∧eI e 4 v6∧j0≠j1_910∧j0≠j1_930∧j1_910≠j1_930∧Fr σ τ [j0,j1_910,j1_914]∧Pre τ s) ?_ ?_
    ·have q2:=Gx.ap X1_914 X0;have q3:=Gx.ap X1_914 X1_910;have q4:=Gx.ap X1_914 X1_930;have q5:=Gx.same X1_910 (AObj.box 39 [(.v (.int .i64 y26.2.1.kind)),(.v (.string y26.2.1.name)),(.v (.int .i64 y26.2.1.n)),(.v (.int .i64 y26.2.1.d)),(.vc j1_914 (List.length y26.2.1.args)),(.v (.int .i64 y26.2.1.at_))]);have q6:=X1_930.ne N1_910__1_930 (some (AObj.box 39 [(.v (.int .i64 y26.2.1.kind)),(.v (.string y26.2.1.name)),(.v (.int .i64 y26.2.1.n)),(.v (.int .i64 y26.2.1.d)),(.vc j1_914 (List.length y26.2.1.args)),(.v (.int .i64 y26.2.1.at_))]));have q7:=X0.ne (Ne.symm N0__1_910) (some (AObj.box 39 [(.v (.int .i64 y26.2.1.kind)),(.v (.string y26.2.1.name)),(.v (.int .i64 y26.2.1.n)),(.v (.int .i64 y26.2.1.d)),(.vc j1_914 (List.length y26.2.1.args)),(.v (.int .i64 y26.2.1.at_))]));have q8:=Gx.same (q7.ne q2 (some (vcO 39 6 (Expr.rows y26.2.1.args)))) (AObj.box 155 (qa.cl q y26.2.2));have q9:=cj14 E1 X0.get X1_910.get X1_930.get q7.get q5.get q6.get (q7.ne q2 (some (vcO 39 6 (Expr.rows y26.2.1.args)))).get (q5.ne q3 (some (vcO 39 6 (Expr.rows y26.2.1.args)))).get (q6.ne q4 (some (vcO 39 6 (Expr.rows y26.2.1.args)))).get q8.get ((q5.ne q3 (some (vcO 39 6 (Expr.rows y26.2.1.args)))).ne N0__1_910 (some (AObj.box 155 (qa.cl q y26.2.2)))).get ((q6.ne q4 (some (vcO 39 6 (Expr.rows y26.2.1.args)))).ne N0__1_930 (some (AObj.box 155 (qa.cl q y26.2.2)))).get TT;refine w_x q9 ?_;refine S4 _ _ _ h27 _ _ _ _ _ _ q X1_910 X1_914 X1_930 X0 N1_910__1_930 (Ne.symm N0__1_910) (Ne.symm N0__1_930) (hq.le (Fr.gle hF hP)) ?_;refine w_y q9 ?_;exact qf ⟨(List.set (List.set (List.set τ j1_910 (some (AObj.box 39 [(.v (.int .i64 y26.2.1.kind)),(.v (.string y26.2.1.name)),(.v (.int .i64 y26.2.1.n)),(.v (.int .i64 y26.2.1.d)),(.vc j1_914 (List.length y26.2.1.args)),(.v (.int .i64 y26.2.1.at_))]))) j1_914 (some (vcO 39 6 (Expr.rows y26.2.1.args)))) j0 (some (AObj.box 155 (qa.cl q y26.2.2)))),q8,((q5.ne q3 _).ne N0__1_910 _),((Gx.same (X1_914.ne (Gx.ap X1_910 X1_914) (some (AObj.box 39 [(.v (.int .i64 y26.2.1.kind)),(.v (.string y26.2.1.name)),(.v (.int .i64 y26.2.1.n)),(.v (.int .i64 y26.2.1.d)),(.vc j1_914 (List.length y26.2.1.args)),(.v (.int .i64 y26.2.1.at_))]))) (vcO 39 6 (Expr.rows y26.2.1.args))).ne (Gx.ap X0 X1_914) (some (AObj.box 155 (qa.cl q y26.2.2)))),((q6.ne q4 _).ne N0__1_930 _),E0,E1,E4,N0__1_910,N0__1_930,N1_910__1_930,(((hF.set (by simp) (some (AObj.box 39 [(.v (.int .i64 y26.2.1.kind)),(.v (.string y26.2.1.name)),(.v (.int .i64 y26.2.1.n)),(.v (.int .i64 y26.2.1.d)),(.vc j1_914 (List.length y26.2.1.args)),(.v (.int .i64 y26.2.1.at_))]))).set (by simp) (some (vcO 39 6 (Expr.rows y26.2.1.args)))).set (by simp) (some (AObj.box 155 (qa.cl q y26.2.2)))),(((hP.setp (hF.lt jl1_910) (some (AObj.box 39 [(.v (.int .i64 y26.2.1.kind)),(.v (.string y26.2.1.name)),(.v (.int .i64 y26.2.1.n)),(.v (.int .i64 y26.2.1.d)),(.vc j1_914 (List.length y26.2.1.args)),(.v (.int .i64 y26.2.1.at_))]))).setp ((hF.set (by simp) (some (AObj.box 39 [(.v (.int .i64 y26.2.1.kind)),(.v (.string y26.2.1.name)),(.v (.int .i64 y26.2.1.n)),(.v (.int .i64 y26.2.1.d)),(.vc j1_914 (List.length y26.2.1.args)),(.v (.int .i64 y26.2.1.at_))]))).lt jl1_914) (some (vcO 39 6 (Expr.rows y26.2.1.args)))).setp (((hF.set (by simp) (some (AObj.box 39 [(.v (.int .i64 y26.2.1.kind)),(.v (.string y26.2.1.name)),(.v (.int .i64 y26.2.1.n)),(.v (.int .i64 y26.2.1.d)),(.vc j1_914 (List.length y26.2.1.args)),(.v (.int .i64 y26.2.1.at_))]))).set (by simp) (some (vcO 39 6 (Expr.rows y26.2.1.args)))).lt jl0) (some (AObj.box 155 (qa.cl q y26.2.2))))⟩
    rintro e s ⟨τ,X0,X1_910,X1_914,X1_930,E0,E1,E4,N0__1_910,N0__1_930,N1_910__1_930,hF,hP⟩
    obtain⟨y28,h29,h14⟩:=qb h14;refine qh (fun e s=>∃τ:Store,Gx s j0 (AObj.box 155 (qa.cl q y28.2))∧C6117_1 s j1_910 y26 j1_914∧Gx s j1_914 (vcO 39 6 (Expr.rows y26.2.1.args))∧C6117_3 s j1_930 j0∧eP e 0 j0∧C6117_2 e j1_910 j1_930∧eI e 4 v6∧eB e 23 (!y28.1)∧j0≠j1_910∧j0≠j1_930∧j1_910≠j1_930∧Fr σ τ [j0,j1_910,j1_914]∧Pre τ s) ?_ ?_
    ·have q10:=Gx.same X0 (AObj.box 155 (qa.cl q y28.2));have q11:=cj4 E0 X0.get q10.get TT;refine w_x q11 ?_;refine S2 _ _ _ h29 _ _ _ q X0 (hq.le (Fr.gle hF hP)) ?_;refine w_y q11 ?_;exact qf ⟨(List.set τ j0 (some (AObj.box 155 (qa.cl q y28.2)))),q10,(X1_910.ne N0__1_910 _),(X1_914.ne (Gx.ap X0 X1_914) _),(X1_930.ne N0__1_930 _),E0,E1,E4,(xv q11),N0__1_910,N0__1_930,N1_910__1_930,(hF.set (by simp) (some (AObj.box 155 (qa.cl q y28.2)))),(hP.setp (hF.lt jl0) (some (AObj.box 155 (qa.cl q y28.2))))⟩
    rintro e s ⟨τ,X0,X1_910,X1_914,X1_930,E0,E1,E4,E23,N0__1_910,N0__1_930,N1_910__1_930,hF,hP⟩
    rcases qj h14 with⟨hb30,h14⟩|⟨hb30,h14⟩
    ·refine xt (cj2 E23 hb30) (qz (ZY (by decide) ?_));obtain rfl:=qc h14;refine cw_x ?_;(try dsimp only at hf11);obtain rfl:=qc hf11;refine zo rfl fun hr31=> ?_;obtain rfl:=hr31;exact qG (qf ⟨_,_,_,τ,rfl,X0,X1_910,X1_914,X1_930,E0,N0__1_910,N0__1_930,N1_910__1_930,hF,hP⟩)
    ·refine xf (cj2 E23 hb30) (qm (zc ?_));obtain rfl:=qc h14;exact qf ⟨_,_,_,τ,rfl,X0,X1_910,X1_914,X1_930,E0,E1,E4,N0__1_910,N0__1_930,N1_910__1_930,hF,hP⟩
   rintro e s ⟨v15,v16,v17,τ,rfl,X0,X1_910,X1_914,X1_930,E0,E1,E4,N0__1_910,N0__1_930,N1_910__1_930,hF,hP⟩
   (try dsimp only at hf11);refine w_x (cj2 E4 TT) ?_;obtain rfl:=qc hf11;exact zK rfl ⟨_,_,_,_,τ,rfl,X0,X1_910,X1_914,X1_930,E0,E1,(xv (cj2 E4 TT)),N0__1_910,N0__1_930,N1_910__1_930,hF,hP⟩
  ·refine xf hb12 (qz (qT ?_));obtain rfl:=qc hf11;refine zo rfl fun hr32=> ?_;obtain rfl:=hr32;exact qG (qf ⟨_,_,_,τ,rfl,X0,X1_910,X1_914,X1_930,E0,N0__1_910,N0__1_930,N1_910__1_930,hF,hP⟩)
 rintro e s ⟨v3,v4,v5,τ,rfl,X0,X1_910,X1_914,X1_930,E0,N0__1_910,N0__1_930,N1_910__1_930,hF,hP⟩
 (try dsimp only at h);obtain⟨y33,h34,h⟩:=qb h;have q12:=Gx.same X0 (AObj.box 155 (qa.cl q y33.2));have q13:=cj4 E0 X0.get q12.get TT;refine w_x q13 ?_;refine S3 _ _ _ h34 _ _ _ q X0 (hq.le (Fr.gle hF hP)) ?_;refine w_y q13 ?_;obtain rfl:=qc h;have hn35:(List.map (·.1) ([(j0,(AObj.box 155 (qa.cl q y33.2))),(j1_910,(AObj.box 39 [(.v (.int .i64 v4.kind)),(.v (.string v4.name)),(.v (.int .i64 v4.n)),(.v (.int .i64 v4.d)),(.vc j1_914 (List.length v5)),(.v (.int .i64 v4.at_))])),(j1_914,(vcO 39 6 (Expr.rows v5)))]:List (Nat×AObj))).Nodup:=(List.nodup_cons.2 ⟨(by simp only[List.map_cons,List.map_nil,List.mem_cons,List.not_mem_nil,or_false,not_or];exact⟨N0__1_910,(Gx.ap X0 X1_914)⟩),(List.nodup_cons.2 ⟨(by simp only[List.map_cons,List.map_nil,List.mem_cons,List.not_mem_nil,or_false,not_or];exact(Gx.ap X1_910 X1_914)),(List.nodup_cons.2 ⟨(fun h=>by simp at h),List.nodup_nil⟩)⟩)⟩);have he36:=Fr.eq (hF.set (by simp) (some (AObj.box 155 (qa.cl q y33.2)))) hn35 (List.forall_mem_cons.2 ⟨⟨jl0,(Gx.back q12 (hP.setp (hF.lt jl0) (some (AObj.box 155 (qa.cl q y33.2)))) ((hF.set (by simp) (some (AObj.box 155 (qa.cl q y33.2)))).lt jl0))⟩,(List.forall_mem_cons.2 ⟨⟨jl1_910,(Gx.back (X1_910.ne N0__1_910 (some (AObj.box 155 (qa.cl q y33.2)))) (hP.setp (hF.lt jl0) (some (AObj.box 155 (qa.cl q y33.2)))) ((hF.set (by simp) (some (AObj.box 155 (qa.cl q y33.2)))).lt jl1_910))⟩,(List.forall_mem_cons.2 ⟨⟨jl1_914,(Gx.back (X1_914.ne (Gx.ap X0 X1_914) (some (AObj.box 155 (qa.cl q y33.2)))) (hP.setp (hF.lt jl0) (some (AObj.box 155 (qa.cl q y33.2)))) ((hF.set (by simp) (some (AObj.box 155 (qa.cl q y33.2)))).lt jl1_914))⟩,(fun x hx=>absurd hx (by simp))⟩)⟩)⟩);exact qU (fun h=>absurd rfl h) (xr (rs:= #[]) q13) ⟨_,hn35,(List.forall_mem_cons.2 ⟨⟨jl0,(ClO.bx (ClL.cons (Cn.cl (Cn.rows qd.cn _) _) (ClL.cons (Cn.cl (.v _) _) (ClL.cons (Cn.cl (.v _) _) (ClL.cons (Cn.cl (.v _) _) (ClL.cons (Cn.cl (.v _) _) (ClL.cons hq.c5 (ClL.cons hq.c6 (ClL.cons hq.c7 (ClL.cons hq.c8 ClL.nil))))))))))⟩,(List.forall_mem_cons.2 ⟨⟨jl1_910,(ClO.bx (ClL.cons (Cn.cl (.v _) _) (ClL.cons (Cn.cl (.v _) _) (ClL.cons (Cn.cl (.v _) _) (ClL.cons (Cn.cl (.v _) _) (ClL.cons (Cl.vc jl1_914) (ClL.cons (Cn.cl (.v _) _) ClL.nil)))))))⟩,(List.forall_mem_cons.2 ⟨⟨jl1_914,(ClO.vcn (Expr.cnr _))⟩,(fun x hx=>absurd hx (by simp))⟩)⟩)⟩),he36▸(hP.setp (hF.lt jl0) (some (AObj.box 155 (qa.cl q y33.2)))),_,(.refl _),(.tu CnL.nil),hK⟩
noncomputable def B_syntax_reader_atom (f0:qa→ByteArray→Option (Bool×qa))(f1:qa→Option (qd×qa))(f2:qa→ByteArray→Option (Unit×qa))(f3:qa→Option (Expr×qa))(f4:qa→Expr→Option (Expr×qa))(f5:qa→Expr→Option (Unit×qa×Expr))(a0:qa):Option (Expr×qa):=
 (f0 a0 (⟨#[40]⟩:ByteArray)).bind fun y1=>
 if y1.1 then
  (f3 y1.2).bind fun y4=>
  (f2 y4.2 (⟨#[41]⟩:ByteArray)).bind fun y6=>
  some (y4.1,y6.2)
 else
  (f1 y1.2).bind fun y10=>
  (f0 y10.2 (⟨#[40]⟩:ByteArray)).bind fun y12=>
  if(!y12.1)then
   (f4 y12.2 (Expr.mk (1:Int) y10.1.text (0:Int) (0:Int) ([]) y10.1.at_)).bind fun y15=>
   some (y15.1,y15.2)
  else
   (f5 y12.2 (Expr.mk (2:Int) y10.1.text (0:Int) (0:Int) ([]:List Expr) y10.1.at_)).bind fun y19=>
   (f4 y19.2.1 (Expr.mk y19.2.2.kind y19.2.2.name y19.2.2.n y19.2.2.d y19.2.2.args y19.2.2.at_)).bind fun y21=>
   some (y21.1,y21.2)
abbrev C137_0 (z0 z1:Store)(z2:Nat):Prop:=Bx z0 z1 z2 39 [(.v (.int .i64 (0:Int))),(.v (.string (⟨#[]⟩:ByteArray))),(.v (.int .i64 (0:Int))),(.v (.int .i64 (0:Int))),.e0,(.v (.int .i64 (0:Int)))]
theorem W_syntax_reader_atom (f0 f1 f2 f3 f4 f5)(S0:Sat_syntax_reader_can f0)(S1:Sat_syntax_reader_name f1)(S2:Sat_syntax_reader_must f2)(S3:Sat_syntax_reader_expr f3)(S4:Sat_syntax_reader_made f4)(S5:Sat_syntax_reader_list_of_atom_c1 f5):Sat_syntax_reader_atom (B_syntax_reader_atom f0 f1 f2 f3 f4 f5):=by
 intro a0 r h σ K j0 q H0 hq hK;refine Qw (Q:=fun r s=>∃l:List (Nat×AObj),(l.map (·.1)).Nodup∧(∀x∈l,x.1<σ.length∧ClO σ.length x.2)∧Pq σ l K r s) Try.func137 rfl rfl (by kernel_rfl) (fun _ _ h=>h) ?_;unfold B_syntax_reader_atom at h;have hP:=Pre.refl σ;have jl0:=H0.lt;have hF:=Fr.refl σ [j0];have E0:qu [(.pt j0 0)] 0=(.pt j0 0):=rfl;have TT:=ZD Expr.cle Expr.rlen T_1 T_153 T_2 T_3 T_37 T_39 T_85 T_9 qd.cle qa.cle;refine qh (fun e s=>∃i1 i2:Nat,∃τ:Store,Gx s j0 (AObj.box 155 (qa.cl q a0))∧Bx σ s i1 153 [(.pt j0 0)]∧C137_0 σ s i2∧eP e 1 i1∧eP e 2 i2∧j0≠i1∧j0≠i2∧i1≠i2∧Fr σ τ [j0]∧Pre τ s) ?_ ?_
 ·have q1:=cj3 E0 H0.g3 TT;refine w_x q1 ?_;have q2:=Bx.newf hF hP 153 [(.pt j0 0)];exact qf ⟨σ.length,(σ++[some (AObj.box 153 [(.pt j0 0)])]).length,σ,((H0.app [some (AObj.box 153 [(.pt j0 0)])]).app [some (AObj.box 39 [(.v (.int .i64 (0:Int))),(.v (.string (⟨#[]⟩:ByteArray))),(.v (.int .i64 (0:Int))),(.v (.int .i64 (0:Int))),.e0,(.v (.int .i64 (0:Int)))])]),(q2.app _),(Bx.newf hF (hP.app _) 39 [(.v (.int .i64 (0:Int))),(.v (.string (⟨#[]⟩:ByteArray))),(.v (.int .i64 (0:Int))),(.v (.int .i64 (0:Int))),.e0,(.v (.int .i64 (0:Int)))]),(xv q1),(xv q1),(Nat.ne_of_lt H0.lt),(Nat.ne_of_lt (H0.app [some (AObj.box 153 [(.pt j0 0)])]).lt),(Nat.ne_of_lt q2.lt),hF,((hP.app _).app _)⟩
 rintro e s ⟨i1,i2,τ,X0,X1,X2,E1,E2,N0__1,N0__2,N1__2,hF,hP⟩
 refine qk ?_;obtain⟨y1,h2,h⟩:=qb h;refine qh (fun e s=>∃τ:Store,Gx s j0 (AObj.box 155 (qa.cl q y1.2))∧Bx σ s i1 153 [(.pt j0 0)]∧C137_0 σ s i2∧eP e 1 i1∧eP e 2 i2∧eB e 7 y1.1∧j0≠i1∧j0≠i2∧i1≠i2∧Fr σ τ [j0]∧Pre τ s) ?_ ?_
 ·have q3:=Gx.same X0 (AObj.box 155 (qa.cl q y1.2));have q4:=X1.ne N0__1 (some (AObj.box 155 (qa.cl q y1.2)));have q5:=cj6 E1 X0.get X1.get q3.get q4.get TT;refine w_x q5 ?_;refine S0 _ _ _ h2 _ _ _ q X0 (hq.le (Fr.gle hF hP)) ?_;refine w_y q5 ?_;exact qf ⟨(List.set τ j0 (some (AObj.box 155 (qa.cl q y1.2)))),q3,q4,(X2.ne N0__2 _),E1,E2,(xv q5),N0__1,N0__2,N1__2,(hF.set (by simp) (some (AObj.box 155 (qa.cl q y1.2)))),(hP.setp (hF.lt jl0) (some (AObj.box 155 (qa.cl q y1.2))))⟩
 rintro e s ⟨τ,X0,X1,X2,E1,E2,E7,N0__1,N0__2,N1__2,hF,hP⟩
 refine qe ?_;rcases qj h with⟨hb3,h⟩|⟨hb3,h⟩
 ·refine xt (cj2 E7 hb3) ?_;obtain⟨y4,h5,h⟩:=qb h;refine qh (fun e s=>∃i3:Nat,∃τ:Store,Gx s j0 (AObj.box 155 (qa.cl q y4.2))∧Bx σ s i1 153 [(.pt j0 0)]∧C137_0 σ s i2∧Bx σ s i3 39 (Expr.cl y4.1)∧eP e 1 i1∧eP e 2 i2∧eP e 3 i3∧j0≠i1∧j0≠i2∧j0≠i3∧i1≠i2∧i2≠i3∧Fr σ τ [j0]∧Pre τ s) ?_ ?_
  ·have q6:=Gx.same X0 (AObj.box 155 (qa.cl q y4.2));have q7:=X1.ne N0__1 (some (AObj.box 155 (qa.cl q y4.2)));have q8:=cj6 E1 X0.g3 X1.g3 q6.get q7.get TT;refine w_x q8 ?_;refine S3 _ _ h5 _ _ _ q X0 (hq.le (Fr.gle hF hP)) ?_;refine w_y q8 ?_;have q9:=X2.ne N0__2 (some (AObj.box 155 (qa.cl q y4.2)));exact qf ⟨(List.set s j0 (some (AObj.box 155 (qa.cl q y4.2)))).length,(List.set τ j0 (some (AObj.box 155 (qa.cl q y4.2)))),(q6.app _),(q7.app _),(q9.app _),(Bx.newf (hF.set (by simp) (some (AObj.box 155 (qa.cl q y4.2)))) (hP.setp (hF.lt jl0) (some (AObj.box 155 (qa.cl q y4.2)))) 39 (Expr.cl y4.1)),E1,E2,(xv q8),N0__1,N0__2,(Nat.ne_of_lt q6.lt),N1__2,(Nat.ne_of_lt q9.lt),(hF.set (by simp) (some (AObj.box 155 (qa.cl q y4.2)))),((hP.setp (hF.lt jl0) (some (AObj.box 155 (qa.cl q y4.2)))).app _)⟩
  rintro e s ⟨i3,τ,X0,X1,X2,X3,E1,E2,E3,N0__1,N0__2,N0__3,N1__2,N2__3,hF,hP⟩
  obtain⟨y6,h7,h⟩:=qb h;refine qh (fun e s=>∃τ:Store,Gx s j0 (AObj.box 155 (qa.cl q y6.2))∧C137_0 σ s i2∧Bx σ s i3 39 (Expr.cl y4.1)∧eP e 2 i2∧eP e 3 i3∧j0≠i2∧j0≠i3∧i2≠i3∧Fr σ τ [j0]∧Pre τ s) ?_ ?_
  ·have q10:=cj6 E1 X0.get X1.get X0.samea (X1.nea N0__1) TT;refine w_x q10 ?_;refine S2 _ _ _ h7 _ _ _ q X0 (hq.le (Fr.gle hF hP)) ?_;refine w_y q10 ?_;exact qf ⟨(List.set τ j0 (some (AObj.box 155 (qa.cl q y6.2)))),(Gx.same X0 _),(X2.ne N0__2 _),(X3.ne N0__3 _),E2,E3,N0__2,N0__3,N2__3,(hF.set (by simp) (some (AObj.box 155 (qa.cl q y6.2)))),(hP.setp (hF.lt jl0) (some (AObj.box 155 (qa.cl q y6.2))))⟩
  rintro e s ⟨τ,X0,X2,X3,E2,E3,N0__2,N0__3,N2__3,hF,hP⟩
  refine qh (fun e s=>∃τ:Store,Gx s j0 (AObj.box 155 (qa.cl q y6.2))∧Bx σ s i2 39 (Expr.cl y4.1)∧eP e 2 i2∧j0≠i2∧Fr σ τ [j0]∧Pre τ s) ?_ ?_
  ·refine w_x (cj7 E2 E3 X2.get X3.get X2.samea (X3.nea N2__3) TT) ?_;exact qf ⟨τ,(X0.ne (Ne.symm N0__2) _),(X2.same _ _),E2,N0__2,hF,(hP.set (hF.ge X2.le) (some (AObj.box 39 (Expr.cl y4.1))))⟩
  rintro e s ⟨τ,X0,X2,E2,N0__2,hF,hP⟩
  refine qo (ze ?_);obtain rfl:=qc h;have hn8:(List.map (·.1) ([(j0,(AObj.box 155 (qa.cl q y6.2)))]:List (Nat×AObj))).Nodup:=(List.nodup_cons.2 ⟨(fun h=>by simp at h),List.nodup_nil⟩);have he9:=Fr.eq hF hn8 (List.forall_mem_cons.2 ⟨⟨jl0,(Gx.back X0 hP (hF.lt jl0))⟩,(fun x hx=>absurd hx (by simp))⟩);exact qU (fun _=>rfl) (xr (rs:= #[.cell 2 39]) (cj3 X2.get E2 TT)) ⟨_,hn8,(List.forall_mem_cons.2 ⟨⟨jl0,(ClO.bx (ClL.cons (Cn.cl (Cn.rows qd.cn _) _) (ClL.cons (Cn.cl (.v _) _) (ClL.cons (Cn.cl (.v _) _) (ClL.cons (Cn.cl (.v _) _) (ClL.cons (Cn.cl (.v _) _) (ClL.cons hq.c5 (ClL.cons hq.c6 (ClL.cons hq.c7 (ClL.cons hq.c8 ClL.nil))))))))))⟩,(fun x hx=>absurd hx (by simp))⟩),he9▸hP,_,(.refl _),(.ag (CnL.cons (.v _) (CnL.cons (.v _) (CnL.cons (.v _) (CnL.cons (.v _) (CnL.cons (Expr.cnr _) (CnL.cons (.v _) CnL.nil))))))),hK⟩
 ·refine xf (cj2 E7 hb3) (qm (qg ?_));obtain⟨y10,h11,h⟩:=qb h;refine qh (fun e s=>∃i4:Nat,∃τ:Store,Gx s j0 (AObj.box 155 (qa.cl q y10.2))∧Bx σ s i1 153 [(.pt j0 0)]∧C137_0 σ s i2∧Bx σ s i4 85 (qd.cl y10.1)∧eP e 1 i1∧eP e 2 i2∧eP e 4 i4∧j0≠i1∧j0≠i2∧j0≠i4∧i1≠i2∧i2≠i4∧Fr σ τ [j0]∧Pre τ s) ?_ ?_
  ·have q11:=Gx.same X0 (AObj.box 155 (qa.cl q y10.2));have q13:=X1.ne N0__1 (some (AObj.box 155 (qa.cl q y10.2)));have q14:=cj6 E1 X0.g3 X1.g3 q11.get q13.get TT;refine w_x q14 ?_;refine S1 _ _ h11 _ _ _ q X0 (hq.le (Fr.gle hF hP)) ?_;refine w_y q14 ?_;have q12:=X2.ne N0__2 (some (AObj.box 155 (qa.cl q y10.2)));exact qf ⟨(List.set s j0 (some (AObj.box 155 (qa.cl q y10.2)))).length,(List.set τ j0 (some (AObj.box 155 (qa.cl q y10.2)))),(q11.app _),(q13.app _),(q12.app _),(Bx.newf (hF.set (by simp) (some (AObj.box 155 (qa.cl q y10.2)))) (hP.setp (hF.lt jl0) (some (AObj.box 155 (qa.cl q y10.2)))) 85 (qd.cl y10.1)),E1,E2,(xv q14),N0__1,N0__2,(Nat.ne_of_lt q11.lt),N1__2,(Nat.ne_of_lt q12.lt),(hF.set (by simp) (some (AObj.box 155 (qa.cl q y10.2)))),((hP.setp (hF.lt jl0) (some (AObj.box 155 (qa.cl q y10.2)))).app _)⟩
  rintro e s ⟨i4,τ,X0,X1,X2,X4,E1,E2,E4,N0__1,N0__2,N0__4,N1__2,N2__4,hF,hP⟩
  refine qk ?_;obtain⟨y12,h13,h⟩:=qb h;refine qh (fun e s=>∃τ:Store,Gx s j0 (AObj.box 155 (qa.cl q y12.2))∧Bx σ s i1 153 [(.pt j0 0)]∧C137_0 σ s i2∧Bx σ s i4 85 (qd.cl y10.1)∧eP e 1 i1∧eP e 2 i2∧eP e 4 i4∧eB e 17 (!y12.1)∧j0≠i1∧j0≠i2∧j0≠i4∧i1≠i2∧i2≠i4∧Fr σ τ [j0]∧Pre τ s) ?_ ?_
  ·have q15:=Gx.same X0 (AObj.box 155 (qa.cl q y12.2));have q16:=X1.ne N0__1 (some (AObj.box 155 (qa.cl q y12.2)));have q17:=cj6 E1 X0.get X1.get q15.get q16.get TT;refine w_x q17 ?_;refine S0 _ _ _ h13 _ _ _ q X0 (hq.le (Fr.gle hF hP)) ?_;refine w_y q17 ?_;exact qf ⟨(List.set τ j0 (some (AObj.box 155 (qa.cl q y12.2)))),q15,q16,(X2.ne N0__2 _),(X4.ne N0__4 _),E1,E2,E4,(xv q17),N0__1,N0__2,N0__4,N1__2,N2__4,(hF.set (by simp) (some (AObj.box 155 (qa.cl q y12.2)))),(hP.setp (hF.lt jl0) (some (AObj.box 155 (qa.cl q y12.2))))⟩
  rintro e s ⟨τ,X0,X1,X2,X4,E1,E2,E4,E17,N0__1,N0__2,N0__4,N1__2,N2__4,hF,hP⟩
  refine qe ?_;rcases qj h with⟨hb14,h⟩|⟨hb14,h⟩
  ·refine xt (cj2 E17 hb14) ?_;obtain⟨y15,h16,h⟩:=qb h;refine qh (fun e s=>∃τ:Store,Gx s j0 (AObj.box 155 (qa.cl q y15.2))∧Bx σ s i2 39 (Expr.cl y15.1)∧eP e 2 i2∧j0≠i2∧Fr σ τ [j0]∧Pre τ s) ?_ ?_
   ·have q18:=Gx.same X0 (AObj.box 155 (qa.cl q y15.2));have q19:=X1.ne N0__1 (some (AObj.box 155 (qa.cl q y15.2)));have q20:=X2.ne N0__2 (some (AObj.box 155 (qa.cl q y15.2)));have q21:=X4.ne N0__4 (some (AObj.box 155 (qa.cl q y15.2)));have q22:=cj16 E1 E2 E4 X0.get X1.get X2.get X4.get q18.get q19.get q20.get q21.get (q18.ne (Ne.symm N0__2) (some (AObj.box 39 (Expr.cl y15.1)))).get (q19.ne (Ne.symm N1__2) (some (AObj.box 39 (Expr.cl y15.1)))).get (q20.same 39 (Expr.cl y15.1)).get (q21.ne N2__4 (some (AObj.box 39 (Expr.cl y15.1)))).get TT;refine w_x q22 ?_;refine EC.wka (.cons (.refl _) (.cons (Wk.agl (.cons (.refl _) (.cons (.refl _) (.cons (.refl _) (.cons (.refl _) (.cons .e0 (.cons (.refl _) .nil))))))) .nil)) (S4 _ _ _ h16 _ _ _ q X0 (hq.le (Fr.gle hF hP)) ?_);refine w_y q22 ?_;exact qf ⟨(List.set τ j0 (some (AObj.box 155 (qa.cl q y15.2)))),(q18.ne (Ne.symm N0__2) _),(q20.same _ _),E2,N0__2,(hF.set (by simp) (some (AObj.box 155 (qa.cl q y15.2)))),((hP.setp (hF.lt jl0) (some (AObj.box 155 (qa.cl q y15.2)))).set ((hF.set (by simp) (some (AObj.box 155 (qa.cl q y15.2)))).ge q20.le) (some (AObj.box 39 (Expr.cl y15.1))))⟩
   rintro e s ⟨τ,X0,X2,E2,N0__2,hF,hP⟩
   refine qo (ze ?_);obtain rfl:=qc h;have hn17:(List.map (·.1) ([(j0,(AObj.box 155 (qa.cl q y15.2)))]:List (Nat×AObj))).Nodup:=(List.nodup_cons.2 ⟨(fun h=>by simp at h),List.nodup_nil⟩);have he18:=Fr.eq hF hn17 (List.forall_mem_cons.2 ⟨⟨jl0,(Gx.back X0 hP (hF.lt jl0))⟩,(fun x hx=>absurd hx (by simp))⟩);exact qU (fun _=>rfl) (xr (rs:= #[.cell 2 39]) (cj3 X2.get E2 TT)) ⟨_,hn17,(List.forall_mem_cons.2 ⟨⟨jl0,(ClO.bx (ClL.cons (Cn.cl (Cn.rows qd.cn _) _) (ClL.cons (Cn.cl (.v _) _) (ClL.cons (Cn.cl (.v _) _) (ClL.cons (Cn.cl (.v _) _) (ClL.cons (Cn.cl (.v _) _) (ClL.cons hq.c5 (ClL.cons hq.c6 (ClL.cons hq.c7 (ClL.cons hq.c8 ClL.nil))))))))))⟩,(fun x hx=>absurd hx (by simp))⟩),he18▸hP,_,(.refl _),(.ag (CnL.cons (.v _) (CnL.cons (.v _) (CnL.cons (.v _) (CnL.cons (.v _) (CnL.cons (Expr.cnr _) (CnL.cons (.v _) CnL.nil))))))),hK⟩
  ·refine xf (cj2 E17 hb14) (qm (qg (qh (fun e s=>∃i5 i5_4:Nat,∃τ:Store,Gx s j0 (AObj.box 155 (qa.cl q y12.2))∧Bx σ s i1 153 [(.pt j0 0)]∧C137_0 σ s i2∧Bx σ s i5 39 [(.v (.int .i64 (2:Int))),(.v (.string y10.1.text)),(.v (.int .i64 (0:Int))),(.v (.int .i64 (0:Int))),(.vc i5_4 (List.length ([]:List Expr))),(.v (.int .i64 y10.1.at_))]∧Gx s i5_4 (vcO 39 6 (Expr.rows ([]:List Expr)))∧σ.length≤i5_4∧eP e 1 i1∧eP e 2 i2∧eP e 5 i5∧j0≠i1∧j0≠i2∧j0≠i5∧i1≠i2∧i1≠i5∧i2≠i5∧Fr σ τ [j0]∧Pre τ s) ?_ ?_)))
   ·refine w_x (cj3 E4 X4.g3 TT) ?_;have q23:=Bx.newf hF hP 39 [(.v (.int .i64 (2:Int))),(.v (.string y10.1.text)),(.v (.int .i64 (0:Int))),(.v (.int .i64 (0:Int))),.e0,(.v (.int .i64 y10.1.at_))];exact cw_g (((Gh.refl _ _).tr Gh.hole).tr (Gh.boxq (q23.app _).get (.cons (.refl _) (.cons (.refl _) (.cons (.refl _) (.cons (.refl _) (.cons (Wq.hol (Gx.cast (o':=(vcO 39 6 (Expr.rows ([]:List Expr)))) (Gx.new _ _) rfl).get Nilp.e0) (.cons (.refl _) .nil)))))))) ⟨_,_,τ,(((X0.app _).app _).ne (Ne.symm (Nat.ne_of_lt X0.lt)) _),(((X1.app _).app _).ne (Ne.symm (Nat.ne_of_lt X1.lt)) _),(((X2.app _).app _).ne (Ne.symm (Nat.ne_of_lt X2.lt)) _),((q23.app _).same _ _),((Gx.cast (o':=(vcO 39 6 (Expr.rows ([]:List Expr)))) (Gx.new _ _) rfl).ne (Nat.ne_of_lt q23.lt) _),(Fr.gle hF (hP.app _)),E1,E2,(xv (cj3 E4 X4.g3 TT)),N0__1,N0__2,(Nat.ne_of_lt X0.lt),N1__2,(Nat.ne_of_lt X1.lt),(Nat.ne_of_lt X2.lt),hF,(((hP.app _).app _).set (hF.ge q23.le) _)⟩
   rintro e s ⟨i5,i5_4,τ,X0,X1,X2,X5,X5_4,L5_4,E1,E2,E5,N0__1,N0__2,N0__5,N1__2,N1__5,N2__5,hF,hP⟩
   obtain⟨y19,h20,h⟩:=qb h;refine qh (fun e s=>∃τ:Store,Gx s j0 (AObj.box 155 (qa.cl q y19.2.1))∧Bx σ s i1 153 [(.pt j0 0)]∧C137_0 σ s i2∧Bx σ s i5 39 (Expr.cl y19.2.2)∧eP e 1 i1∧eP e 2 i2∧eP e 5 i5∧j0≠i1∧j0≠i2∧j0≠i5∧i1≠i2∧i1≠i5∧i2≠i5∧Fr σ τ [j0]∧Pre τ s) ?_ ?_
   ·have q24:=Gx.ap X5_4 X0;have q25:=Gx.ap X5_4 X1.gx;have q26:=Gx.ap X5_4 X5.gx;have q27:=Gx.same X0 (AObj.box 155 (qa.cl q y19.2.1));have q28:=X1.ne N0__1 (some (AObj.box 155 (qa.cl q y19.2.1)));have q29:=X5.ne N0__5 (some (AObj.box 155 (qa.cl q y19.2.1)));have q30:=cj15 E1 E5 X0.get X1.get X5.get q27.get q28.get q29.get (q27.ne (Ne.symm N0__5) (some (AObj.box 39 [(.v (.int .i64 y19.2.2.kind)),(.v (.string y19.2.2.name)),(.v (.int .i64 y19.2.2.n)),(.v (.int .i64 y19.2.2.d)),(.vc i5_4 (List.length y19.2.2.args)),(.v (.int .i64 y19.2.2.at_))]))).get (q28.ne (Ne.symm N1__5) (some (AObj.box 39 [(.v (.int .i64 y19.2.2.kind)),(.v (.string y19.2.2.name)),(.v (.int .i64 y19.2.2.n)),(.v (.int .i64 y19.2.2.d)),(.vc i5_4 (List.length y19.2.2.args)),(.v (.int .i64 y19.2.2.at_))]))).get (q29.same 39 [(.v (.int .i64 y19.2.2.kind)),(.v (.string y19.2.2.name)),(.v (.int .i64 y19.2.2.n)),(.v (.int .i64 y19.2.2.d)),(.vc i5_4 (List.length y19.2.2.args)),(.v (.int .i64 y19.2.2.at_))]).get ((q27.ne (Ne.symm N0__5) (some (AObj.box 39 [(.v (.int .i64 y19.2.2.kind)),(.v (.string y19.2.2.name)),(.v (.int .i64 y19.2.2.n)),(.v (.int .i64 y19.2.2.d)),(.vc i5_4 (List.length y19.2.2.args)),(.v (.int .i64 y19.2.2.at_))]))).ne q24 (some (vcO 39 6 (Expr.rows y19.2.2.args)))).get ((q28.ne (Ne.symm N1__5) (some (AObj.box 39 [(.v (.int .i64 y19.2.2.kind)),(.v (.string y19.2.2.name)),(.v (.int .i64 y19.2.2.n)),(.v (.int .i64 y19.2.2.d)),(.vc i5_4 (List.length y19.2.2.args)),(.v (.int .i64 y19.2.2.at_))]))).ne q25 (some (vcO 39 6 (Expr.rows y19.2.2.args)))).get ((q29.same 39 [(.v (.int .i64 y19.2.2.kind)),(.v (.string y19.2.2.name)),(.v (.int .i64 y19.2.2.n)),(.v (.int .i64 y19.2.2.d)),(.vc i5_4 (List.length y19.2.2.args)),(.v (.int .i64 y19.2.2.at_))]).ne q26 (some (vcO 39 6 (Expr.rows y19.2.2.args)))).get TT;refine w_x q30 ?_;refine S5 _ _ _ h20 _ _ _ _ _ _ q X0 X5.gx X5_4 X1.gx N0__5 N0__1 (Ne.symm N1__5) (hq.le (Fr.gle hF hP)) ?_;refine w_y q30 ?_;exact cw_g ((Gh.refl _ _).tr (Gh.frzb (k:=4) (rows:=(Expr.rows y19.2.2.args)) (((X5.ne N0__5 _).same _ _).ne q26 _).get rfl (Gx.same ((X5_4.ne (Gx.ap X0 X5_4) _).ne (Gx.ap X5.gx X5_4) _) _).get (Expr.rall _) (by simp[Expr.rlen]))) ⟨(List.set τ j0 (some (AObj.box 155 (qa.cl q y19.2.1)))),(((((Gx.same X0 _).ne (Ne.symm N0__5) _).ne q24 _).ne q24 none).ne (Ne.symm N0__5) _),(((((X1.ne N0__1 _).ne (Ne.symm N1__5) _).ne q25 _).ne q25 none).ne (Ne.symm N1__5) _),(((((X2.ne N0__2 _).ne (Ne.symm N2__5) _).ne (Gx.ap X5_4 X2.gx) _).ne (Gx.ap X5_4 X2.gx) none).ne (Ne.symm N2__5) _),(((((X5.ne N0__5 _).same _ _).ne q26 _).ne q26 none).same _ _),E1,E2,E5,N0__1,N0__2,N0__5,N1__2,N1__5,N2__5,(hF.set (by simp) (some (AObj.box 155 (qa.cl q y19.2.1)))),(((((hP.setp (hF.lt jl0) (some (AObj.box 155 (qa.cl q y19.2.1)))).set ((hF.set (by simp) (some (AObj.box 155 (qa.cl q y19.2.1)))).ge X5.le) _).set ((hF.set (by simp) (some (AObj.box 155 (qa.cl q y19.2.1)))).ge L5_4) _).set ((hF.set (by simp) (some (AObj.box 155 (qa.cl q y19.2.1)))).ge L5_4) none).set ((hF.set (by simp) (some (AObj.box 155 (qa.cl q y19.2.1)))).ge X5.le) _)⟩
   rintro e s ⟨τ,X0,X1,X2,X5,E1,E2,E5,N0__1,N0__2,N0__5,N1__2,N1__5,N2__5,hF,hP⟩
   obtain⟨y21,h22,h⟩:=qb h;refine qh (fun e s=>∃τ:Store,Gx s j0 (AObj.box 155 (qa.cl q y21.2))∧Bx σ s i2 39 (Expr.cl y21.1)∧eP e 2 i2∧j0≠i2∧Fr σ τ [j0]∧Pre τ s) ?_ ?_
   ·have q31:=Gx.same X0 (AObj.box 155 (qa.cl q y21.2));have q32:=X2.ne N0__2 (some (AObj.box 155 (qa.cl q y21.2)));have q33:=X5.ne N0__5 (some (AObj.box 155 (qa.cl q y21.2)));have q34:=X1.ne N0__1 (some (AObj.box 155 (qa.cl q y21.2)));have q35:=cj16 E1 E2 E5 X0.get X1.get X2.get X5.get q31.get q34.get q32.get q33.get (q31.ne (Ne.symm N0__2) (some (AObj.box 39 (Expr.cl y21.1)))).get (q34.ne (Ne.symm N1__2) (some (AObj.box 39 (Expr.cl y21.1)))).get (q32.same 39 (Expr.cl y21.1)).get (q33.ne N2__5 (some (AObj.box 39 (Expr.cl y21.1)))).get TT;refine w_x q35 ?_;refine S4 _ _ _ h22 _ _ _ q X0 (hq.le (Fr.gle hF hP)) ?_;refine w_y q35 ?_;exact qf ⟨(List.set τ j0 (some (AObj.box 155 (qa.cl q y21.2)))),(q31.ne (Ne.symm N0__2) _),(q32.same _ _),E2,N0__2,(hF.set (by simp) (some (AObj.box 155 (qa.cl q y21.2)))),((hP.setp (hF.lt jl0) (some (AObj.box 155 (qa.cl q y21.2)))).set ((hF.set (by simp) (some (AObj.box 155 (qa.cl q y21.2)))).ge q32.le) (some (AObj.box 39 (Expr.cl y21.1))))⟩
   rintro e s ⟨τ,X0,X2,E2,N0__2,hF,hP⟩
   refine qo ?_;obtain rfl:=qc h;have hn23:(List.map (·.1) ([(j0,(AObj.box 155 (qa.cl q y21.2)))]:List (Nat×AObj))).Nodup:=(List.nodup_cons.2 ⟨(fun h=>by simp at h),List.nodup_nil⟩);have he24:=Fr.eq hF hn23 (List.forall_mem_cons.2 ⟨⟨jl0,(Gx.back X0 hP (hF.lt jl0))⟩,(fun x hx=>absurd hx (by simp))⟩);exact qU (fun _=>rfl) (xr (rs:= #[.cell 2 39]) (cj3 X2.get E2 TT)) ⟨_,hn23,(List.forall_mem_cons.2 ⟨⟨jl0,(ClO.bx (ClL.cons (Cn.cl (Cn.rows qd.cn _) _) (ClL.cons (Cn.cl (.v _) _) (ClL.cons (Cn.cl (.v _) _) (ClL.cons (Cn.cl (.v _) _) (ClL.cons (Cn.cl (.v _) _) (ClL.cons hq.c5 (ClL.cons hq.c6 (ClL.cons hq.c7 (ClL.cons hq.c8 ClL.nil))))))))))⟩,(fun x hx=>absurd hx (by simp))⟩),he24▸hP,_,(.refl _),(.ag (CnL.cons (.v _) (CnL.cons (.v _) (CnL.cons (.v _) (CnL.cons (.v _) (CnL.cons (Expr.cnr _) (CnL.cons (.v _) CnL.nil))))))),hK⟩
end Go.Proofs.Ytohmmfimedgccaa.E
end
