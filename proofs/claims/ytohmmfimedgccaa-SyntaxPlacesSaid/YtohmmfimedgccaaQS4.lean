import Derived.Test.YtohmmfimedgccaaQS3
/- SyntaxPlaces: a program's text, one token of it cut, doubled or put in another's place, is refused no sooner than there. PART 5 OF 7: G131 G121 LE LF LG G136 G5134 G135 G4134 G129 G120 LH LI G118 -/
section
namespace Go.Proofs.Ytohmmfimedgccaa.E
set_option maxRecDepth 100000
set_option maxHeartbeats 4000000
set_option linter.unusedVariables false
set_option linter.unusedSimpArgs false
noncomputable def qP (f1:qa→ByteArray→Option (Bool×qa))(f4:qa→Expr→Option (Expr×qa))(f2:qa→ByteArray→Option (Unit×qa))(f0:qa→Option qd)(f3:qa→Int→Int→Option (Int×qa)):(qa×Expr×Expr)→Option ((qa×Expr×Expr)⊕((Expr×qa)⊕(qa×Expr×Expr)))
 | (v8, v9, v10) =>
  if(decide (v8.e=(0:Int)))then
   ((f0 v8).bind fun y19=>
   ((f1 v8 (⟨#[42,94]⟩:ByteArray)).bind fun y26=>
   (if y26.1 then
    (f3 y26.2 (1:Int) (100:Int)).bind fun y34=>
    some (.inr (y34.2,v9,(Expr.mk (3:Int) (⟨#[]⟩:ByteArray) y34.1 (0:Int) ([v10]) y19.at_)))
   else
    (f1 y26.2 (⟨#[47,94]⟩:ByteArray)).bind fun y36=>
    (if y36.1 then
     (f3 y36.2 (1:Int) (100:Int)).bind fun y44=>
     some (.inr (y44.2,v9,(Expr.mk (4:Int) (⟨#[]⟩:ByteArray) y44.1 (0:Int) ([v10]) y19.at_)))
    else
     (f1 y36.2 (⟨#[126,62]⟩:ByteArray)).bind fun y46=>
     if y46.1 then
      (f3 y46.2 (0:Int) (100:Int)).bind fun y49=>
      (f2 y49.2 (⟨#[47]⟩:ByteArray)).bind fun y51=>
      (if(decide (y51.2.e=(0:Int)))then
       (f3 y51.2 (1:Int) (100:Int)).bind fun y58=>
       some (y58.2,(Expr.mk (5:Int) (⟨#[]⟩:ByteArray) y49.1 y58.1 ([v10]) y19.at_))
      else
       some (y51.2,(Expr.mk (5:Int) (⟨#[]⟩:ByteArray) y49.1 (0:Int) ([v10]) y19.at_)):Option (qa×Expr)).bind fun(v55,v56)=>
      some (.inr (v55,v9,v56))
     else
      some (.inl (v10,y46.2)):Option ((Expr×qa)⊕(qa×Expr×Expr))).bind fun x=>match x with
    | .inl r=>some (.inl r)
    | .inr (v40, v41, v42) =>
     some (.inr (v40,v41,v42)):Option ((Expr×qa)⊕(qa×Expr×Expr))).bind fun x=>match x with
   | .inl r=>some (.inl r)
   | .inr (v30, v31, v32) =>
    some (.inr (v30,v31,v32)):Option ((Expr×qa)⊕(qa×Expr×Expr))).bind fun x=>match x with
   | .inl r=>some (.inl r)
   | .inr (v23, v24, v25) =>
    (f4 v23 v25).bind fun y63=>
    some (.inr (y63.2,v24,y63.1)):Option ((Expr×qa)⊕(qa×Expr×Expr))).bind fun x=>match x with
   | .inl r=>some (.inr (.inl r))
   | .inr (v16, v17, v18) =>
    some (.inl (v16,v17,v18))
  else
   some (.inr (.inr (v8,v9,v10)))
noncomputable def B_syntax_reader_post (f0:qa→Option qd)(f1:qa→ByteArray→Option (Bool×qa))(f2:qa→ByteArray→Option (Unit×qa))(f3:qa→Int→Int→Option (Int×qa))(f4:qa→Expr→Option (Expr×qa))(f5:qa→Option (Expr×qa))(a0:qa):Option (Expr×qa):=
 (f5 a0).bind fun y1=>
 (qA (qP f1 f4 f2 f0 f3) (y1.2,(Expr.mk (0:Int) (⟨#[]⟩:ByteArray) (0:Int) (0:Int) ([]) (0:Int)),y1.1):Option ((Expr×qa)⊕(qa×Expr×Expr))).bind fun x=>match x with
 | .inl r=>some r
 | .inr (v5, v6, v7) =>
  some (v7,v5)
abbrev C131_0 (z0 z1:Store)(z2:Nat)(z3:Expr):Prop:=Bx z0 z1 z2 39 (Expr.cl z3)
abbrev C131_1 (z0 z1:Store)(z2:Nat)(z3:Expr)(z4:qd):Prop:=Bx z0 z1 z2 39 [(.v (.int .i64 (0:Int))),(.v (.string (⟨#[]⟩:ByteArray))),(.v (.int .i64 (0:Int))),(.v (.int .i64 (0:Int))),(.sl [(Expr.cl z3)]),(.v (.int .i64 z4.at_))]
abbrev C131_2 (z0:Store)(z1:Nat)(z2:Qz)(z3:qa):Prop:=Gx z0 z1 (AObj.box 155 (qa.cl z2 z3))
abbrev C131_3 (z0 z1:Store)(z2:Nat):Prop:=Bx z0 z1 z2 39 [(.v (.int .i64 (0:Int))),(.v (.string (⟨#[]⟩:ByteArray))),(.v (.int .i64 (0:Int))),(.v (.int .i64 (0:Int))),.e0,(.v (.int .i64 (0:Int)))]
theorem W_syntax_reader_post (f0 f1 f2 f3 f4 f5)(S0:Sat_syntax_reader_now f0)(S1:Sat_syntax_reader_can f1)(S2:Sat_syntax_reader_must f2)(S3:Sat_syntax_reader_number f3)(S4:Sat_syntax_reader_made f4)(S5:Sat_syntax_reader_atom f5):Sat_syntax_reader_post (B_syntax_reader_post f0 f1 f2 f3 f4 f5):=by
 intro a0 r h σ K j0 q H0 hq hK;refine Qw (Q:=fun r s=>∃l:List (Nat×AObj),(l.map (·.1)).Nodup∧(∀x∈l,x.1<σ.length∧ClO σ.length x.2)∧Pq σ l K r s) Try.func131 rfl rfl (by kernel_rfl) (fun _ _ h=>h) ?_;unfold B_syntax_reader_post at h;have hP:=Pre.refl σ;have jl0:=H0.lt;have hF:=Fr.refl σ [j0];have E0:qu [(.pt j0 0)] 0=(.pt j0 0):=rfl;have TT:=cj15 Expr.cle Expr.rlen T_153 T_155 T_2 T_27 T_3 T_30 T_37 T_39 T_81 T_85 T_9 qd.cle qa.cle;refine qh (fun e s=>∃i2:Nat,∃τ:Store,C131_2 s j0 q a0∧C131_3 σ s i2∧eP e 0 j0∧eP e 2 i2∧j0≠i2∧Fr σ τ [j0]∧Pre τ s) ?_ ?_
 ·refine w_x (cj2 H0.g3 TT) ?_;exact qf ⟨σ.length,σ,(H0.app [some (AObj.box 39 [(.v (.int .i64 (0:Int))),(.v (.string (⟨#[]⟩:ByteArray))),(.v (.int .i64 (0:Int))),(.v (.int .i64 (0:Int))),.e0,(.v (.int .i64 (0:Int)))])]),(Bx.newf hF hP 39 [(.v (.int .i64 (0:Int))),(.v (.string (⟨#[]⟩:ByteArray))),(.v (.int .i64 (0:Int))),(.v (.int .i64 (0:Int))),.e0,(.v (.int .i64 (0:Int)))]),E0,(xv (cj2 H0.g3 TT)),(Nat.ne_of_lt H0.lt),hF,(hP.app _)⟩
 rintro e s ⟨i2,τ,X0,X2,E0,E2,N0__2,hF,hP⟩
 obtain⟨y1,h2,h⟩:=qb h;refine qh (fun e s=>∃i3:Nat,∃τ:Store,Gx s j0 (AObj.box 155 (qa.cl q y1.2))∧C131_3 σ s i2∧Bx σ s i3 39 (Expr.cl y1.1)∧eP e 0 j0∧eP e 2 i2∧eP e 3 i3∧j0≠i2∧j0≠i3∧i2≠i3∧Fr σ τ [j0]∧Pre τ s) ?_ ?_
 ·have q1:=Gx.same X0 (AObj.box 155 (qa.cl q y1.2));have q2:=cj4 E0 X0.g3 q1.get TT;refine w_x q2 ?_;refine S5 _ _ h2 _ _ _ q X0 (hq.le (Fr.gle hF hP)) ?_;refine w_y q2 ?_;have q3:=X2.ne N0__2 (some (AObj.box 155 (qa.cl q y1.2)));exact qf ⟨(List.set s j0 (some (AObj.box 155 (qa.cl q y1.2)))).length,(List.set τ j0 (some (AObj.box 155 (qa.cl q y1.2)))),(q1.app _),(q3.app _),(Bx.newf (hF.set (by simp) (some (AObj.box 155 (qa.cl q y1.2)))) (hP.setp (hF.lt jl0) (some (AObj.box 155 (qa.cl q y1.2)))) 39 (Expr.cl y1.1)),E0,E2,(xv q2),N0__2,(Nat.ne_of_lt q1.lt),(Nat.ne_of_lt q3.lt),(hF.set (by simp) (some (AObj.box 155 (qa.cl q y1.2)))),((hP.setp (hF.lt jl0) (some (AObj.box 155 (qa.cl q y1.2)))).app _)⟩
 rintro e s ⟨i3,τ,X0,X2,X3,E0,E2,E3,N0__2,N0__3,N2__3,hF,hP⟩
 obtain⟨x3,h4,h⟩:=qb h;refine qh (fun e s=>∃v5:qa,∃v6:Expr,∃v7:Expr,∃τ:Store,.inr (v5,v6,v7)=x3∧C131_2 s j0 q v5∧C131_0 σ s i2 v6∧C131_0 σ s i3 v7∧eP e 2 i2∧eP e 3 i3∧j0≠i2∧j0≠i3∧i2≠i3∧Fr σ τ [j0]∧Pre τ s) ?_ ?_
 ·refine qn (w_iterg h4 (fun v e s=>∃v8 v9 v10,∃τ:Store,(v8,v9,v10)=v∧C131_2 s j0 q v8∧C131_0 σ s i2 v9∧C131_0 σ s i3 v10∧eP e 0 j0∧eP e 2 i2∧eP e 3 i3∧j0≠i2∧j0≠i3∧i2≠i3∧Fr σ τ [j0]∧Pre τ s) ⟨_,_,((Gh.refl _ _).tr (Gh.box (c':=[(.v (.int .i64 (0:Int))),(.v (.string (⟨#[]⟩:ByteArray))),(.v (.int .i64 (0:Int))),(.v (.int .i64 (0:Int))),(.sl []),(.v (.int .i64 (0:Int)))]) X2.get (.cons (.refl _) (.cons (.refl _) (.cons (.refl _) (.cons (.refl _) (.cons .e0 (.cons (.refl _) .nil)))))))),_,_,_,τ,rfl,(X0.ne (Ne.symm N0__2) (some (AObj.box 39 [(.v (.int .i64 (0:Int))),(.v (.string (⟨#[]⟩:ByteArray))),(.v (.int .i64 (0:Int))),(.v (.int .i64 (0:Int))),(.sl []),(.v (.int .i64 (0:Int)))]))),(X2.same 39 [(.v (.int .i64 (0:Int))),(.v (.string (⟨#[]⟩:ByteArray))),(.v (.int .i64 (0:Int))),(.v (.int .i64 (0:Int))),(.sl []),(.v (.int .i64 (0:Int)))]),(X3.ne N2__3 (some (AObj.box 39 [(.v (.int .i64 (0:Int))),(.v (.string (⟨#[]⟩:ByteArray))),(.v (.int .i64 (0:Int))),(.v (.int .i64 (0:Int))),(.sl []),(.v (.int .i64 (0:Int)))]))),E0,E2,E3,N0__2,N0__3,N2__3,hF,(hP.set (hF.ge X2.le) (some (AObj.box 39 [(.v (.int .i64 (0:Int))),(.v (.string (⟨#[]⟩:ByteArray))),(.v (.int .i64 (0:Int))),(.v (.int .i64 (0:Int))),(.sl []),(.v (.int .i64 (0:Int)))])))⟩ ?_)
  rintro v x11 e s hf12 ⟨v8,v9,v10,τ,rfl,X0,X2,X3,E0,E2,E3,N0__2,N0__3,N2__3,hF,hP⟩
  unfold qP at hf12;(try dsimp only at hf12);refine qk (qe (w_x (cj3 E0 X0.get TT) ?_));refine qg (qe ?_);rcases qj hf12 with⟨hb13,hf12⟩|⟨hb13,hf12⟩
  ·refine xt hb13 (qm (qg ?_));obtain⟨x14,h15,hf12⟩:=qb hf12;refine QE (fun e s=>∃v16:qa,∃v17:Expr,∃v18:Expr,∃τ:Store,.inr (v16,v17,v18)=x14∧C131_2 s j0 q v16∧C131_0 σ s i2 v17∧C131_0 σ s i3 v18∧eP e 0 j0∧eP e 2 i2∧eP e 3 i3∧j0≠i2∧j0≠i3∧i2≠i3∧Fr σ τ [j0]∧Pre τ s) ?_ ?_
   ·refine qn ?_;obtain⟨y19,h20,h15⟩:=qb h15;refine qh (fun e s=>∃i4:Nat,∃τ:Store,C131_2 s j0 q v8∧C131_0 σ s i2 v9∧C131_0 σ s i3 v10∧Bx σ s i4 85 (qd.cl y19)∧eP e 0 j0∧eP e 2 i2∧eP e 3 i3∧eP e 4 i4∧j0≠i2∧j0≠i3∧j0≠i4∧i2≠i3∧i2≠i4∧i3≠i4∧Fr σ τ [j0]∧Pre τ s) ?_ ?_
    ·have q4:=cj3 E0 X0.g3 TT;refine w_x q4 ?_;refine S0 _ _ h20 _ _ _ q X0 (hq.le (Fr.gle hF hP)) ?_;refine w_y q4 ?_;exact qf ⟨s.length,τ,(X0.app _),(X2.app _),(X3.app _),(Bx.newf hF hP 85 (qd.cl y19)),E0,E2,E3,(xv q4),N0__2,N0__3,(Nat.ne_of_lt X0.lt),N2__3,(Nat.ne_of_lt X2.lt),(Nat.ne_of_lt X3.lt),hF,(hP.app _)⟩
    rintro e s ⟨i4,τ,X0,X2,X3,X4,E0,E2,E3,E4,N0__2,N0__3,N0__4,N2__3,N2__4,N3__4,hF,hP⟩
    refine qh (fun e s=>∃i5:Nat,∃τ:Store,C131_2 s j0 q v8∧C131_0 σ s i2 v9∧C131_0 σ s i3 v10∧C131_1 σ s i5 v10 y19∧eP e 0 j0∧eP e 2 i2∧eP e 3 i3∧eP e 5 i5∧j0≠i2∧j0≠i3∧j0≠i5∧i2≠i3∧i2≠i5∧i3≠i5∧Fr σ τ [j0]∧Pre τ s) ?_ ?_
    ·refine w_x (cj5 E3 E4 X3.g3 X4.g3 TT) ?_;exact qf ⟨s.length,τ,(X0.app _),(X2.app _),(X3.app _),(Bx.newf hF hP 39 [(.v (.int .i64 (0:Int))),(.v (.string (⟨#[]⟩:ByteArray))),(.v (.int .i64 (0:Int))),(.v (.int .i64 (0:Int))),(.sl [(Expr.cl v10)]),(.v (.int .i64 y19.at_))]),E0,E2,E3,(xv (cj5 E3 E4 X3.g3 X4.g3 TT)),N0__2,N0__3,(Nat.ne_of_lt X0.lt),N2__3,(Nat.ne_of_lt X2.lt),(Nat.ne_of_lt X3.lt),hF,(hP.app _)⟩
    rintro e s ⟨i5,τ,X0,X2,X3,X5,E0,E2,E3,E5,N0__2,N0__3,N0__5,N2__3,N2__5,N3__5,hF,hP⟩
    obtain⟨x21,h22,h15⟩:=qb h15;refine qh (fun e s=>∃v23:qa,∃v24:Expr,∃v25:Expr,∃τ:Store,.inr (v23,v24,v25)=x21∧C131_2 s j0 q v23∧C131_0 σ s i2 v24∧C131_0 σ s i3 v10∧C131_0 σ s i5 v25∧eP e 0 j0∧eP e 2 i2∧eP e 3 i3∧eP e 5 i5∧j0≠i2∧j0≠i3∧j0≠i5∧i2≠i3∧i2≠i5∧i3≠i5∧Fr σ τ [j0]∧Pre τ s) ?_ ?_
    ·refine qn ?_;obtain⟨y26,h27,h22⟩:=qb h22;refine qh (fun e s=>∃τ:Store,Gx s j0 (AObj.box 155 (qa.cl q y26.2))∧C131_0 σ s i2 v9∧C131_0 σ s i3 v10∧C131_1 σ s i5 v10 y19∧eP e 0 j0∧eP e 2 i2∧eP e 3 i3∧eP e 5 i5∧eB e 21 y26.1∧j0≠i2∧j0≠i3∧j0≠i5∧i2≠i3∧i2≠i5∧i3≠i5∧Fr σ τ [j0]∧Pre τ s) ?_ ?_
     ·have q5:=Gx.same X0 (AObj.box 155 (qa.cl q y26.2));have q6:=cj4 E0 X0.get q5.get TT;refine w_x q6 ?_;refine S1 _ _ _ h27 _ _ _ q X0 (hq.le (Fr.gle hF hP)) ?_;refine w_y q6 ?_;exact qf ⟨(List.set τ j0 (some (AObj.box 155 (qa.cl q y26.2)))),q5,(X2.ne N0__2 _),(X3.ne N0__3 _),(X5.ne N0__5 _),E0,E2,E3,E5,(xv q6),N0__2,N0__3,N0__5,N2__3,N2__5,N3__5,(hF.set (by simp) (some (AObj.box 155 (qa.cl q y26.2)))),(hP.setp (hF.lt jl0) (some (AObj.box 155 (qa.cl q y26.2))))⟩
     rintro e s ⟨τ,X0,X2,X3,X5,E0,E2,E3,E5,E21,N0__2,N0__3,N0__5,N2__3,N2__5,N3__5,hF,hP⟩
     obtain⟨x28,h29,h22⟩:=qb h22;refine QE (fun e s=>∃v30:qa,∃v31:Expr,∃v32:Expr,∃τ:Store,.inr (v30,v31,v32)=x28∧C131_2 s j0 q v30∧C131_0 σ s i2 v31∧C131_0 σ s i3 v10∧C131_0 σ s i5 v32∧eP e 0 j0∧eP e 2 i2∧eP e 3 i3∧eP e 5 i5∧j0≠i2∧j0≠i3∧j0≠i5∧i2≠i3∧i2≠i5∧i3≠i5∧Fr σ τ [j0]∧Pre τ s) ?_ ?_
     ·rcases qj h29 with⟨hb33,h29⟩|⟨hb33,h29⟩
      ·refine xt (cj2 E21 hb33) ?_;obtain⟨y34,h35,h29⟩:=qb h29;have q7:=Gx.same X0 (AObj.box 155 (qa.cl q y34.2));have q8:=X5.ne N0__5 (some (AObj.box 155 (qa.cl q y34.2)));have q9:=cj11 E0 E5 X0.get X5.get q7.get q8.get (q7.ne (Ne.symm N0__5) (some (AObj.box 39 [(.v (.int .i64 (3:Int))),(.v (.string (⟨#[]⟩:ByteArray))),(.v (.int .i64 (0:Int))),(.v (.int .i64 (0:Int))),(.sl [(Expr.cl v10)]),(.v (.int .i64 y19.at_))]))).get (q8.same 39 [(.v (.int .i64 (3:Int))),(.v (.string (⟨#[]⟩:ByteArray))),(.v (.int .i64 (0:Int))),(.v (.int .i64 (0:Int))),(.sl [(Expr.cl v10)]),(.v (.int .i64 y19.at_))]).get ((q7.ne (Ne.symm N0__5) (some (AObj.box 39 [(.v (.int .i64 (3:Int))),(.v (.string (⟨#[]⟩:ByteArray))),(.v (.int .i64 (0:Int))),(.v (.int .i64 (0:Int))),(.sl [(Expr.cl v10)]),(.v (.int .i64 y19.at_))]))).ne (Ne.symm N0__5) (some (AObj.box 39 [(.v (.int .i64 (3:Int))),(.v (.string (⟨#[]⟩:ByteArray))),(.v (.int .i64 y34.1)),(.v (.int .i64 (0:Int))),(.sl [(Expr.cl v10)]),(.v (.int .i64 y19.at_))]))).get ((q8.same 39 [(.v (.int .i64 (3:Int))),(.v (.string (⟨#[]⟩:ByteArray))),(.v (.int .i64 (0:Int))),(.v (.int .i64 (0:Int))),(.sl [(Expr.cl v10)]),(.v (.int .i64 y19.at_))]).same 39 [(.v (.int .i64 (3:Int))),(.v (.string (⟨#[]⟩:ByteArray))),(.v (.int .i64 y34.1)),(.v (.int .i64 (0:Int))),(.sl [(Expr.cl v10)]),(.v (.int .i64 y19.at_))]).get TT;refine w_x q9 ?_;refine S3 _ _ _ _ h35 _ _ _ q X0 (hq.le (Fr.gle hF hP)) ?_;refine w_y q9 ?_;obtain rfl:=qc h29;exact zr ⟨_,_,_,(List.set τ j0 (some (AObj.box 155 (qa.cl q y34.2)))),rfl,((q7.ne (Ne.symm N0__5) _).ne (Ne.symm N0__5) _),(((X2.ne N0__2 _).ne (Ne.symm N2__5) _).ne (Ne.symm N2__5) _),(((X3.ne N0__3 _).ne (Ne.symm N3__5) _).ne (Ne.symm N3__5) _),(Bx.cast (by first|rfl|(simp only[Expr.rows_eq,List.map_cons,List.map_nil,Expr.cl];done)|(simp only[Expr.rows_eq,List.map_cons,List.map_nil,Expr.cl];rfl)) ((q8.same 39 [(.v (.int .i64 (3:Int))),(.v (.string (⟨#[]⟩:ByteArray))),(.v (.int .i64 (0:Int))),(.v (.int .i64 (0:Int))),(.sl [(Expr.cl v10)]),(.v (.int .i64 y19.at_))]).same 39 [(.v (.int .i64 (3:Int))),(.v (.string (⟨#[]⟩:ByteArray))),(.v (.int .i64 y34.1)),(.v (.int .i64 (0:Int))),(.sl [(Expr.cl v10)]),(.v (.int .i64 y19.at_))])),E0,E2,E3,E5,N0__2,N0__3,N0__5,N2__3,N2__5,N3__5,(hF.set (by simp) (some (AObj.box 155 (qa.cl q y34.2)))),(((hP.setp (hF.lt jl0) (some (AObj.box 155 (qa.cl q y34.2)))).set ((hF.set (by simp) (some (AObj.box 155 (qa.cl q y34.2)))).ge q8.le) (some (AObj.box 39 [(.v (.int .i64 (3:Int))),(.v (.string (⟨#[]⟩:ByteArray))),(.v (.int .i64 (0:Int))),(.v (.int .i64 (0:Int))),(.sl [(Expr.cl v10)]),(.v (.int .i64 y19.at_))]))).set ((hF.set (by simp) (some (AObj.box 155 (qa.cl q y34.2)))).ge (q8.same 39 [(.v (.int .i64 (3:Int))),(.v (.string (⟨#[]⟩:ByteArray))),(.v (.int .i64 (0:Int))),(.v (.int .i64 (0:Int))),(.sl [(Expr.cl v10)]),(.v (.int .i64 y19.at_))]).le) (some (AObj.box 39 [(.v (.int .i64 (3:Int))),(.v (.string (⟨#[]⟩:ByteArray))),(.v (.int .i64 y34.1)),(.v (.int .i64 (0:Int))),(.sl [(Expr.cl v10)]),(.v (.int .i64 y19.at_))])))⟩
      ·refine xf (cj2 E21 hb33) ?_;obtain⟨y36,h37,h29⟩:=qb h29;refine qh (fun e s=>∃τ:Store,Gx s j0 (AObj.box 155 (qa.cl q y36.2))∧C131_0 σ s i2 v9∧C131_0 σ s i3 v10∧C131_1 σ s i5 v10 y19∧eP e 0 j0∧eP e 2 i2∧eP e 3 i3∧eP e 5 i5∧eB e 28 y36.1∧j0≠i2∧j0≠i3∧j0≠i5∧i2≠i3∧i2≠i5∧i3≠i5∧Fr σ τ [j0]∧Pre τ s) ?_ ?_
       ·have q10:=Gx.same X0 (AObj.box 155 (qa.cl q y36.2));have q11:=cj4 E0 X0.get q10.get TT;refine w_x q11 ?_;refine S1 _ _ _ h37 _ _ _ q X0 (hq.le (Fr.gle hF hP)) ?_;refine w_y q11 ?_;exact qf ⟨(List.set τ j0 (some (AObj.box 155 (qa.cl q y36.2)))),q10,(X2.ne N0__2 _),(X3.ne N0__3 _),(X5.ne N0__5 _),E0,E2,E3,E5,(xv q11),N0__2,N0__3,N0__5,N2__3,N2__5,N3__5,(hF.set (by simp) (some (AObj.box 155 (qa.cl q y36.2)))),(hP.setp (hF.lt jl0) (some (AObj.box 155 (qa.cl q y36.2))))⟩
       rintro e s ⟨τ,X0,X2,X3,X5,E0,E2,E3,E5,E28,N0__2,N0__3,N0__5,N2__3,N2__5,N3__5,hF,hP⟩
       obtain⟨x38,h39,h29⟩:=qb h29;refine QE (fun e s=>∃v40:qa,∃v41:Expr,∃v42:Expr,∃τ:Store,.inr (v40,v41,v42)=x38∧C131_2 s j0 q v40∧C131_0 σ s i2 v41∧C131_0 σ s i3 v10∧C131_0 σ s i5 v42∧eP e 0 j0∧eP e 2 i2∧eP e 3 i3∧eP e 5 i5∧j0≠i2∧j0≠i3∧j0≠i5∧i2≠i3∧i2≠i5∧i3≠i5∧Fr σ τ [j0]∧Pre τ s) ?_ ?_
       ·rcases qj h39 with⟨hb43,h39⟩|⟨hb43,h39⟩
        ·refine xt (cj2 E28 hb43) ?_;obtain⟨y44,h45,h39⟩:=qb h39;have q12:=Gx.same X0 (AObj.box 155 (qa.cl q y44.2));have q13:=X5.ne N0__5 (some (AObj.box 155 (qa.cl q y44.2)));have q14:=cj11 E0 E5 X0.get X5.get q12.get q13.get (q12.ne (Ne.symm N0__5) (some (AObj.box 39 [(.v (.int .i64 (4:Int))),(.v (.string (⟨#[]⟩:ByteArray))),(.v (.int .i64 (0:Int))),(.v (.int .i64 (0:Int))),(.sl [(Expr.cl v10)]),(.v (.int .i64 y19.at_))]))).get (q13.same 39 [(.v (.int .i64 (4:Int))),(.v (.string (⟨#[]⟩:ByteArray))),(.v (.int .i64 (0:Int))),(.v (.int .i64 (0:Int))),(.sl [(Expr.cl v10)]),(.v (.int .i64 y19.at_))]).get ((q12.ne (Ne.symm N0__5) (some (AObj.box 39 [(.v (.int .i64 (4:Int))),(.v (.string (⟨#[]⟩:ByteArray))),(.v (.int .i64 (0:Int))),(.v (.int .i64 (0:Int))),(.sl [(Expr.cl v10)]),(.v (.int .i64 y19.at_))]))).ne (Ne.symm N0__5) (some (AObj.box 39 [(.v (.int .i64 (4:Int))),(.v (.string (⟨#[]⟩:ByteArray))),(.v (.int .i64 y44.1)),(.v (.int .i64 (0:Int))),(.sl [(Expr.cl v10)]),(.v (.int .i64 y19.at_))]))).get ((q13.same 39 [(.v (.int .i64 (4:Int))),(.v (.string (⟨#[]⟩:ByteArray))),(.v (.int .i64 (0:Int))),(.v (.int .i64 (0:Int))),(.sl [(Expr.cl v10)]),(.v (.int .i64 y19.at_))]).same 39 [(.v (.int .i64 (4:Int))),(.v (.string (⟨#[]⟩:ByteArray))),(.v (.int .i64 y44.1)),(.v (.int .i64 (0:Int))),(.sl [(Expr.cl v10)]),(.v (.int .i64 y19.at_))]).get TT;refine w_x q14 ?_;refine S3 _ _ _ _ h45 _ _ _ q X0 (hq.le (Fr.gle hF hP)) ?_;refine w_y q14 ?_;obtain rfl:=qc h39;exact zr ⟨_,_,_,(List.set τ j0 (some (AObj.box 155 (qa.cl q y44.2)))),rfl,((q12.ne (Ne.symm N0__5) _).ne (Ne.symm N0__5) _),(((X2.ne N0__2 _).ne (Ne.symm N2__5) _).ne (Ne.symm N2__5) _),(((X3.ne N0__3 _).ne (Ne.symm N3__5) _).ne (Ne.symm N3__5) _),(Bx.cast (by first|rfl|(simp only[Expr.rows_eq,List.map_cons,List.map_nil,Expr.cl];done)|(simp only[Expr.rows_eq,List.map_cons,List.map_nil,Expr.cl];rfl)) ((q13.same 39 [(.v (.int .i64 (4:Int))),(.v (.string (⟨#[]⟩:ByteArray))),(.v (.int .i64 (0:Int))),(.v (.int .i64 (0:Int))),(.sl [(Expr.cl v10)]),(.v (.int .i64 y19.at_))]).same 39 [(.v (.int .i64 (4:Int))),(.v (.string (⟨#[]⟩:ByteArray))),(.v (.int .i64 y44.1)),(.v (.int .i64 (0:Int))),(.sl [(Expr.cl v10)]),(.v (.int .i64 y19.at_))])),E0,E2,E3,E5,N0__2,N0__3,N0__5,N2__3,N2__5,N3__5,(hF.set (by simp) (some (AObj.box 155 (qa.cl q y44.2)))),(((hP.setp (hF.lt jl0) (some (AObj.box 155 (qa.cl q y44.2)))).set ((hF.set (by simp) (some (AObj.box 155 (qa.cl q y44.2)))).ge q13.le) (some (AObj.box 39 [(.v (.int .i64 (4:Int))),(.v (.string (⟨#[]⟩:ByteArray))),(.v (.int .i64 (0:Int))),(.v (.int .i64 (0:Int))),(.sl [(Expr.cl v10)]),(.v (.int .i64 y19.at_))]))).set ((hF.set (by simp) (some (AObj.box 155 (qa.cl q y44.2)))).ge (q13.same 39 [(.v (.int .i64 (4:Int))),(.v (.string (⟨#[]⟩:ByteArray))),(.v (.int .i64 (0:Int))),(.v (.int .i64 (0:Int))),(.sl [(Expr.cl v10)]),(.v (.int .i64 y19.at_))]).le) (some (AObj.box 39 [(.v (.int .i64 (4:Int))),(.v (.string (⟨#[]⟩:ByteArray))),(.v (.int .i64 y44.1)),(.v (.int .i64 (0:Int))),(.sl [(Expr.cl v10)]),(.v (.int .i64 y19.at_))])))⟩
        ·refine xf (cj2 E28 hb43) ?_;obtain⟨y46,h47,h39⟩:=qb h39;refine qh (fun e s=>∃τ:Store,Gx s j0 (AObj.box 155 (qa.cl q y46.2))∧C131_0 σ s i2 v9∧C131_0 σ s i3 v10∧C131_1 σ s i5 v10 y19∧eP e 0 j0∧eP e 2 i2∧eP e 3 i3∧eP e 5 i5∧eB e 35 y46.1∧j0≠i2∧j0≠i3∧j0≠i5∧i2≠i3∧i2≠i5∧i3≠i5∧Fr σ τ [j0]∧Pre τ s) ?_ ?_
         ·have q15:=Gx.same X0 (AObj.box 155 (qa.cl q y46.2));have q16:=cj4 E0 X0.get q15.get TT;refine w_x q16 ?_;refine S1 _ _ _ h47 _ _ _ q X0 (hq.le (Fr.gle hF hP)) ?_;refine w_y q16 ?_;exact qf ⟨(List.set τ j0 (some (AObj.box 155 (qa.cl q y46.2)))),q15,(X2.ne N0__2 _),(X3.ne N0__3 _),(X5.ne N0__5 _),E0,E2,E3,E5,(xv q16),N0__2,N0__3,N0__5,N2__3,N2__5,N3__5,(hF.set (by simp) (some (AObj.box 155 (qa.cl q y46.2)))),(hP.setp (hF.lt jl0) (some (AObj.box 155 (qa.cl q y46.2))))⟩
         rintro e s ⟨τ,X0,X2,X3,X5,E0,E2,E3,E5,E35,N0__2,N0__3,N0__5,N2__3,N2__5,N3__5,hF,hP⟩
         rcases qj h39 with⟨hb48,h39⟩|⟨hb48,h39⟩
         ·refine xt (cj2 E35 hb48) ?_;obtain⟨y49,h50,h39⟩:=qb h39;refine qh (fun e s=>∃τ:Store,Gx s j0 (AObj.box 155 (qa.cl q y49.2))∧C131_0 σ s i2 v9∧C131_0 σ s i3 v10∧Bx σ s i5 39 [(.v (.int .i64 (5:Int))),(.v (.string (⟨#[]⟩:ByteArray))),(.v (.int .i64 y49.1)),(.v (.int .i64 (0:Int))),(.sl [(Expr.cl v10)]),(.v (.int .i64 y19.at_))]∧eP e 0 j0∧eP e 2 i2∧eP e 3 i3∧eP e 5 i5∧j0≠i2∧j0≠i3∧j0≠i5∧i2≠i3∧i2≠i5∧i3≠i5∧Fr σ τ [j0]∧Pre τ s) ?_ ?_
          ·have q17:=Gx.same X0 (AObj.box 155 (qa.cl q y49.2));have q18:=X5.ne N0__5 (some (AObj.box 155 (qa.cl q y49.2)));have q19:=cj11 E0 E5 X0.get X5.get q17.get q18.get (q17.ne (Ne.symm N0__5) (some (AObj.box 39 [(.v (.int .i64 (5:Int))),(.v (.string (⟨#[]⟩:ByteArray))),(.v (.int .i64 (0:Int))),(.v (.int .i64 (0:Int))),(.sl [(Expr.cl v10)]),(.v (.int .i64 y19.at_))]))).get (q18.same 39 [(.v (.int .i64 (5:Int))),(.v (.string (⟨#[]⟩:ByteArray))),(.v (.int .i64 (0:Int))),(.v (.int .i64 (0:Int))),(.sl [(Expr.cl v10)]),(.v (.int .i64 y19.at_))]).get ((q17.ne (Ne.symm N0__5) (some (AObj.box 39 [(.v (.int .i64 (5:Int))),(.v (.string (⟨#[]⟩:ByteArray))),(.v (.int .i64 (0:Int))),(.v (.int .i64 (0:Int))),(.sl [(Expr.cl v10)]),(.v (.int .i64 y19.at_))]))).ne (Ne.symm N0__5) (some (AObj.box 39 [(.v (.int .i64 (5:Int))),(.v (.string (⟨#[]⟩:ByteArray))),(.v (.int .i64 y49.1)),(.v (.int .i64 (0:Int))),(.sl [(Expr.cl v10)]),(.v (.int .i64 y19.at_))]))).get ((q18.same 39 [(.v (.int .i64 (5:Int))),(.v (.string (⟨#[]⟩:ByteArray))),(.v (.int .i64 (0:Int))),(.v (.int .i64 (0:Int))),(.sl [(Expr.cl v10)]),(.v (.int .i64 y19.at_))]).same 39 [(.v (.int .i64 (5:Int))),(.v (.string (⟨#[]⟩:ByteArray))),(.v (.int .i64 y49.1)),(.v (.int .i64 (0:Int))),(.sl [(Expr.cl v10)]),(.v (.int .i64 y19.at_))]).get TT;refine w_x q19 ?_;refine S3 _ _ _ _ h50 _ _ _ q X0 (hq.le (Fr.gle hF hP)) ?_;refine w_y q19 ?_;exact qf ⟨(List.set τ j0 (some (AObj.box 155 (qa.cl q y49.2)))),((q17.ne (Ne.symm N0__5) _).ne (Ne.symm N0__5) _),(((X2.ne N0__2 _).ne (Ne.symm N2__5) _).ne (Ne.symm N2__5) _),(((X3.ne N0__3 _).ne (Ne.symm N3__5) _).ne (Ne.symm N3__5) _),((q18.same _ _).same _ _),E0,E2,E3,E5,N0__2,N0__3,N0__5,N2__3,N2__5,N3__5,(hF.set (by simp) (some (AObj.box 155 (qa.cl q y49.2)))),(((hP.setp (hF.lt jl0) (some (AObj.box 155 (qa.cl q y49.2)))).set ((hF.set (by simp) (some (AObj.box 155 (qa.cl q y49.2)))).ge q18.le) (some (AObj.box 39 [(.v (.int .i64 (5:Int))),(.v (.string (⟨#[]⟩:ByteArray))),(.v (.int .i64 (0:Int))),(.v (.int .i64 (0:Int))),(.sl [(Expr.cl v10)]),(.v (.int .i64 y19.at_))]))).set ((hF.set (by simp) (some (AObj.box 155 (qa.cl q y49.2)))).ge (q18.same 39 [(.v (.int .i64 (5:Int))),(.v (.string (⟨#[]⟩:ByteArray))),(.v (.int .i64 (0:Int))),(.v (.int .i64 (0:Int))),(.sl [(Expr.cl v10)]),(.v (.int .i64 y19.at_))]).le) (some (AObj.box 39 [(.v (.int .i64 (5:Int))),(.v (.string (⟨#[]⟩:ByteArray))),(.v (.int .i64 y49.1)),(.v (.int .i64 (0:Int))),(.sl [(Expr.cl v10)]),(.v (.int .i64 y19.at_))])))⟩
          rintro e s ⟨τ,X0,X2,X3,X5,E0,E2,E3,E5,N0__2,N0__3,N0__5,N2__3,N2__5,N3__5,hF,hP⟩
          obtain⟨y51,h52,h39⟩:=qb h39;refine qh (fun e s=>∃τ:Store,Gx s j0 (AObj.box 155 (qa.cl q y51.2))∧C131_0 σ s i2 v9∧C131_0 σ s i3 v10∧Bx σ s i5 39 [(.v (.int .i64 (5:Int))),(.v (.string (⟨#[]⟩:ByteArray))),(.v (.int .i64 y49.1)),(.v (.int .i64 (0:Int))),(.sl [(Expr.cl v10)]),(.v (.int .i64 y19.at_))]∧eP e 0 j0∧eP e 2 i2∧eP e 3 i3∧eP e 5 i5∧j0≠i2∧j0≠i3∧j0≠i5∧i2≠i3∧i2≠i5∧i3≠i5∧Fr σ τ [j0]∧Pre τ s) ?_ ?_
          ·refine w_x (cj4 E0 X0.get X0.samea TT) ?_;refine S2 _ _ _ h52 _ _ _ q X0 (hq.le (Fr.gle hF hP)) ?_;refine w_y (cj4 E0 X0.get X0.samea TT) ?_;exact qf ⟨(List.set τ j0 (some (AObj.box 155 (qa.cl q y51.2)))),(Gx.same X0 _),(X2.ne N0__2 _),(X3.ne N0__3 _),(X5.ne N0__5 _),E0,E2,E3,E5,N0__2,N0__3,N0__5,N2__3,N2__5,N3__5,(hF.set (by simp) (some (AObj.box 155 (qa.cl q y51.2)))),(hP.setp (hF.lt jl0) (some (AObj.box 155 (qa.cl q y51.2))))⟩
          rintro e s ⟨τ,X0,X2,X3,X5,E0,E2,E3,E5,N0__2,N0__3,N0__5,N2__3,N2__5,N3__5,hF,hP⟩
          refine qe (w_x (cj3 E0 X0.get TT) ?_);refine qg ?_;obtain⟨x53,h54,h39⟩:=qb h39;refine QE (fun e s=>∃v55 v56,∃τ:Store,(v55,v56)=x53∧C131_2 s j0 q v55∧C131_0 σ s i2 v9∧C131_0 σ s i3 v10∧C131_0 σ s i5 v56∧eP e 0 j0∧eP e 2 i2∧eP e 3 i3∧eP e 5 i5∧j0≠i2∧j0≠i3∧j0≠i5∧i2≠i3∧i2≠i5∧i3≠i5∧Fr σ τ [j0]∧Pre τ s) ?_ ?_
          ·rcases qj h54 with⟨hb57,h54⟩|⟨hb57,h54⟩
           ·refine xt hb57 ?_;obtain⟨y58,h59,h54⟩:=qb h54;have q20:=Gx.same X0 (AObj.box 155 (qa.cl q y58.2));have q21:=X5.ne N0__5 (some (AObj.box 155 (qa.cl q y58.2)));have q22:=cj9 E0 E5 X0.get X5.get q20.get q21.get (q20.ne (Ne.symm N0__5) (some (AObj.box 39 [(.v (.int .i64 (5:Int))),(.v (.string (⟨#[]⟩:ByteArray))),(.v (.int .i64 y49.1)),(.v (.int .i64 y58.1)),(.sl [(Expr.cl v10)]),(.v (.int .i64 y19.at_))]))).get (q21.same 39 [(.v (.int .i64 (5:Int))),(.v (.string (⟨#[]⟩:ByteArray))),(.v (.int .i64 y49.1)),(.v (.int .i64 y58.1)),(.sl [(Expr.cl v10)]),(.v (.int .i64 y19.at_))]).get TT;refine w_x q22 ?_;refine S3 _ _ _ _ h59 _ _ _ q X0 (hq.le (Fr.gle hF hP)) ?_;refine w_y q22 ?_;obtain rfl:=qc h54;exact zr ⟨_,_,(List.set τ j0 (some (AObj.box 155 (qa.cl q y58.2)))),rfl,(q20.ne (Ne.symm N0__5) _),((X2.ne N0__2 _).ne (Ne.symm N2__5) _),((X3.ne N0__3 _).ne (Ne.symm N3__5) _),(Bx.cast (by first|rfl|(simp only[Expr.rows_eq,List.map_cons,List.map_nil,Expr.cl];done)|(simp only[Expr.rows_eq,List.map_cons,List.map_nil,Expr.cl];rfl)) (q21.same 39 [(.v (.int .i64 (5:Int))),(.v (.string (⟨#[]⟩:ByteArray))),(.v (.int .i64 y49.1)),(.v (.int .i64 y58.1)),(.sl [(Expr.cl v10)]),(.v (.int .i64 y19.at_))])),E0,E2,E3,E5,N0__2,N0__3,N0__5,N2__3,N2__5,N3__5,(hF.set (by simp) (some (AObj.box 155 (qa.cl q y58.2)))),((hP.setp (hF.lt jl0) (some (AObj.box 155 (qa.cl q y58.2)))).set ((hF.set (by simp) (some (AObj.box 155 (qa.cl q y58.2)))).ge q21.le) (some (AObj.box 39 [(.v (.int .i64 (5:Int))),(.v (.string (⟨#[]⟩:ByteArray))),(.v (.int .i64 y49.1)),(.v (.int .i64 y58.1)),(.sl [(Expr.cl v10)]),(.v (.int .i64 y19.at_))])))⟩
           ·refine xf hb57 (qm ?_);obtain rfl:=qc h54;exact zr ⟨_,_,τ,rfl,X0,X2,X3,(Bx.cast (by first|rfl|(simp only[Expr.rows_eq,List.map_cons,List.map_nil,Expr.cl];done)|(simp only[Expr.rows_eq,List.map_cons,List.map_nil,Expr.cl];rfl)) X5),E0,E2,E3,E5,N0__2,N0__3,N0__5,N2__3,N2__5,N3__5,hF,hP⟩
          rintro e s ⟨v55,v56,τ,rfl,X0,X2,X3,X5,E0,E2,E3,E5,N0__2,N0__3,N0__5,N2__3,N2__5,N3__5,hF,hP⟩
          (try dsimp only at h39);obtain rfl:=qc h39;exact zr ⟨_,_,_,τ,rfl,X0,X2,X3,X5,E0,E2,E3,E5,N0__2,N0__3,N0__5,N2__3,N2__5,N3__5,hF,hP⟩
         ·refine xf (cj2 E35 hb48) (qh (fun e s=>∃τ:Store,Gx s j0 (AObj.box 155 (qa.cl q y46.2))∧C131_0 σ s i2 v10∧eP e 2 i2∧j0≠i2∧Fr σ τ [j0]∧Pre τ s) ?_ ?_)
          ·refine w_x (cj7 E2 E3 X2.get X3.get X2.samea (X3.nea N2__3) TT) ?_;exact qf ⟨τ,(X0.ne (Ne.symm N0__2) _),(X2.same _ _),E2,N0__2,hF,(hP.set (hF.ge X2.le) (some (AObj.box 39 (Expr.cl v10))))⟩
          rintro e s ⟨τ,X0,X2,E2,N0__2,hF,hP⟩
          refine qo ?_;obtain rfl:=qc h39;refine ct_r ?_;(try dsimp only at h29);obtain rfl:=qc h29;refine ct_r ?_;(try dsimp only at h22);refine qx ?_;obtain rfl:=qc h22;refine qO ?_;(try dsimp only at h15);refine qx ?_;obtain rfl:=qc h15;refine ct_r ?_;(try dsimp only at hf12);obtain rfl:=qc hf12;refine Zz rfl fun hr60=> ?_;obtain rfl:=hr60;refine qx (qO ?_);(try dsimp only at h);obtain rfl:=qc h;have hn61:(List.map (·.1) ([(j0,(AObj.box 155 (qa.cl q y46.2)))]:List (Nat×AObj))).Nodup:=(List.nodup_cons.2 ⟨(fun h=>by simp at h),List.nodup_nil⟩);have he62:=Fr.eq hF hn61 (List.forall_mem_cons.2 ⟨⟨jl0,(Gx.back X0 hP (hF.lt jl0))⟩,(fun x hx=>absurd hx (by simp))⟩);exact qU (fun _=>rfl) (xr (rs:= #[.cell 2 39]) (cj3 X2.get E2 TT)) ⟨_,hn61,(List.forall_mem_cons.2 ⟨⟨jl0,(ClO.bx (ClL.cons (Cn.cl (Cn.rows qd.cn _) _) (ClL.cons (Cn.cl (.v _) _) (ClL.cons (Cn.cl (.v _) _) (ClL.cons (Cn.cl (.v _) _) (ClL.cons (Cn.cl (.v _) _) (ClL.cons hq.c5 (ClL.cons hq.c6 (ClL.cons hq.c7 (ClL.cons hq.c8 ClL.nil))))))))))⟩,(fun x hx=>absurd hx (by simp))⟩),he62▸hP,_,(.refl _),(.ag (CnL.cons (.v _) (CnL.cons (.v _) (CnL.cons (.v _) (CnL.cons (.v _) (CnL.cons (Expr.cnr _) (CnL.cons (.v _) CnL.nil))))))),hK⟩
       rintro e s ⟨v40,v41,v42,τ,rfl,X0,X2,X3,X5,E0,E2,E3,E5,N0__2,N0__3,N0__5,N2__3,N2__5,N3__5,hF,hP⟩
       (try dsimp only at h29);obtain rfl:=qc h29;exact zr ⟨_,_,_,τ,rfl,X0,X2,X3,X5,E0,E2,E3,E5,N0__2,N0__3,N0__5,N2__3,N2__5,N3__5,hF,hP⟩
     rintro e s ⟨v30,v31,v32,τ,rfl,X0,X2,X3,X5,E0,E2,E3,E5,N0__2,N0__3,N0__5,N2__3,N2__5,N3__5,hF,hP⟩
     (try dsimp only at h22);refine zc ?_;obtain rfl:=qc h22;exact qf ⟨_,_,_,τ,rfl,X0,X2,X3,X5,E0,E2,E3,E5,N0__2,N0__3,N0__5,N2__3,N2__5,N3__5,hF,hP⟩
    rintro e s ⟨v23,v24,v25,τ,rfl,X0,X2,X3,X5,E0,E2,E3,E5,N0__2,N0__3,N0__5,N2__3,N2__5,N3__5,hF,hP⟩
    (try dsimp only at h15);obtain⟨y63,h64,h15⟩:=qb h15;have q23:=Gx.same X0 (AObj.box 155 (qa.cl q y63.2));have q24:=X5.ne N0__5 (some (AObj.box 155 (qa.cl q y63.2)));have q25:=X3.ne N0__3 (some (AObj.box 155 (qa.cl q y63.2)));have q26:=cj13 E0 E3 E5 X0.get X3.get X5.get q23.get q25.get q24.get (q23.ne (Ne.symm N0__3) (some (AObj.box 39 (Expr.cl y63.1)))).get (q25.same 39 (Expr.cl y63.1)).get (q24.ne N3__5 (some (AObj.box 39 (Expr.cl y63.1)))).get TT;refine w_x q26 ?_;refine S4 _ _ _ h64 _ _ _ q X0 (hq.le (Fr.gle hF hP)) ?_;refine w_y q26 ?_;refine zc ?_;obtain rfl:=qc h15;exact zr ⟨_,_,_,(List.set τ j0 (some (AObj.box 155 (qa.cl q y63.2)))),rfl,(q23.ne (Ne.symm N0__3) _),((X2.ne N0__2 _).ne (Ne.symm N2__3) _),(q25.same _ _),E0,E2,E3,N0__2,N0__3,N2__3,(hF.set (by simp) (some (AObj.box 155 (qa.cl q y63.2)))),((hP.setp (hF.lt jl0) (some (AObj.box 155 (qa.cl q y63.2)))).set ((hF.set (by simp) (some (AObj.box 155 (qa.cl q y63.2)))).ge q25.le) (some (AObj.box 39 (Expr.cl y63.1))))⟩
   rintro e s ⟨v16,v17,v18,τ,rfl,X0,X2,X3,E0,E2,E3,N0__2,N0__3,N2__3,hF,hP⟩
   (try dsimp only at hf12);obtain rfl:=qc hf12;exact zK rfl ⟨_,_,_,τ,rfl,X0,X2,X3,E0,E2,E3,N0__2,N0__3,N2__3,hF,hP⟩
  ·refine xf hb13 (qz (qT ?_));obtain rfl:=qc hf12;refine zo rfl fun hr65=> ?_;obtain rfl:=hr65;exact qG (qf ⟨_,_,_,τ,rfl,X0,X2,X3,E2,E3,N0__2,N0__3,N2__3,hF,hP⟩)
 rintro e s ⟨v5,v6,v7,τ,rfl,X0,X2,X3,E2,E3,N0__2,N0__3,N2__3,hF,hP⟩
 (try dsimp only at h);refine qh (fun e s=>∃τ:Store,C131_2 s j0 q v5∧C131_0 σ s i2 v7∧eP e 2 i2∧j0≠i2∧Fr σ τ [j0]∧Pre τ s) ?_ ?_
 ·refine w_x (cj7 E2 E3 X2.get X3.get X2.samea (X3.nea N2__3) TT) ?_;exact qf ⟨τ,(X0.ne (Ne.symm N0__2) _),(X2.same _ _),E2,N0__2,hF,(hP.set (hF.ge X2.le) (some (AObj.box 39 (Expr.cl v7))))⟩
 rintro e s ⟨τ,X0,X2,E2,N0__2,hF,hP⟩
 refine qo ?_;obtain rfl:=qc h;have hn66:(List.map (·.1) ([(j0,(AObj.box 155 (qa.cl q v5)))]:List (Nat×AObj))).Nodup:=(List.nodup_cons.2 ⟨(fun h=>by simp at h),List.nodup_nil⟩);have he67:=Fr.eq hF hn66 (List.forall_mem_cons.2 ⟨⟨jl0,(Gx.back X0 hP (hF.lt jl0))⟩,(fun x hx=>absurd hx (by simp))⟩);exact qU (fun _=>rfl) (xr (rs:= #[.cell 2 39]) (cj3 X2.get E2 TT)) ⟨_,hn66,(List.forall_mem_cons.2 ⟨⟨jl0,(ClO.bx (ClL.cons (Cn.cl (Cn.rows qd.cn _) _) (ClL.cons (Cn.cl (.v _) _) (ClL.cons (Cn.cl (.v _) _) (ClL.cons (Cn.cl (.v _) _) (ClL.cons (Cn.cl (.v _) _) (ClL.cons hq.c5 (ClL.cons hq.c6 (ClL.cons hq.c7 (ClL.cons hq.c8 ClL.nil))))))))))⟩,(fun x hx=>absurd hx (by simp))⟩),he67▸hP,_,(.refl _),(.ag (CnL.cons (.v _) (CnL.cons (.v _) (CnL.cons (.v _) (CnL.cons (.v _) (CnL.cons (Expr.cnr _) (CnL.cons (.v _) CnL.nil))))))),hK⟩
noncomputable def B_syntax_reader_expr (f0:qa→Option qd)(f1:qa→ByteArray→Option (Bool×qa))(f2:qa→ByteArray→Option Bool)(f3:qa→ByteArray→Option (Unit×qa))(f4:qa→Int→Int→Option (Int×qa))(f5:qa→Option (Expr×qa))(f6:qa→Expr→Option (Expr×qa))(f7:qa→Option (Expr×qa))(a0:qa):Option (Expr×qa):=
 (f0 a0).bind fun y1=>
 (if(!decide (a0.e=(0:Int)))then
  some (.inl ((Expr.mk (0:Int) (⟨#[]⟩:ByteArray) (0:Int) (0:Int) ([]) (0:Int)),a0))
 else
  (f1 a0 (⟨#[116,97,105,108]⟩:ByteArray)).bind fun y10=>
  if y10.1 then
   (f5 y10.2).bind fun y13=>
   (f6 y13.2 (Expr.mk (7:Int) (⟨#[]⟩:ByteArray) (0:Int) (0:Int) ([y13.1]) y1.at_)).bind fun y15=>
   some (.inl (y15.1,y15.2))
  else
   (if(!decide (y1.kind=(2:Int)))then
    (f2 y10.2 (⟨#[45]⟩:ByteArray)).bind fun y19=>
    some (!y19)
   else
    some false).bind fun w21=>
   if((!decide (y1.kind=(2:Int)))&&w21)then
    (f7 y10.2).bind fun y25=>
    some (.inl (y25.1,y25.2))
   else
    some (.inr (y10.2,(Expr.mk (0:Int) (⟨#[]⟩:ByteArray) (0:Int) (0:Int) ([]) (0:Int)))):Option ((Expr×qa)⊕(qa×Expr))).bind fun x=>match x with
 | .inl r=>some r
 | .inr (v5, v6) =>
  (f1 v5 (⟨#[45]⟩:ByteArray)).bind fun y29=>
  (if y29.1 then
   some (-1:Int)
  else
   some (1:Int):Option Int).bind fun v33=>
  (f4 y29.2 (0:Int) (4611686018427387904:Int)).bind fun y35=>
  (f1 y35.2 (⟨#[58,58]⟩:ByteArray)).bind fun y37=>
  (if y37.1 then
   some (y37.2,(Expr.mk (8:Int) (⟨#[]⟩:ByteArray) (IntKind.i64.wrap (v33*y35.1)) (0:Int) ([]) y1.at_))
  else
   (f3 y37.2 (⟨#[102,98,121]⟩:ByteArray)).bind fun y44=>
   some (y44.2,(Expr.mk (6:Int) (⟨#[]⟩:ByteArray) (IntKind.i64.wrap (v33*y35.1)) (0:Int) ([]) y1.at_)):Option (qa×Expr)).bind fun(v41,v42)=>
  (f5 v41).bind fun y46=>
  (f6 y46.2 (Expr.mk v42.kind v42.name v42.n v42.d ([y46.1]) v42.at_)).bind fun y48=>
  some (y48.1,y48.2)
abbrev C121_0 (z0 z1:Store)(z2:Nat):Prop:=Bx z0 z1 z2 39 [(.v (.int .i64 (0:Int))),(.v (.string (⟨#[]⟩:ByteArray))),(.v (.int .i64 (0:Int))),(.v (.int .i64 (0:Int))),.e0,(.v (.int .i64 (0:Int)))]
abbrev C121_1 (z0 z1:Store)(z2:Nat)(z3:Int)(z4:(Int×qa))(z5:qd):Prop:=Bx z0 z1 z2 39 [(.v (.int .i64 (6:Int))),(.v (.string (⟨#[]⟩:ByteArray))),(.v (.int .i64 (IntKind.i64.wrap (z3*z4.1)))),(.v (.int .i64 (0:Int))),.e0,(.v (.int .i64 z5.at_))]
theorem W_syntax_reader_expr (f0 f1 f2 f3 f4 f5 f6 f7)(S0:Sat_syntax_reader_now f0)(S1:Sat_syntax_reader_can f1)(S2:Sat_syntax_reader_is f2)(S3:Sat_syntax_reader_must f3)(S4:Sat_syntax_reader_number f4)(S5:Sat_syntax_reader_expr f5)(S6:Sat_syntax_reader_made f6)(S7:Sat_syntax_reader_post f7):Sat_syntax_reader_expr (B_syntax_reader_expr f0 f1 f2 f3 f4 f5 f6 f7):=by
 intro a0 r h σ K j0 q H0 hq hK;refine Qw (Q:=fun r s=>∃l:List (Nat×AObj),(l.map (·.1)).Nodup∧(∀x∈l,x.1<σ.length∧ClO σ.length x.2)∧Pq σ l K r s) Try.func121 rfl rfl (by kernel_rfl) (fun _ _ h=>h) ?_;unfold B_syntax_reader_expr at h;have hP:=Pre.refl σ;have jl0:=H0.lt;have hF:=Fr.refl σ [j0];have E0:qu [(.pt j0 0)] 0=(.pt j0 0):=rfl;have TT:=cj15 Expr.cle Expr.rlen T_153 T_155 T_2 T_27 T_3 T_30 T_37 T_39 T_81 T_85 T_9 qd.cle qa.cle;refine qh (fun e s=>∃i2:Nat,∃τ:Store,Gx s j0 (AObj.box 155 (qa.cl q a0))∧C121_0 σ s i2∧eP e 0 j0∧eP e 2 i2∧j0≠i2∧Fr σ τ [j0]∧Pre τ s) ?_ ?_
 ·refine w_x (cj2 H0.g3 TT) ?_;exact qf ⟨σ.length,σ,(H0.app [some (AObj.box 39 [(.v (.int .i64 (0:Int))),(.v (.string (⟨#[]⟩:ByteArray))),(.v (.int .i64 (0:Int))),(.v (.int .i64 (0:Int))),.e0,(.v (.int .i64 (0:Int)))])]),(Bx.newf hF hP 39 [(.v (.int .i64 (0:Int))),(.v (.string (⟨#[]⟩:ByteArray))),(.v (.int .i64 (0:Int))),(.v (.int .i64 (0:Int))),.e0,(.v (.int .i64 (0:Int)))]),E0,(xv (cj2 H0.g3 TT)),(Nat.ne_of_lt H0.lt),hF,(hP.app _)⟩
 rintro e s ⟨i2,τ,X0,X2,E0,E2,N0__2,hF,hP⟩
 obtain⟨y1,h2,h⟩:=qb h;refine qh (fun e s=>∃i3:Nat,∃τ:Store,Gx s j0 (AObj.box 155 (qa.cl q a0))∧C121_0 σ s i2∧Bx σ s i3 85 (qd.cl y1)∧eP e 0 j0∧eP e 2 i2∧eP e 3 i3∧j0≠i2∧j0≠i3∧i2≠i3∧Fr σ τ [j0]∧Pre τ s) ?_ ?_
 ·have q1:=cj3 E0 X0.g3 TT;refine w_x q1 ?_;refine S0 _ _ h2 _ _ _ q X0 (hq.le (Fr.gle hF hP)) ?_;refine w_y q1 ?_;exact qf ⟨s.length,τ,(X0.app _),(X2.app _),(Bx.newf hF hP 85 (qd.cl y1)),E0,E2,(xv q1),N0__2,(Nat.ne_of_lt X0.lt),(Nat.ne_of_lt X2.lt),hF,(hP.app _)⟩
 rintro e s ⟨i3,τ,X0,X2,X3,E0,E2,E3,N0__2,N0__3,N2__3,hF,hP⟩
 obtain⟨x3,h4,h⟩:=qb h;refine qh (fun e s=>∃v5:qa,∃v6:Expr,∃τ:Store,.inr (v5,v6)=x3∧Gx s j0 (AObj.box 155 (qa.cl q v5))∧Bx σ s i2 39 (Expr.cl v6)∧Bx σ s i3 85 (qd.cl y1)∧eP e 0 j0∧eP e 2 i2∧eP e 3 i3∧j0≠i2∧j0≠i3∧i2≠i3∧Fr σ τ [j0]∧Pre τ s) ?_ ?_
 ·refine qn (qe (w_x (cj3 E0 X0.get TT) ?_));refine qg ?_;rcases qj h4 with⟨hb7,h4⟩|⟨hb7,h4⟩
  ·refine xt hb7 (qh (fun e s=>∃τ:Store,Gx s j0 (AObj.box 155 (qa.cl q a0))∧C121_0 σ s i2∧eP e 2 i2∧j0≠i2∧Fr σ τ [j0]∧Pre τ s) ?_ ?_)
   ·refine w_x (cj4 E2 X2.get X2.samea TT) ?_;exact qf ⟨τ,(X0.ne (Ne.symm N0__2) _),(X2.same _ _),E2,N0__2,hF,(hP.set (hF.ge X2.le) (some (AObj.box 39 [(.v (.int .i64 (0:Int))),(.v (.string (⟨#[]⟩:ByteArray))),(.v (.int .i64 (0:Int))),(.v (.int .i64 (0:Int))),.e0,(.v (.int .i64 (0:Int)))])))⟩
   rintro e s ⟨τ,X0,X2,E2,N0__2,hF,hP⟩
   refine qo (qx ?_);obtain rfl:=qc h4;refine qO ?_;(try dsimp only at h);obtain rfl:=qc h;have hn8:(List.map (·.1) ([(j0,(AObj.box 155 (qa.cl q a0)))]:List (Nat×AObj))).Nodup:=(List.nodup_cons.2 ⟨(fun h=>by simp at h),List.nodup_nil⟩);have he9:=Fr.eq hF hn8 (List.forall_mem_cons.2 ⟨⟨jl0,(Gx.back X0 hP (hF.lt jl0))⟩,(fun x hx=>absurd hx (by simp))⟩);exact qU (fun _=>rfl) (xr (rs:= #[.cell 2 39]) (cj3 X2.get E2 TT)) ⟨_,hn8,(List.forall_mem_cons.2 ⟨⟨jl0,(ClO.bx (ClL.cons (Cn.cl (Cn.rows qd.cn _) _) (ClL.cons (Cn.cl (.v _) _) (ClL.cons (Cn.cl (.v _) _) (ClL.cons (Cn.cl (.v _) _) (ClL.cons (Cn.cl (.v _) _) (ClL.cons hq.c5 (ClL.cons hq.c6 (ClL.cons hq.c7 (ClL.cons hq.c8 ClL.nil))))))))))⟩,(fun x hx=>absurd hx (by simp))⟩),he9▸hP,_,(Wk.agl (.cons (.refl _) (.cons (.refl _) (.cons (.refl _) (.cons (.refl _) (.cons .e0 (.cons (.refl _) .nil))))))),(.ag (CnL.cons (.v _) (CnL.cons (.v _) (CnL.cons (.v _) (CnL.cons (.v _) (CnL.cons Cn.sl0 (CnL.cons (.v _) CnL.nil))))))),hK⟩
  ·refine xf hb7 ?_;obtain⟨y10,h11,h4⟩:=qb h4;refine qh (fun e s=>∃τ:Store,Gx s j0 (AObj.box 155 (qa.cl q y10.2))∧C121_0 σ s i2∧Bx σ s i3 85 (qd.cl y1)∧eP e 0 j0∧eP e 2 i2∧eP e 3 i3∧eB e 15 y10.1∧j0≠i2∧j0≠i3∧i2≠i3∧Fr σ τ [j0]∧Pre τ s) ?_ ?_
   ·have q2:=Gx.same X0 (AObj.box 155 (qa.cl q y10.2));have q3:=cj4 E0 X0.get q2.get TT;refine w_x q3 ?_;refine S1 _ _ _ h11 _ _ _ q X0 (hq.le (Fr.gle hF hP)) ?_;refine w_y q3 ?_;exact qf ⟨(List.set τ j0 (some (AObj.box 155 (qa.cl q y10.2)))),q2,(X2.ne N0__2 _),(X3.ne N0__3 _),E0,E2,E3,(xv q3),N0__2,N0__3,N2__3,(hF.set (by simp) (some (AObj.box 155 (qa.cl q y10.2)))),(hP.setp (hF.lt jl0) (some (AObj.box 155 (qa.cl q y10.2))))⟩
   rintro e s ⟨τ,X0,X2,X3,E0,E2,E3,E15,N0__2,N0__3,N2__3,hF,hP⟩
   rcases qj h4 with⟨hb12,h4⟩|⟨hb12,h4⟩
   ·refine xt (cj2 E15 hb12) ?_;obtain⟨y13,h14,h4⟩:=qb h4;obtain⟨y15,h16,h4⟩:=qb h4;refine qh (fun e s=>∃τ:Store,Gx s j0 (AObj.box 155 (qa.cl q y15.2))∧Bx σ s i2 39 (Expr.cl y15.1)∧eP e 2 i2∧j0≠i2∧Fr σ τ [j0]∧Pre τ s) ?_ ?_
    ·have q4:=hget X2.get N0__2;have q5:=hget X3.get N0__3;have q6:=Gx.same X0 (AObj.box 155 (qa.cl q y13.2));have q7:=Gx.same q6 (AObj.box 155 (qa.cl q y15.2));have q8:=X3.ne N0__3 (some (AObj.box 155 (qa.cl q y13.2)));have q9:=X2.ne N0__2 (some (AObj.box 155 (qa.cl q y13.2)));have q10:=cj18 E0 E2 E3 q4 q5 X0.get X2.get X3.get q6.get q9.get q8.get q7.get (q9.ne N0__2 (some (AObj.box 155 (qa.cl q y15.2)))).get (q8.ne N0__3 (some (AObj.box 155 (qa.cl q y15.2)))).get (q7.ne (Ne.symm N0__2) (some (AObj.box 39 (Expr.cl y15.1)))).get ((q9.ne N0__2 (some (AObj.box 155 (qa.cl q y15.2)))).same 39 (Expr.cl y15.1)).get ((q8.ne N0__3 (some (AObj.box 155 (qa.cl q y15.2)))).ne N2__3 (some (AObj.box 39 (Expr.cl y15.1)))).get TT;refine Jn j0 7 0 q10 ?_;refine S5 _ _ h14 _ _ _ q X0 (hq.le (Fr.gle hF hP)) ?_;refine QD q10 ?_;refine Qn q10 ?_;refine EC.wka (.cons (.refl _) (.cons (Wk.agl (.cons (.refl _) (.cons (.refl _) (.cons (.refl _) (.cons (.refl _) (.cons (Wk.of_eq (by rw[Expr.rows_eq ([y13.1])];rfl)) (.cons (.refl _) .nil))))))) .nil)) (S6 _ _ _ h16 _ _ _ q q6 (hq.le (Fr.gle (hF.set (by simp) (some (AObj.box 155 (qa.cl q y13.2)))) (hP.setp (hF.lt jl0) (some (AObj.box 155 (qa.cl q y13.2)))))) ?_);refine w_y q10 ?_;exact qf ⟨(List.set (List.set τ j0 (some (AObj.box 155 (qa.cl q y13.2)))) j0 (some (AObj.box 155 (qa.cl q y15.2)))),(q7.ne (Ne.symm N0__2) _),((q9.ne N0__2 _).same _ _),E2,N0__2,((hF.set (by simp) (some (AObj.box 155 (qa.cl q y13.2)))).set (by simp) (some (AObj.box 155 (qa.cl q y15.2)))),(((hP.setp (hF.lt jl0) (some (AObj.box 155 (qa.cl q y13.2)))).setp ((hF.set (by simp) (some (AObj.box 155 (qa.cl q y13.2)))).lt jl0) (some (AObj.box 155 (qa.cl q y15.2)))).set (((hF.set (by simp) (some (AObj.box 155 (qa.cl q y13.2)))).set (by simp) (some (AObj.box 155 (qa.cl q y15.2)))).ge q9.le) (some (AObj.box 39 (Expr.cl y15.1))))⟩
    rintro e s ⟨τ,X0,X2,E2,N0__2,hF,hP⟩
    refine qo (qx ?_);obtain rfl:=qc h4;refine qO ?_;(try dsimp only at h);obtain rfl:=qc h;have hn17:(List.map (·.1) ([(j0,(AObj.box 155 (qa.cl q y15.2)))]:List (Nat×AObj))).Nodup:=(List.nodup_cons.2 ⟨(fun h=>by simp at h),List.nodup_nil⟩);have he18:=Fr.eq hF hn17 (List.forall_mem_cons.2 ⟨⟨jl0,(Gx.back X0 hP (hF.lt jl0))⟩,(fun x hx=>absurd hx (by simp))⟩);exact qU (fun _=>rfl) (xr (rs:= #[.cell 2 39]) (cj3 X2.get E2 TT)) ⟨_,hn17,(List.forall_mem_cons.2 ⟨⟨jl0,(ClO.bx (ClL.cons (Cn.cl (Cn.rows qd.cn _) _) (ClL.cons (Cn.cl (.v _) _) (ClL.cons (Cn.cl (.v _) _) (ClL.cons (Cn.cl (.v _) _) (ClL.cons (Cn.cl (.v _) _) (ClL.cons hq.c5 (ClL.cons hq.c6 (ClL.cons hq.c7 (ClL.cons hq.c8 ClL.nil))))))))))⟩,(fun x hx=>absurd hx (by simp))⟩),he18▸hP,_,(.refl _),(.ag (CnL.cons (.v _) (CnL.cons (.v _) (CnL.cons (.v _) (CnL.cons (.v _) (CnL.cons (Expr.cnr _) (CnL.cons (.v _) CnL.nil))))))),hK⟩
   ·refine xf (cj2 E15 hb12) ?_;obtain⟨w21,h22,h4⟩:=qb h4;refine qh (fun e s=>∃τ:Store,Gx s j0 (AObj.box 155 (qa.cl q y10.2))∧C121_0 σ s i2∧Bx σ s i3 85 (qd.cl y1)∧eP e 0 j0∧eP e 2 i2∧eP e 3 i3∧eB e 26 ((!decide (y1.kind=(2:Int)))&&w21)∧j0≠i2∧j0≠i3∧i2≠i3∧Fr σ τ [j0]∧Pre τ s) ?_ ?_
    ·cases hb23:(!decide (y1.kind=(2:Int)))
     ·replace h22:=zx (by simp only[hb23,Bool.or_true,Bool.true_or,Bool.or_false,Bool.false_or,Bool.and_true,Bool.true_and,Bool.and_false,Bool.false_and,Bool.not_true,Bool.not_false,cond_true,cond_false]) h22;obtain rfl:=qc h22;have q11:=cj6 E0 E3 X0.get X3.get hb23 TT;refine w_x q11 ?_;exact qf ⟨τ,X0,X2,X3,E0,E2,E3,(xv q11),N0__2,N0__3,N2__3,hF,hP⟩
     ·replace h22:=qI (by simp only[hb23,Bool.or_true,Bool.true_or,Bool.or_false,Bool.false_or,Bool.and_true,Bool.true_and,Bool.and_false,Bool.false_and,Bool.not_true,Bool.not_false,cond_true,cond_false]) h22;obtain⟨y19,h20,h22⟩:=qb h22;obtain rfl:=qc h22;have q12:=cj6 E0 E3 X0.get X3.get hb23 TT;refine w_x q12 ?_;refine S2 _ _ _ h20 _ _ _ q X0 (hq.le (Fr.gle hF hP)) ?_;refine w_y q12 ?_;exact qf ⟨τ,X0,X2,X3,E0,E2,E3,(xv q12),N0__2,N0__3,N2__3,hF,hP⟩
    rintro e s ⟨τ,X0,X2,X3,E0,E2,E3,E26,N0__2,N0__3,N2__3,hF,hP⟩
    rcases qj h4 with⟨hb24,h4⟩|⟨hb24,h4⟩
    ·refine xt (cj2 E26 hb24) ?_;obtain⟨y25,h26,h4⟩:=qb h4;refine qh (fun e s=>∃τ:Store,Gx s j0 (AObj.box 155 (qa.cl q y25.2))∧Bx σ s i2 39 (Expr.cl y25.1)∧eP e 2 i2∧j0≠i2∧Fr σ τ [j0]∧Pre τ s) ?_ ?_
     ·have q13:=Gx.same X0 (AObj.box 155 (qa.cl q y25.2));have q14:=X2.ne N0__2 (some (AObj.box 155 (qa.cl q y25.2)));have q15:=cj9 E0 E2 X0.get X2.get q13.get q14.get (q13.ne (Ne.symm N0__2) (some (AObj.box 39 (Expr.cl y25.1)))).get (q14.same 39 (Expr.cl y25.1)).get TT;refine w_x q15 ?_;refine S7 _ _ h26 _ _ _ q X0 (hq.le (Fr.gle hF hP)) ?_;refine w_y q15 ?_;exact qf ⟨(List.set τ j0 (some (AObj.box 155 (qa.cl q y25.2)))),(q13.ne (Ne.symm N0__2) _),(q14.same _ _),E2,N0__2,(hF.set (by simp) (some (AObj.box 155 (qa.cl q y25.2)))),((hP.setp (hF.lt jl0) (some (AObj.box 155 (qa.cl q y25.2)))).set ((hF.set (by simp) (some (AObj.box 155 (qa.cl q y25.2)))).ge q14.le) (some (AObj.box 39 (Expr.cl y25.1))))⟩
     rintro e s ⟨τ,X0,X2,E2,N0__2,hF,hP⟩
     refine qo (qx ?_);obtain rfl:=qc h4;refine qO ?_;(try dsimp only at h);obtain rfl:=qc h;have hn27:(List.map (·.1) ([(j0,(AObj.box 155 (qa.cl q y25.2)))]:List (Nat×AObj))).Nodup:=(List.nodup_cons.2 ⟨(fun h=>by simp at h),List.nodup_nil⟩);have he28:=Fr.eq hF hn27 (List.forall_mem_cons.2 ⟨⟨jl0,(Gx.back X0 hP (hF.lt jl0))⟩,(fun x hx=>absurd hx (by simp))⟩);exact qU (fun _=>rfl) (xr (rs:= #[.cell 2 39]) (cj3 X2.get E2 TT)) ⟨_,hn27,(List.forall_mem_cons.2 ⟨⟨jl0,(ClO.bx (ClL.cons (Cn.cl (Cn.rows qd.cn _) _) (ClL.cons (Cn.cl (.v _) _) (ClL.cons (Cn.cl (.v _) _) (ClL.cons (Cn.cl (.v _) _) (ClL.cons (Cn.cl (.v _) _) (ClL.cons hq.c5 (ClL.cons hq.c6 (ClL.cons hq.c7 (ClL.cons hq.c8 ClL.nil))))))))))⟩,(fun x hx=>absurd hx (by simp))⟩),he28▸hP,_,(.refl _),(.ag (CnL.cons (.v _) (CnL.cons (.v _) (CnL.cons (.v _) (CnL.cons (.v _) (CnL.cons (Expr.cnr _) (CnL.cons (.v _) CnL.nil))))))),hK⟩
    ·refine xf (cj2 E26 hb24) (qm (zc ?_));obtain rfl:=qc h4;exact cw_g ((Gh.refl _ _).tr (Gh.box (c':=[(.v (.int .i64 (0:Int))),(.v (.string (⟨#[]⟩:ByteArray))),(.v (.int .i64 (0:Int))),(.v (.int .i64 (0:Int))),(.sl []),(.v (.int .i64 (0:Int)))]) X2.get (.cons (.refl _) (.cons (.refl _) (.cons (.refl _) (.cons (.refl _) (.cons .e0 (.cons (.refl _) .nil)))))))) ⟨_,_,τ,rfl,(X0.ne (Ne.symm N0__2) _),(X2.same _ _),(X3.ne N2__3 _),E0,E2,E3,N0__2,N0__3,N2__3,hF,(hP.set (hF.ge X2.le) _)⟩
 rintro e s ⟨v5,v6,τ,rfl,X0,X2,X3,E0,E2,E3,N0__2,N0__3,N2__3,hF,hP⟩
 (try dsimp only at h);refine qe (w_x Expr.rlen ?_);refine qg (qk ?_);obtain⟨y29,h30,h⟩:=qb h;refine qh (fun e s=>∃τ:Store,Gx s j0 (AObj.box 155 (qa.cl q y29.2))∧Bx σ s i2 39 (Expr.cl v6)∧Bx σ s i3 85 (qd.cl y1)∧eP e 0 j0∧eP e 2 i2∧eP e 3 i3∧eI e 4 (1:Int)∧eB e 38 y29.1∧j0≠i2∧j0≠i3∧i2≠i3∧Fr σ τ [j0]∧Pre τ s) ?_ ?_
 ·have q16:=Gx.same X0 (AObj.box 155 (qa.cl q y29.2));have q17:=cj4 E0 X0.get q16.get TT;refine w_x q17 ?_;refine S1 _ _ _ h30 _ _ _ q X0 (hq.le (Fr.gle hF hP)) ?_;refine w_y q17 ?_;exact qf ⟨(List.set τ j0 (some (AObj.box 155 (qa.cl q y29.2)))),q16,(X2.ne N0__2 _),(X3.ne N0__3 _),E0,E2,E3,(xv q17),(xv q17),N0__2,N0__3,N2__3,(hF.set (by simp) (some (AObj.box 155 (qa.cl q y29.2)))),(hP.setp (hF.lt jl0) (some (AObj.box 155 (qa.cl q y29.2))))⟩
 rintro e s ⟨τ,X0,X2,X3,E0,E2,E3,E4,E38,N0__2,N0__3,N2__3,hF,hP⟩
 obtain⟨x31,h32,h⟩:=qb h;refine qh (fun e s=>∃v33,∃τ:Store,v33=x31∧Gx s j0 (AObj.box 155 (qa.cl q y29.2))∧Bx σ s i2 39 (Expr.cl v6)∧Bx σ s i3 85 (qd.cl y1)∧eP e 0 j0∧eP e 2 i2∧eP e 3 i3∧eI e 4 v33∧j0≠i2∧j0≠i3∧i2≠i3∧Fr σ τ [j0]∧Pre τ s) ?_ ?_
 ·rcases qj h32 with⟨hb34,h32⟩|⟨hb34,h32⟩
  ·refine xt (cj2 E38 hb34) (w_x Expr.rlen ?_);obtain rfl:=qc h32;exact qf ⟨_,τ,rfl,X0,X2,X3,E0,E2,E3,(xv Expr.rlen),N0__2,N0__3,N2__3,hF,hP⟩
  ·refine xf (cj2 E38 hb34) (qm ?_);obtain rfl:=qc h32;exact qf ⟨_,τ,rfl,X0,X2,X3,E0,E2,E3,E4,N0__2,N0__3,N2__3,hF,hP⟩
 rintro e s ⟨v33,τ,rfl,X0,X2,X3,E0,E2,E3,E4,N0__2,N0__3,N2__3,hF,hP⟩
 (try dsimp only at h);obtain⟨y35,h36,h⟩:=qb h;refine qh (fun e s=>∃i5:Nat,∃τ:Store,Gx s j0 (AObj.box 155 (qa.cl q y35.2))∧Bx σ s i2 39 (Expr.cl v6)∧C121_1 σ s i5 v33 y35 y1∧eP e 0 j0∧eP e 2 i2∧eP e 5 i5∧j0≠i2∧j0≠i5∧i2≠i5∧Fr σ τ [j0]∧Pre τ s) ?_ ?_
 ·have q18:=hget X3.get N0__3;have q19:=Gx.same X0 (AObj.box 155 (qa.cl q y35.2));have q20:=X3.ne N0__3 (some (AObj.box 155 (qa.cl q y35.2)));have q21:=Bx.atfh (hF.set (by simp) (some (AObj.box 155 (qa.cl q y35.2)))) (hP.setp (hF.lt jl0) (some (AObj.box 155 (qa.cl q y35.2)))) (n:=s.length) (by simp only[List.length_set]) (l:=[some (AObj.box 39 [(.v (.int .i64 (6:Int))),(.v (.string (⟨#[]⟩:ByteArray))),(.v (.int .i64 (IntKind.i64.wrap (v33*y35.1)))),(.v (.int .i64 (0:Int))),.e0,(.v (.int .i64 y1.at_))])]) (j:=0) (t:=39) (c:=[(.v (.int .i64 (6:Int))),(.v (.string (⟨#[]⟩:ByteArray))),(.v (.int .i64 (IntKind.i64.wrap (v33*y35.1)))),(.v (.int .i64 (0:Int))),.e0,(.v (.int .i64 y1.at_))]) rfl;have q22:=cj17 E0 E3 E4 q18 (hsap X0.lt) set_app0h set_app1h get_app0h get_app1h X0.g3 X3.g3 q19.get q20.get (q19.app [some (AObj.box 39 [(.v (.int .i64 (6:Int))),(.v (.string (⟨#[]⟩:ByteArray))),(.v (.int .i64 (IntKind.i64.wrap (v33*y35.1)))),(.v (.int .i64 (0:Int))),.e0,(.v (.int .i64 y1.at_))])]).get (q20.app [some (AObj.box 39 [(.v (.int .i64 (6:Int))),(.v (.string (⟨#[]⟩:ByteArray))),(.v (.int .i64 (IntKind.i64.wrap (v33*y35.1)))),(.v (.int .i64 (0:Int))),.e0,(.v (.int .i64 y1.at_))])]).get q21.get TT;refine Jn j0 9 1 q22 ?_;refine S4 _ _ _ _ h36 _ _ _ q (X0.app _) (hq.le (Nat.le_trans (Fr.gle hF hP) (by simp))) ?_;refine QD q22 ?_ (hs:=by first|exact sub_hid3 X0.lt _|exact of_eq_true (qqL _ _ _));refine Qn q22 ?_;exact qf ⟨(s.length),(List.set τ j0 (some (AObj.box 155 (qa.cl q y35.2)))),(q19.app _),((X2.ne N0__2 _).app _),q21,E0,E2,(xv q22),N0__2,(Nat.ne_of_lt X0.lt),(Nat.ne_of_lt X2.lt),(hF.set (by simp) (some (AObj.box 155 (qa.cl q y35.2)))),((hP.setp (hF.lt jl0) (some (AObj.box 155 (qa.cl q y35.2)))).app _)⟩
 rintro e s ⟨i5,τ,X0,X2,X5,E0,E2,E5,N0__2,N0__5,N2__5,hF,hP⟩
 refine qk ?_;obtain⟨y37,h38,h⟩:=qb h;refine qh (fun e s=>∃τ:Store,Gx s j0 (AObj.box 155 (qa.cl q y37.2))∧Bx σ s i2 39 (Expr.cl v6)∧C121_1 σ s i5 v33 y35 y1∧eP e 0 j0∧eP e 2 i2∧eP e 5 i5∧eB e 47 y37.1∧j0≠i2∧j0≠i5∧i2≠i5∧Fr σ τ [j0]∧Pre τ s) ?_ ?_
 ·have q23:=Gx.same X0 (AObj.box 155 (qa.cl q y37.2));have q24:=cj4 E0 X0.get q23.get TT;refine w_x q24 ?_;refine S1 _ _ _ h38 _ _ _ q X0 (hq.le (Fr.gle hF hP)) ?_;refine w_y q24 ?_;exact qf ⟨(List.set τ j0 (some (AObj.box 155 (qa.cl q y37.2)))),q23,(X2.ne N0__2 _),(X5.ne N0__5 _),E0,E2,E5,(xv q24),N0__2,N0__5,N2__5,(hF.set (by simp) (some (AObj.box 155 (qa.cl q y37.2)))),(hP.setp (hF.lt jl0) (some (AObj.box 155 (qa.cl q y37.2))))⟩
 rintro e s ⟨τ,X0,X2,X5,E0,E2,E5,E47,N0__2,N0__5,N2__5,hF,hP⟩
 obtain⟨x39,h40,h⟩:=qb h;refine qh (fun e s=>∃v41 v42,∃τ:Store,(v41,v42)=x39∧Gx s j0 (AObj.box 155 (qa.cl q v41))∧Bx σ s i2 39 (Expr.cl v6)∧Bx σ s i5 39 (Expr.cl v42)∧eP e 0 j0∧eP e 2 i2∧eP e 5 i5∧j0≠i2∧j0≠i5∧i2≠i5∧Fr σ τ [j0]∧Pre τ s) ?_ ?_
 ·rcases qj h40 with⟨hb43,h40⟩|⟨hb43,h40⟩
  ·refine xt (cj2 E47 hb43) (w_x (cj4 E5 X5.get X5.samea TT) ?_);obtain rfl:=qc h40;exact cw_g ((Gh.refl _ _).tr (Gh.box (c':=[(.v (.int .i64 (8:Int))),(.v (.string (⟨#[]⟩:ByteArray))),(.v (.int .i64 (IntKind.i64.wrap (v33*y35.1)))),(.v (.int .i64 (0:Int))),(.sl []),(.v (.int .i64 y1.at_))]) (X5.same _ _).get (.cons (.refl _) (.cons (.refl _) (.cons (.refl _) (.cons (.refl _) (.cons .e0 (.cons (.refl _) .nil)))))))) ⟨_,_,τ,rfl,((X0.ne (Ne.symm N0__5) _).ne (Ne.symm N0__5) _),((X2.ne (Ne.symm N2__5) _).ne (Ne.symm N2__5) _),((X5.same _ _).same _ _),E0,E2,E5,N0__2,N0__5,N2__5,hF,((hP.set (hF.ge X5.le) _).set (hF.ge X5.le) _)⟩
  ·refine xf (cj2 E47 hb43) ?_;obtain⟨y44,h45,h40⟩:=qb h40;refine w_x (cj4 E0 X0.get X0.samea TT) ?_;refine S3 _ _ _ h45 _ _ _ q X0 (hq.le (Fr.gle hF hP)) ?_;refine w_y (cj4 E0 X0.get X0.samea TT) ?_;obtain rfl:=qc h40;exact cw_g ((Gh.refl _ _).tr (Gh.box (c':=[(.v (.int .i64 (6:Int))),(.v (.string (⟨#[]⟩:ByteArray))),(.v (.int .i64 (IntKind.i64.wrap (v33*y35.1)))),(.v (.int .i64 (0:Int))),(.sl []),(.v (.int .i64 y1.at_))]) (X5.ne N0__5 _).get (.cons (.refl _) (.cons (.refl _) (.cons (.refl _) (.cons (.refl _) (.cons .e0 (.cons (.refl _) .nil)))))))) ⟨_,_,(List.set τ j0 (some (AObj.box 155 (qa.cl q y44.2)))),rfl,((Gx.same X0 _).ne (Ne.symm N0__5) _),((X2.ne N0__2 _).ne (Ne.symm N2__5) _),((X5.ne N0__5 _).same _ _),E0,E2,E5,N0__2,N0__5,N2__5,(hF.set (by simp) (some (AObj.box 155 (qa.cl q y44.2)))),((hP.setp (hF.lt jl0) (some (AObj.box 155 (qa.cl q y44.2)))).set ((hF.set (by simp) (some (AObj.box 155 (qa.cl q y44.2)))).ge X5.le) _)⟩
 rintro e s ⟨v41,v42,τ,rfl,X0,X2,X5,E0,E2,E5,N0__2,N0__5,N2__5,hF,hP⟩
 (try dsimp only at h);obtain⟨y46,h47,h⟩:=qb h;refine qh (fun e s=>∃τ:Store,Gx s j0 (AObj.box 155 (qa.cl q y46.2))∧Bx σ s i2 39 (Expr.cl v6)∧Bx σ s i5 39 [(.v (.int .i64 v42.kind)),(.v (.string v42.name)),(.v (.int .i64 v42.n)),(.v (.int .i64 v42.d)),(.sl [(Expr.cl y46.1)]),(.v (.int .i64 v42.at_))]∧eP e 0 j0∧eP e 2 i2∧eP e 5 i5∧j0≠i2∧j0≠i5∧i2≠i5∧Fr σ τ [j0]∧Pre τ s) ?_ ?_
 ·have q25:=Gx.same X0 (AObj.box 155 (qa.cl q y46.2));have q26:=X5.ne N0__5 (some (AObj.box 155 (qa.cl q y46.2)));have q27:=cj9 E0 E5 X0.get X5.get q25.get q26.get (q25.ne (Ne.symm N0__5) (some (AObj.box 39 [(.v (.int .i64 v42.kind)),(.v (.string v42.name)),(.v (.int .i64 v42.n)),(.v (.int .i64 v42.d)),(.sl [(Expr.cl y46.1)]),(.v (.int .i64 v42.at_))]))).get (q26.same 39 [(.v (.int .i64 v42.kind)),(.v (.string v42.name)),(.v (.int .i64 v42.n)),(.v (.int .i64 v42.d)),(.sl [(Expr.cl y46.1)]),(.v (.int .i64 v42.at_))]).get TT;refine w_x q27 ?_;refine S5 _ _ h47 _ _ _ q X0 (hq.le (Fr.gle hF hP)) ?_;refine w_y q27 ?_;exact qf ⟨(List.set τ j0 (some (AObj.box 155 (qa.cl q y46.2)))),(q25.ne (Ne.symm N0__5) _),((X2.ne N0__2 _).ne (Ne.symm N2__5) _),(q26.same _ _),E0,E2,E5,N0__2,N0__5,N2__5,(hF.set (by simp) (some (AObj.box 155 (qa.cl q y46.2)))),((hP.setp (hF.lt jl0) (some (AObj.box 155 (qa.cl q y46.2)))).set ((hF.set (by simp) (some (AObj.box 155 (qa.cl q y46.2)))).ge q26.le) (some (AObj.box 39 [(.v (.int .i64 v42.kind)),(.v (.string v42.name)),(.v (.int .i64 v42.n)),(.v (.int .i64 v42.d)),(.sl [(Expr.cl y46.1)]),(.v (.int .i64 v42.at_))])))⟩
 rintro e s ⟨τ,X0,X2,X5,E0,E2,E5,N0__2,N0__5,N2__5,hF,hP⟩
 obtain⟨y48,h49,h⟩:=qb h;refine qh (fun e s=>∃τ:Store,Gx s j0 (AObj.box 155 (qa.cl q y48.2))∧Bx σ s i2 39 (Expr.cl y48.1)∧eP e 2 i2∧j0≠i2∧Fr σ τ [j0]∧Pre τ s) ?_ ?_
 ·have q28:=Gx.same X0 (AObj.box 155 (qa.cl q y48.2));have q29:=X5.ne N0__5 (some (AObj.box 155 (qa.cl q y48.2)));have q30:=X2.ne N0__2 (some (AObj.box 155 (qa.cl q y48.2)));have q31:=cj13 E0 E2 E5 X0.get X2.get X5.get q28.get q30.get q29.get (q28.ne (Ne.symm N0__2) (some (AObj.box 39 (Expr.cl y48.1)))).get (q30.same 39 (Expr.cl y48.1)).get (q29.ne N2__5 (some (AObj.box 39 (Expr.cl y48.1)))).get TT;refine w_x q31 ?_;refine EC.wka (.cons (.refl _) (.cons (Wk.agl (.cons (.refl _) (.cons (.refl _) (.cons (.refl _) (.cons (.refl _) (.cons (Wk.of_eq (by rw[Expr.rows_eq ([y46.1])];rfl)) (.cons (.refl _) .nil))))))) .nil)) (S6 _ _ _ h49 _ _ _ q X0 (hq.le (Fr.gle hF hP)) ?_);refine w_y q31 ?_;exact qf ⟨(List.set τ j0 (some (AObj.box 155 (qa.cl q y48.2)))),(q28.ne (Ne.symm N0__2) _),(q30.same _ _),E2,N0__2,(hF.set (by simp) (some (AObj.box 155 (qa.cl q y48.2)))),((hP.setp (hF.lt jl0) (some (AObj.box 155 (qa.cl q y48.2)))).set ((hF.set (by simp) (some (AObj.box 155 (qa.cl q y48.2)))).ge q30.le) (some (AObj.box 39 (Expr.cl y48.1))))⟩
 rintro e s ⟨τ,X0,X2,E2,N0__2,hF,hP⟩
 refine qo ?_;obtain rfl:=qc h;have hn50:(List.map (·.1) ([(j0,(AObj.box 155 (qa.cl q y48.2)))]:List (Nat×AObj))).Nodup:=(List.nodup_cons.2 ⟨(fun h=>by simp at h),List.nodup_nil⟩);have he51:=Fr.eq hF hn50 (List.forall_mem_cons.2 ⟨⟨jl0,(Gx.back X0 hP (hF.lt jl0))⟩,(fun x hx=>absurd hx (by simp))⟩);exact qU (fun _=>rfl) (xr (rs:= #[.cell 2 39]) (cj3 X2.get E2 TT)) ⟨_,hn50,(List.forall_mem_cons.2 ⟨⟨jl0,(ClO.bx (ClL.cons (Cn.cl (Cn.rows qd.cn _) _) (ClL.cons (Cn.cl (.v _) _) (ClL.cons (Cn.cl (.v _) _) (ClL.cons (Cn.cl (.v _) _) (ClL.cons (Cn.cl (.v _) _) (ClL.cons hq.c5 (ClL.cons hq.c6 (ClL.cons hq.c7 (ClL.cons hq.c8 ClL.nil))))))))))⟩,(fun x hx=>absurd hx (by simp))⟩),he51▸hP,_,(.refl _),(.ag (CnL.cons (.v _) (CnL.cons (.v _) (CnL.cons (.v _) (CnL.cons (.v _) (CnL.cons (Expr.cnr _) (CnL.cons (.v _) CnL.nil))))))),hK⟩
end Go.Proofs.Ytohmmfimedgccaa.E
end
section
namespace Go.Proofs.Ytohmmfimedgccaa.E
set_option linter.unusedVariables false
set_option linter.unusedSimpArgs false
abbrev W:=List (List UInt8)
def FE:W:=[[40],[42,94],[47,94],[126,62]]
def nof (l:W)(D:W):Prop:=∀s∈l,D.head?≠some s
def NmW (w:List UInt8):Prop:=kd w=1∧bs w∉qE
inductive G:Nat→W→Prop
 |tail {g:W}:G 0 g→G 0 ([116,97,105,108]::g)
 |num {n k:List UInt8} {g:W}:kd n=2→(k=[102,98,121]∨k=[58,58])→G 0 g→G 0 (n::k::g)
 |neg {n k:List UInt8} {g:W}:kd n=2→(k=[102,98,121]∨k=[58,58])→G 0 g→G 0 ([45]::n::k::g)
 |post {a o:W}:G 1 a→G 2 o→G 0 (a++o)
 |name {w:List UInt8}:NmW w→G 1 [w]
 |call {w:List UInt8} {g:W}:NmW w→G 3 g→G 1 (w::[40]::(g++[[41]]))
 |paren {g:W}:G 0 g→G 1 ([40]::(g++[[41]]))
 |nil:G 2 []
 |over {k n:List UInt8} {o:W}:(k=[42,94]∨k=[47,94])→kd n=2→G 2 o→G 2 (k::n::o)
 |shift {n d:List UInt8} {o:W}:kd n=2→kd d=2→G 2 o→G 2 ([126,62]::n::[47]::d::o)
 |one {g:W}:G 0 g→G 3 g
 |more {g l:W}:G 0 g→G 3 l→G 3 (g++[44]::l)
abbrev RE:=qa→Option (Expr×qa)
noncomputable def rc (E:RE):=B_syntax_reader_atom_c1 E
noncomputable def rl (E:RE):=B_syntax_reader_list_of_atom_c1 qZ zp zf zA (rc E)
noncomputable def rA (E:RE):=B_syntax_reader_atom zf QG zA E zJ (rl E)
noncomputable def rP (E:RE):=B_syntax_reader_post qZ zf zA Qi zJ (rA E)
noncomputable def rE:Nat→RE
 |0=>fun _=>none
 |k+1=>B_syntax_reader_expr qZ zf r_is zA Qi (rE k) zJ (rP (rE k))
variable {X:Cx} {r r':qa} {Q Q':W→Prop} {E:RE} {m:Nat}
theorem z_rc (h:Sat_syntax_reader_expr E):Sat_syntax_reader_atom_c1 (rc E):=W_syntax_reader_atom_c1 _ h
theorem z_rl (h:Sat_syntax_reader_expr E):Sat_syntax_reader_list_of_atom_c1 (rl E):=W_syntax_reader_list_of_atom_c1 _ _ _ _ _ ZX Ys JG Zr (z_rc h)
theorem z_rA (h:Sat_syntax_reader_expr E):Sat_syntax_reader_atom (rA E):=W_syntax_reader_atom _ _ _ _ _ _ JG Yq Zr h Yr (z_rl h)
theorem z_rP (h:Sat_syntax_reader_expr E):Sat_syntax_reader_post (rP E):=W_syntax_reader_post _ _ _ _ _ _ ZX JG Zr z_num Yr (z_rA h)
theorem z_rE:∀k,Sat_syntax_reader_expr (rE k)
 |0=>fun _ _ h=>by cases h
 |k+1=>W_syntax_reader_expr _ _ _ _ _ _ _ _ ZX JG z_is Zr z_num (z_rE k) Yr (z_rP (z_rE k))
def SpE (X:Cx)(m:Nat)(f:RE):Prop:=∀(r:qa) (Q Q':W→Prop),St X Q r→1≤m→(r.e=0→(X.l.length:Int)+1≤m+r.pos)→(∀D,Q D→∃g D',D=g++D'∧G 0 g∧nof FE D'∧Q' D')→
 ∃e r',f r=some (e,r')∧Sm e∧r.pos≤r'.pos∧St X Q' r'
theorem w40:(⟨#[40]⟩:ByteArray)=bs [40]:=rfl
theorem w41:(⟨#[41]⟩:ByteArray)=bs [41]:=rfl
theorem w44:(⟨#[44]⟩:ByteArray)=bs [44]:=rfl
theorem w45:(⟨#[45]⟩:ByteArray)=bs [45]:=rfl
theorem w0:(⟨#[]⟩:ByteArray)=bs []:=rfl
theorem wtail:(⟨#[116,97,105,108]⟩:ByteArray)=bs [116,97,105,108]:=rfl
theorem wfby:(⟨#[102,98,121]⟩:ByteArray)=bs [102,98,121]:=rfl
theorem wcons:(⟨#[58,58]⟩:ByteArray)=bs [58,58]:=rfl
theorem wov:(⟨#[42,94]⟩:ByteArray)=bs [42,94]:=rfl
theorem wun:(⟨#[47,94]⟩:ByteArray)=bs [47,94]:=rfl
theorem wsh:(⟨#[126,62]⟩:ByteArray)=bs [126,62]:=rfl
theorem w47:(⟨#[47]⟩:ByteArray)=bs [47]:=rfl
theorem sm1 {k:Int}{s:ByteArray}{n d a:Int}{x:Expr}(h:Sm x):Sm (Expr.mk k s n d [x] a):=⟨by unfold maxLen;simp,fun y hy=>by rw[List.mem_singleton.1 hy];exact h⟩
theorem sm0 {k:Int}{s:ByteArray}{n d a:Int}:Sm (Expr.mk k s n d [] a):=⟨by simp,fun y hy=>by cases hy⟩
theorem sml {k:Int}{s:ByteArray}{n d a:Int}{l:List Expr}(h:l.length≤5000)(hl:∀x∈l,Sm x):Sm (Expr.mk k s n d l a):=⟨Nat.le_trans h (by unfold maxLen;decide),hl⟩
theorem nof41 {D:W}:nof FE ([41]::D):=fun s hs e=>by
 cases e;exact absurd hs (by decide)
theorem nof44 {D:W}:nof FE ([44]::D):=fun s hs e=>by
 cases e;exact absurd hs (by decide)
theorem list_st (hX:X.ok)(hE:SpE X m E)(hm:1≤m)(h:St X Q r)(hf:r.e=0→(X.l.length:Int)+1≤m+r.pos)(x:Expr)(hx:x.args=[])(hq:∀D,Q D→∃g D',D=g++[41]::D'∧G 3 g∧Q' D'):
  ∃y r',rl E r x=some ((),r',y)∧Sm y∧y.at_=x.at_∧r.pos≤r'.pos∧St X Q' r':=by
 obtain⟨w,hw,hz⟩:=JS (f:=qK (rc E) zf zp qZ)
  (fun v=>St X (fun D=>∃g D',D=g++[41]::D'∧G 3 g∧Q' D') v.2.1∧0≤v.1∧v.1≤v.2.1.pos - r.pos∧r.pos≤v.2.1.pos∧(v.2.1.e=0→(X.l.length:Int)+1≤m+v.2.1.pos)∧v.2.2.1.at_=x.at_∧(v.2.2.2.length:Int)≤v.1∧∀y∈v.2.2.2,Sm y)
  (fun v=>(5000 - v.2.1.pos).toNat)
  (fun w=>St X (fun D=>∃D',D=[41]::D'∧Q' D') w.1∧r.pos≤w.1.pos∧w.2.1.at_=x.at_∧w.2.2.length≤5000∧∀y∈w.2.2,Sm y)
  (by
   rintro⟨n,r1,y,a⟩ ⟨h1,h2,h3,h4,h4',h5,h6,h7⟩
   simp only at h1 h2 h3 h4 h4' h5 h6 h7;have hr0:=h.in.pos;have hr1:=(h1.hi hX).1;by_cases e0:r1.e=0
   ·have:∃r2,(if(decide (n=(6:Int)))then(qZ r1).bind fun y22=>(zp r1 y22.at_ (8:Int)).bind fun y24=>some y24.2 else some r1:Option qa)=some r2∧St X (fun D=>∃g D',D=g++[41]::D'∧G 3 g∧Q' D') r2∧r2.pos=r1.pos:=by
     by_cases h6n:n=6
     ·obtain⟨t,k1,k2,_⟩:=QV hX h1;obtain⟨r2,k3,k4,k5,k6⟩:=JD hX h1 (a:=t.at_) (c:=8) k2 (by decide) (fun h=>by cases h);exact⟨r2,by rw[decide_eq_true h6n];simp[k1,k3],.inl k4,k5⟩
     ·exact⟨r1,by rw[decide_eq_false h6n];rfl,h1,rfl⟩
    obtain⟨r2,hr2,s2,p2⟩:=this;obtain⟨z,r3,k1,k2,k3,k4⟩:=hE r2 _ (fun D=>(∃D',D=[41]::D'∧Q' D')∨∃l D',D=[44]::(l++[41]::D')∧G 3 l∧Q' D') s2 hm (fun _=>by rw[p2];exact h4' e0) (by
     rintro D ⟨g,D',rfl,hg,hQ⟩
     cases hg with
     |one h=>exact⟨g,_,rfl,h,nof41,.inl ⟨D',rfl,hQ⟩⟩
     |more h hl=>exact⟨_,_,by rw[List.append_assoc];rfl,h,nof44,.inr ⟨_,D',rfl,hl,hQ⟩⟩)
    obtain⟨b,r4,c1,c2,c3⟩:=zL hX k4 [44];have happ:Ql 72 a [z]=some (a++[z]):=by
     unfold Ql;rw[if_pos (by simp;omega)]
    have hsm:∀y∈a++[z],Sm y:=fun y hy=>by
     rcases List.mem_append.1 hy with h|h
     ·exact h7 y h
     ·rw[List.mem_singleton.1 h];exact k2
    cases b with
    | false =>
     obtain⟨rfl,c4⟩:=c3 rfl;refine .inr ⟨(r4,Expr.mk y.kind y.name y.n y.d (a++[z]) y.at_,a++[z]),?_,c4.mono ?_,by show r.pos≤r4.pos;omega,h5,by simp;omega,hsm⟩
     ·unfold qK;dsimp only;rw[decide_eq_true e0];simp only[if_true,hr2,Option.bind_some,rc,B_syntax_reader_atom_c1,k1,happ,w44,c1,Bool.not_false]
     ·rintro D ⟨hD|⟨l,D',rfl,_⟩,hn⟩
      ·exact hD
      ·exact absurd rfl hn
    | true =>
     obtain⟨e3,p4,lt4,c4⟩:=c2 rfl;refine .inl ⟨(IntKind.i64.wrap (n+1),r4,Expr.mk y.kind y.name y.n y.d (a++[z]) y.at_,a++[z]),?_,⟨c4.mono ?_,?_⟩,?_⟩
     ·unfold qK;dsimp only;rw[decide_eq_true e0];simp only[if_true,hr2,Option.bind_some,rc,B_syntax_reader_atom_c1,k1,happ,w44,c1,Bool.not_true,Bool.false_eq_true,if_false]
     ·rintro D (⟨D',hD,_⟩|⟨l,D',hD,hl,hQ⟩)
      ·cases hD
      ·cases hD;exact⟨l,D',rfl,hl,hQ⟩
     ·have:=hX.hl;simp only;rw[zF (by omega) (by omega)];exact⟨by omega,by omega,by omega,fun _=>by have:=h4' e0;omega,h5,by simp;omega,hsm⟩
     ·have:=hX.hl;simp only;omega
   ·refine .inr ⟨(r1,Expr.mk y.kind y.name y.n y.d a y.at_,a),?_,?_,h4,h5,by show a.length≤5000;omega,h7⟩
    ·unfold qK;dsimp only;rw[decide_eq_false e0];rfl
    ·rcases h1 with h|⟨D,_,h⟩
     ·exact .inl h
     ·exact absurd h.e e0)
  (v:=((0:Int),r,Expr.mk x.kind x.name x.n x.d x.args x.at_,x.args)) ⟨h.mono hq,by simp,by simp,by simp,hf,rfl,by simp[hx],by simp[hx]⟩
 obtain⟨h1,h2,h3,h4,h5⟩:=hz;obtain⟨r4,k1,k2,_,k4⟩:=zH hX h1 [41] (fun D hD=>hD);refine⟨Expr.mk w.2.1.kind w.2.1.name w.2.1.n w.2.1.d w.2.2 w.2.1.at_,r4,?_,sml h4 h5,h3,by omega,k4⟩;unfold rl B_syntax_reader_list_of_atom_c1;rw[hw];obtain⟨r3,y,a⟩:=w;simp only[Option.bind_some,w41];rw[k1];rfl
variable {X:Cx} {r r':qa} {Q Q':W→Prop} {E:RE} {m:Nat}
theorem St.err (h:St X Q r)(he:r.e≠0):Fa X r:=h.elim id fun⟨D,_,h⟩=>absurd h.e he
theorem cap {α:Type}{a b:α}{l l':List α}(h:a::l=b::l'):a=b∧l=l':=by cases h;exact⟨rfl,rfl⟩
theorem sm_eta {y:Expr}(h:Sm y):Sm (Expr.mk y.kind y.name y.n y.d y.args y.at_):=by cases y;exact h
theorem atom_st (hX:X.ok)(hE:SpE X m E)(h:St X Q r)(he:r.e=0)(hf:(X.l.length:Int)≤m+r.pos)(hq:∀D,Q D→∃g D',D=g++D'∧G 1 g∧D'.head?≠some [40]∧Q' D'):
  ∃e r',rA E r=some (e,r')∧Sm e∧r.pos≤r'.pos∧St X Q' r':=by
 have hl:=hX.hl;have hp:=(h.hi hX).2 he;obtain⟨b,r1,c1,c2,c3⟩:=zL hX h [40];cases b with
 | true =>
  obtain⟨_,p1,lt1,s1⟩:=c2 rfl;obtain⟨e,r2,k1,k2,k3,k4⟩:=hE r1 _ (fun D=>∃D',D=[41]::D'∧Q' D') s1 (by omega) (fun _=>by omega) (by
   intro D hD;obtain⟨g,D',e,hg,hn,hQ⟩:=hq _ hD;cases hg with
   |name hw=>obtain⟨rfl,_⟩:=cap e;exact absurd hw.1 (by decide)
   |call hw _=>obtain⟨rfl,_⟩:=cap e;exact absurd hw.1 (by decide)
   | paren h0 =>
    obtain⟨_,rfl⟩:=cap e;exact⟨_,[41]::D',by simp,h0,nof41,D',rfl,hQ⟩)
  obtain⟨r3,m1,m2,_,m3⟩:=zH hX k4 [41] (fun D hD=>hD);refine⟨e,r3,?_,k2,by omega,m3⟩;unfold rA B_syntax_reader_atom;simp only[w40,c1,Option.bind_some,if_true,k1,w41,m1]
 | false =>
  obtain⟨rfl,s1⟩:=c3 rfl;obtain⟨t,r2,n1,n2,n3,n4⟩:=Jh hX s1 (by omega) (Q':=fun D=>(D.head?≠some [40]∧Q' D)∨∃g D',D=[40]::(g++[41]::D')∧G 3 g∧Q' D') (by
   rintro D ⟨hD,hn⟩
   obtain⟨g,D',rfl,hg,hn2,hQ⟩:=hq D hD;cases hg with
   |name hw=>exact⟨_,D',rfl,hw.1,hw.2,.inl ⟨hn2,hQ⟩⟩
   |call hw h3=>exact⟨_,_,rfl,hw.1,hw.2,.inr ⟨_,D',by simp,h3,hQ⟩⟩
   |paren h0=>exact absurd rfl hn)
  obtain⟨b,r3,d1,d2,d3⟩:=zL hX n4 [40];cases b with
  | false =>
   obtain⟨rfl,s3⟩:=d3 rfl;obtain⟨e',r4,q1,q2,q3,q4⟩:=Qt hX s3 (e:=Expr.mk 1 t.text 0 0 [] t.at_) sm0 n2;refine⟨e',r4,?_,q2,by omega,q4.mono ?_⟩
   ·unfold rA B_syntax_reader_atom;simp only[w40,c1,Option.bind_some,Bool.false_eq_true,if_false,n1,d1,Bool.not_false,if_true,q1]
   ·rintro D ⟨⟨_,hQ⟩|⟨g,D',rfl,_⟩,hn⟩
    ·exact hQ
    ·exact absurd rfl hn
  | true =>
   obtain⟨e3,p3,lt3,s3⟩:=d2 rfl;obtain⟨y,r4,l1,l2,l3,l4,l5⟩:=list_st hX hE (by omega) s3 (fun _=>by omega) (Expr.mk 2 t.text 0 0 ([]:List Expr) t.at_) rfl (Q':=Q') (by
    rintro D (⟨hn,_⟩|⟨g,D',hD,h3,hQ⟩)
    ·exact absurd rfl hn
    ·obtain⟨_,rfl⟩:=cap hD;exact⟨g,D',rfl,h3,hQ⟩)
   obtain⟨e',r5,q1,q2,q3,q4⟩:=Qt hX l5 (e:=Expr.mk y.kind y.name y.n y.d y.args y.at_) (sm_eta l2) (by show 0≤y.at_∧_;rw[l3];exact n2);refine⟨e',r5,?_,q2,by omega,q4⟩;unfold rA B_syntax_reader_atom;simp only[w40,c1,Option.bind_some,Bool.false_eq_true,if_false,n1,d1,Bool.not_true,l1,q1]
def LO (Q':W→Prop)(D:W):Prop:=∃o D',D=o++D'∧G 2 o∧nof FE D'∧Q' D'
theorem LO_op {k:List UInt8}{D:W}(h:LO Q' (k::D))(hk:k=[42,94]∨k=[47,94]):∃n D',D=n::D'∧kd n=2∧LO Q' D':=by
 obtain⟨o,D',e,ho,hn,hQ⟩:=h;cases ho with
 |nil=>exact absurd (by rw[←show k::D=D' from e];rfl) (hn k (by rcases hk with rfl|rfl<;>decide))
 |over h1 h2 h3=>obtain⟨_,rfl⟩:=cap e;exact⟨_,_,rfl,h2,_,D',rfl,h3,hn,hQ⟩
 |shift=>obtain⟨rfl,_⟩:=cap e;rcases hk with hk|hk<;>exact absurd hk (by decide)
theorem LO_sh {D:W}(h:LO Q' ([126,62]::D)):∃n D1,D=n::D1∧kd n=2∧∃d D2,D1=[47]::d::D2∧kd d=2∧LO Q' D2:=by
 obtain⟨o,D',e,ho,hn,hQ⟩:=h;cases ho with
 |nil=>exact absurd (by rw[←show[126,62]::D=D' from e];rfl) (hn [126,62] (by decide))
 |over h1 h2 h3=>obtain⟨rfl,_⟩:=cap e;rcases h1 with h1|h1<;>exact absurd h1 (by decide)
 |shift h1 h2 h3=>obtain⟨_,rfl⟩:=cap e;exact⟨_,_,rfl,h1,_,_,rfl,h2,_,D',rfl,h3,hn,hQ⟩
theorem LO_end {D:W}(h:LO Q' D)(h1:D.head?≠some [42,94])(h2:D.head?≠some [47,94])(h3:D.head?≠some [126,62]):Q' D:=by
 obtain⟨o,D',rfl,ho,hn,hQ⟩:=h;cases ho with
 |nil=>exact hQ
 |over k1 _ _=>rcases k1 with rfl|rfl;exact absurd rfl h1;exact absurd rfl h2
 |shift=>exact absurd rfl h3
theorem post_st (hX:X.ok)(hE:SpE X m E)(h:St X Q r)(he:r.e=0)(hf:(X.l.length:Int)≤m+r.pos)(hq:∀D,Q D→∃a o D',D=a++(o++D')∧G 1 a∧G 2 o∧nof FE D'∧Q' D'):
  ∃e r',rP E r=some (e,r')∧Sm e∧r.pos≤r'.pos∧St X Q' r':=by
 have hl:=hX.hl;obtain⟨e1,r1,a1,a2,a3,a4⟩:=atom_st hX hE h he hf (Q':=LO Q') (by
  intro D hD;obtain⟨a,o,D',rfl,ha,ho,hn,hQ⟩:=hq D hD;refine⟨a,o++D',rfl,ha,?_,o,D',rfl,ho,hn,hQ⟩;cases ho with
  |nil=>exact hn [40] (by decide)
  |over k1 _ _=>rcases k1 with rfl|rfl<;>simp
  |shift=>simp)
 obtain⟨w,hw,hz⟩:=JS (f:=qP zf zJ zA qZ Qi)
  (fun v=>St X (LO Q') v.1∧r.pos≤v.1.pos∧Sm v.2.2)
  (fun v=>(5000 - v.1.pos).toNat)
  (fun w=>match w with| .inl (e,r2)=>Sm e∧r.pos≤r2.pos∧St X Q' r2| .inr (r2,_,e)=>Sm e∧r.pos≤r2.pos∧St X Q' r2)
  (by
   rintro⟨r2,x,e⟩ ⟨h1,h2,h3⟩
   simp only at h1 h2 h3;have h2i:=h.in.pos;by_cases e0:r2.e=0
   ·have hp:=(h1.hi hX).2 e0;obtain⟨t,t1,t2,_⟩:=QV hX h1;obtain⟨b1,r3,c1,c2,c3⟩:=zL hX h1 [42,94];cases b1 with
    | true =>
     obtain⟨_,p3,lt3,s3⟩:=c2 rfl;obtain⟨n,r4,n1,n2,n3⟩:=Yz hX s3 (by omega) 1 100 (fun D hD=>LO_op hD (.inl rfl));obtain⟨e',r5,q1,q2,q3,q4⟩:=Qt hX n3 (e:=Expr.mk 3 (bs []) n 0 [e] t.at_) (sm1 h3) t2;have:=(q4.hi hX).1;refine .inl ⟨(r5,x,e'),?_,⟨q4,by simp only;omega,q2⟩,by simp only;omega⟩;unfold qP;dsimp only;simp only[decide_eq_true e0,if_true,t1,Option.bind_some,wov,c1,n1,w0,q1]
    | false =>
     obtain⟨rfl,s3⟩:=c3 rfl;obtain⟨b2,r4,d1,d2,d3⟩:=zL hX s3 [47,94];cases b2 with
     | true =>
      obtain⟨_,p3,lt3,s4⟩:=d2 rfl;obtain⟨n,r5,n1,n2,n3⟩:=Yz hX s4 (by omega) 1 100 (fun D hD=>LO_op hD.1 (.inr rfl));obtain⟨e',r6,q1,q2,q3,q4⟩:=Qt hX n3 (e:=Expr.mk 4 (bs []) n 0 [e] t.at_) (sm1 h3) t2;have:=(q4.hi hX).1;refine .inl ⟨(r6,x,e'),?_,⟨q4,by simp only;omega,q2⟩,by simp only;omega⟩;unfold qP;dsimp only;simp only[decide_eq_true e0,if_true,t1,Option.bind_some,wov,wun,c1,d1,Bool.false_eq_true,if_false,n1,w0,q1]
     | false =>
      obtain⟨rfl,s4⟩:=d3 rfl;obtain⟨b3,r5,f1,f2,f3⟩:=zL hX s4 [126,62];cases b3 with
      | true =>
       obtain⟨_,p3,lt3,s5⟩:=f2 rfl;obtain⟨n,r6,n1,n2,n3⟩:=Yz hX s5 (by omega) 0 100 (fun D hD=>LO_sh hD.1.1);obtain⟨r7,m1,m2,m2',m3⟩:=zH hX n3 [47] (Q':=fun D=>∃d D2,D=d::D2∧kd d=2∧LO Q' D2) (by
        rintro D ⟨d,D2,rfl,hd,hL⟩
        exact⟨_,rfl,d,D2,rfl,hd,hL⟩)
       have hres:∃r8 d,(if(decide (r7.e=(0:Int)))then(Qi r7 (1:Int) (100:Int)).bind fun y58=>some (y58.2,(Expr.mk (5:Int) (bs []) n y58.1 ([e]) t.at_))else some (r7,(Expr.mk (5:Int) (bs []) n (0:Int) ([e]) t.at_)):Option (qa×Expr))=some (r8,Expr.mk 5 (bs []) n d [e] t.at_)∧r7.pos≤r8.pos∧St X (LO Q') r8:=by
        by_cases e7:r7.e=0
        ·have:=(m3.hi hX).2 e7;obtain⟨d,r8,k1,k2,k3⟩:=Yz hX m3 (by omega) 1 100 (fun D hD=>hD);exact⟨r8,d,by rw[decide_eq_true e7];simp[k1],by omega,k3⟩
        ·exact⟨r7,0,by rw[decide_eq_false e7];rfl,Int.le_refl _,.inl (m3.err e7)⟩
       obtain⟨r8,d,g1,g2,g3⟩:=hres;obtain⟨e',r9,q1,q2,q3,q4⟩:=Qt hX g3 (e:=Expr.mk 5 (bs []) n d [e] t.at_) (sm1 h3) t2;have:=(q4.hi hX).1;refine .inl ⟨(r9,x,e'),?_,⟨q4,by simp only;omega,q2⟩,by simp only;omega⟩;unfold qP;dsimp only;simp only[decide_eq_true e0,if_true,t1,Option.bind_some,wov,wun,wsh,w47,c1,d1,f1,Bool.false_eq_true,if_false,n1,m1,w0,g1,q1]
      | false =>
       obtain⟨rfl,s5⟩:=f3 rfl;refine .inr ⟨.inl (e,r5),?_,h3,h2,s5.mono fun D hD=>LO_end hD.1.1.1 hD.1.1.2 hD.1.2 hD.2⟩;unfold qP;dsimp only;simp only[decide_eq_true e0,if_true,t1,Option.bind_some,wov,wun,wsh,c1,d1,f1,Bool.false_eq_true,if_false]
   ·refine .inr ⟨.inr (r2,x,e),?_,h3,h2,.inl (h1.err e0)⟩;unfold qP;dsimp only;rw[decide_eq_false e0];rfl)
  (v:=(r1,Expr.mk 0 (bs []) 0 0 [] 0,e1)) ⟨a4,a3,a2⟩
 unfold rP B_syntax_reader_post;rw[a1];simp only[Option.bind_some,w0,hw];rcases w with⟨e,r2⟩|⟨r2,x,e⟩
 ·exact⟨e,r2,rfl,hz⟩
 ·exact⟨e,r2,rfl,hz⟩
variable {X:Cx} {r r':qa} {Q Q':W→Prop} {E:RE} {m:Nat}
def pre0 (Q':W→Prop)(D:W):Prop:=∃n k g D',D=n::k::(g++D')∧kd n=2∧(k=[102,98,121]∨k=[58,58])∧G 0 g∧nof FE D'∧Q' D'
theorem nmw_no {w:List UInt8}(h:NmW w){x:List UInt8}(hx:bs x∈qE):w≠x:=fun e=>h.2 (e▸hx)
theorem G1_head {a:W}(h:G 1 a):∃w a',a=w::a'∧(NmW w∨w=[40]):=by
 cases h with
 |name h=>exact⟨_,_,rfl,.inl h⟩
 |call h _=>exact⟨_,_,rfl,.inl h⟩
 |paren _=>exact⟨_,_,rfl,.inr rfl⟩
theorem expr_st (hX:X.ok)(hE:SpE X m (rE m)):SpE X (m+1) (rE (m+1)):=by
 intro r Q Q' h hm hf hq;have hl:=hX.hl;have hr:=h.in.pos;obtain⟨t,t1,t2,_,t4,t5⟩:=QV hX h;rw[rE];unfold B_syntax_reader_expr;by_cases e1:r.e≠0
 ·exact⟨nilE,r,by simp only[t1,Option.bind_some,decide_eq_false e1,Bool.not_false,if_true];rfl,qqv,Int.le_refl _,.inl (h.err e1)⟩
 have e0:r.e=0:=Classical.byContradiction e1;have hp:=(h.hi hX).2 e0;have hf0:=hf e0;have hf1:(X.l.length:Int)≤m+r.pos:=by omega
 obtain⟨b,r1,c1,c2,c3⟩:=zL hX t5 [116,97,105,108];simp only[t1,Option.bind_some,decide_eq_true e0,Bool.not_true,Bool.false_eq_true,if_false,wtail,w45,wcons,wfby,w0,c1];cases b with
 | true =>
  obtain⟨_,p1,lt1,s1⟩:=c2 rfl;obtain⟨e,r2,k1,k2,k3,k4⟩:=hE r1 _ Q' s1 (by omega) (fun _=>by omega) (by
   rintro D ⟨hD,_⟩
   obtain⟨g,D',e,hg,hn,hQ⟩:=hq _ hD;cases hg with
   |tail h0=>obtain⟨_,rfl⟩:=cap e;exact⟨_,D',rfl,h0,hn,hQ⟩
   |num h1 _ _=>obtain⟨rfl,_⟩:=cap e;exact absurd h1 (by decide)
   |neg _ _ _=>obtain⟨h1,_⟩:=cap e;exact absurd h1 (by decide)
   | post h1 h2 =>
    obtain⟨w,a',rfl,hw⟩:=G1_head h1;obtain⟨rfl,_⟩:=cap e;rcases hw with hw|hw
    ·exact absurd rfl (nmw_no hw (List.mem_of_getElem? (i:=7) rfl))
    ·exact absurd hw (by decide))
  obtain⟨e',r3,q1,q2,q3,q4⟩:=Qt hX k4 (e:=Expr.mk 7 (bs []) 0 0 [e] t.at_) (sm1 k2) t2;exact⟨e',r3,by simp only[if_true,k1,Option.bind_some,q1],q2,by omega,q4⟩
 | false =>
  obtain⟨rfl,s1⟩:=c3 rfl
  -- a number, with a sign or without
  have numpart:r1.pos<(X.l.length:Int)→(∃s2:qa,∃b:Bool,zf r1 (bs [45])=some (b,s2)∧r1.pos≤s2.pos∧s2.pos≤4001∧St X (pre0 Q') s2)→∃e r',((zf r1 (bs [45])).bind fun y29=>
    (if y29.1 then some (-1:Int)else some (1:Int):Option Int).bind fun v33=>
    (Qi y29.2 (0:Int) (4611686018427387904:Int)).bind fun y35=>
    (zf y35.2 (bs [58,58])).bind fun y37=>
    (if y37.1 then some (y37.2,(Expr.mk (8:Int) (bs []) (IntKind.i64.wrap (v33*y35.1)) (0:Int) ([]) t.at_))
    else(zA y37.2 (bs [102,98,121])).bind fun y44=>some (y44.2,(Expr.mk (6:Int) (bs []) (IntKind.i64.wrap (v33*y35.1)) (0:Int) ([]) t.at_)):Option (qa×Expr)).bind fun(v41,v42)=>
    (rE m v41).bind fun y46=>
    (zJ y46.2 (Expr.mk v42.kind v42.name v42.n v42.d ([y46.1]) v42.at_)).bind fun y48=>
    some (y48.1,y48.2))=some (e,r')∧Sm e∧r1.pos≤r'.pos∧St X Q' r':=by
   rintro hlt ⟨s2,b,d1,d2,d2',d3⟩
   obtain⟨n,r3,n1,n2,n3⟩:=Yz hX d3 (by omega) 0 4611686018427387904 (Q':=fun D=>∃k g D',D=k::(g++D')∧(k=[102,98,121]∨k=[58,58])∧G 0 g∧nof FE D'∧Q' D') (by
    rintro D ⟨n,k,g,D',rfl,h1,h2⟩
    exact⟨_,_,rfl,h1,k,g,D',rfl,h2⟩)
   obtain⟨b2,r4,f1,f2,f3⟩:=zL hX n3 [58,58];have hnext:∃r5 kk,(if b2 then some (r4,(Expr.mk (8:Int) (bs []) (IntKind.i64.wrap ((if b then(-1:Int)else 1)*n)) (0:Int) ([]) t.at_))
     else(zA r4 (bs [102,98,121])).bind fun y44=>some (y44.2,(Expr.mk (6:Int) (bs []) (IntKind.i64.wrap ((if b then(-1:Int)else 1)*n)) (0:Int) ([]) t.at_)):Option (qa×Expr))=some (r5,Expr.mk kk (bs []) (IntKind.i64.wrap ((if b then(-1:Int)else 1)*n)) 0 [] t.at_)∧r3.pos≤r5.pos∧St X (fun D=>∃g D',D=g++D'∧G 0 g∧nof FE D'∧Q' D') r5:=by
    cases b2 with
    | true =>
     obtain⟨_,p4,_,s4⟩:=f2 rfl;exact⟨r4,8,by rw[if_pos rfl],by omega,s4.mono fun D ⟨k,g,D',e,_,h2⟩=>⟨g,D',(cap e).2,h2⟩⟩
    | false =>
     obtain⟨rfl,s4⟩:=f3 rfl;obtain⟨r5,m1,m2,_,m3⟩:=zH hX s4 [102,98,121] (Q':=fun D=>∃g D',D=g++D'∧G 0 g∧nof FE D'∧Q' D') (by
      rintro D ⟨⟨k,g,D',rfl,hk,h2⟩,hn⟩
      rcases hk with rfl|rfl
      ·exact⟨_,rfl,g,D',rfl,h2⟩
      ·exact absurd rfl hn)
     exact⟨r5,6,by simp[m1],by omega,m3⟩
   obtain⟨r5,kk,g1,g2,g3⟩:=hnext;obtain⟨e,r6,k1,k2,k3,k4⟩:=hE r5 _ Q' g3 (by omega) (fun _=>by omega) (fun D hD=>hD);obtain⟨e',r7,q1,q2,q3,q4⟩:=Qt hX k4 (e:=Expr.mk kk (bs []) (IntKind.i64.wrap ((if b then(-1:Int)else 1)*n)) 0 [e] t.at_) (sm1 k2) t2;refine⟨e',r7,?_,q2,by omega,q4⟩;have hb:(if b then some (-1:Int)else some (1:Int):Option Int)=some (if b then(-1:Int)else 1):=by cases b<;>rfl
   simp only[d1,Option.bind_some,hb,n1,f1,g1,k1,q1]
  by_cases hk:t.kind=2
  ·have hlt:=t4 (by rw[hk];decide);have hst:St X (pre0 Q') r1:=s1.mono (by
    rintro D ⟨⟨hD,w,D1,e1,_,e3,_⟩,hn⟩
    obtain⟨g,D',rfl,hg,hn2,hQ⟩:=hq _ hD;have hw:kd w=2:=by rw[←e3];exact hk
    cases hg with
    |tail h0=>exact absurd rfl hn
    |num h1 h2 h3=>exact⟨_,_,_,D',rfl,h1,h2,h3,hn2,hQ⟩
    |neg _ _ _=>obtain⟨rfl,_⟩:=cap e1;exact absurd hw (by decide)
    | post h1 h2 =>
     obtain⟨w',a',rfl,hw'⟩:=G1_head h1;obtain⟨rfl,_⟩:=cap e1;rcases hw' with hw'|rfl
     ·exact absurd (hw.symm.trans hw'.1) (by decide)
     ·exact absurd hw (by decide))
   obtain⟨b,s2,d1,d2,d3⟩:=zL hX hst [45];have:=numpart hlt ⟨s2,b,d1,by
    cases b with
    |true=>have:=(d2 rfl).2.1;omega
    |false=>rw[(d3 rfl).1];omega,by
    cases b with
    |true=>have:=(d2 rfl).2.1;omega
    |false=>rw[(d3 rfl).1];omega,by
    cases b with
    | true =>
     refine(d2 rfl).2.2.2.mono ?_
     rintro D ⟨n,k,g,D',e,h1,_⟩
     obtain⟨rfl,_⟩:=cap e;exact absurd h1 (by decide)
    |false=>obtain⟨rfl,s⟩:=d3 rfl;exact s.mono fun D hD=>hD.1⟩
   simp only[decide_eq_true hk,Bool.not_true,Bool.false_eq_true,if_false,Option.bind_some,Bool.false_and];exact this
  ·obtain⟨b,i1,i2,i3⟩:=is_st hX s1 [45];simp only[decide_eq_false hk,Bool.not_false,if_true,i1,Option.bind_some,Bool.true_and];cases b with
   | true =>
    obtain⟨_,hlt,s2⟩:=i2 rfl;obtain⟨b,r2,d1,d2,d3⟩:=zL hX s2 [45];have:=numpart hlt ⟨r2,b,d1,by
     cases b with
     |true=>have:=(d2 rfl).2.1;omega
     |false=>rw[(d3 rfl).1];omega,by
     cases b with
     |true=>have:=(d2 rfl).2.1;omega
     |false=>rw[(d3 rfl).1];omega,by
     cases b with
     | true =>
      refine(d2 rfl).2.2.2.mono ?_
      rintro D ⟨⟨⟨hD,w,D1,e1,_,e3,_⟩,hn⟩,_⟩
      obtain⟨g,D',e,hg,hn2,hQ⟩:=hq _ hD;cases hg with
      |tail h0=>obtain⟨e,_⟩:=cap e;exact absurd e (by decide)
      |num h1 h2 h3=>obtain⟨rfl,_⟩:=cap e;exact absurd h1 (by decide)
      |neg h1 h2 h3=>obtain⟨_,rfl⟩:=cap e;exact⟨_,_,_,D',rfl,h1,h2,h3,hn2,hQ⟩
      | post h1 h2 =>
       obtain⟨w',a',rfl,hw'⟩:=G1_head h1;obtain⟨rfl,_⟩:=cap e;rcases hw' with hw'|hw'
       ·exact absurd hw'.1 (by decide)
       ·exact absurd hw' (by decide)
     | false =>
      obtain⟨rfl,s⟩:=d3 rfl;exact s.mono fun D ⟨⟨_,D',e⟩,hn⟩=>absurd (by rw[e];rfl) hn⟩
    simp only[Bool.not_true,Bool.false_eq_true,if_false];exact this
   | false =>
    obtain⟨e,r2,k1,k2,k3,k4⟩:=post_st hX hE (i3 rfl) e0 hf1 (Q':=Q') (by
     rintro D ⟨⟨⟨hD,w,D1,e1,_,e3,_⟩,hn⟩,hn3⟩
     obtain⟨g,D',rfl,hg,hn2,hQ⟩:=hq _ hD;cases hg with
     |tail h0=>exact absurd rfl hn
     |num h1 h2 h3=>obtain⟨rfl,_⟩:=cap e1;exact absurd (e3.trans h1) hk
     |neg h1 h2 h3=>exact absurd rfl hn3
     |post h1 h2=>exact⟨_,_,D',List.append_assoc _ _ _,h1,h2,hn2,hQ⟩)
    simp only[Bool.not_false,if_true,k1,Option.bind_some];exact⟨e,r2,rfl,k2,k3,k4⟩
theorem expr_all (hX:X.ok):∀m,SpE X m (rE m)
 |0=>fun r Q Q' _ hm _ _=>absurd hm (by decide)
 |m+1=>expr_st hX (expr_all hX m)
end Go.Proofs.Ytohmmfimedgccaa.E
end
section
namespace Go.Proofs.Ytohmmfimedgccaa.E
set_option maxRecDepth 100000
set_option maxHeartbeats 4000000
set_option linter.unusedVariables false
set_option linter.unusedSimpArgs false
noncomputable def B_syntax_reader_one (f0:qa→Option qd)(f1:qa→ByteArray→Option (Bool×qa))(f2:qa→Option (qd×qa))(f3:qa→ByteArray→Option (Unit×qa))(f4:qa→Option (Expr×qa))(f5:qa→Expr→Option (Expr×qa))(f6:qa→Option (Expr×qa))(a0:qa):Option (Expr×qa):=
 (f0 a0).bind fun y1=>
 (if(!decide (a0.e=(0:Int)))then
  some (.inl ((Expr.mk (0:Int) (⟨#[]⟩:ByteArray) (0:Int) (0:Int) ([]) (0:Int)),a0))
 else
  (f1 a0 (⟨#[45]⟩:ByteArray)).bind fun y10=>
  if y10.1 then
   (f6 y10.2).bind fun y13=>
   (f5 y13.2 (Expr.mk (13:Int) (⟨#[45]⟩:ByteArray) (0:Int) (0:Int) ([(Expr.mk (12:Int) (⟨#[]⟩:ByteArray) (0:Int) (0:Int) ([]) y1.at_),y13.1]) y1.at_)).bind fun y15=>
   some (.inl (y15.1,y15.2))
  else
   (f1 y10.2 (⟨#[40]⟩:ByteArray)).bind fun y19=>
   if y19.1 then
    (f4 y19.2).bind fun y22=>
    (f3 y22.2 (⟨#[41]⟩:ByteArray)).bind fun y24=>
    some (.inl (y22.1,y24.2))
   else
    if(decide (y1.kind=(2:Int)))then
     (f5 (qa.mk y19.2.l y19.2.end_ (IntKind.i64.wrap (y19.2.pos+(1:Int))) y19.2.at_ y19.2.e y19.2.p) (Expr.mk (12:Int) (⟨#[]⟩:ByteArray) y1.n (0:Int) ([]) y1.at_)).bind fun y29=>
     some (.inl (y29.1,(qa.mk y29.2.l y29.2.end_ y29.2.pos y29.2.at_ y29.2.e y29.2.p)))
    else
     some (.inr (y19.2,(Expr.mk (0:Int) (⟨#[]⟩:ByteArray) (0:Int) (0:Int) ([]) (0:Int)))):Option ((Expr×qa)⊕(qa×Expr))).bind fun x=>match x with
 | .inl r=>some r
 | .inr (v5, v6) =>
  (f2 v5).bind fun y33=>
  (f5 y33.2 (Expr.mk (11:Int) y33.1.text (0:Int) (0:Int) ([]) y1.at_)).bind fun y35=>
  some (y35.1,y35.2)
abbrev C136_0 (z0 z1:Store)(z2:Nat):Prop:=Bx z0 z1 z2 39 [(.v (.int .i64 (0:Int))),(.v (.string (⟨#[]⟩:ByteArray))),(.v (.int .i64 (0:Int))),(.v (.int .i64 (0:Int))),.e0,(.v (.int .i64 (0:Int)))]
theorem W_syntax_reader_one (f0 f1 f2 f3 f4 f5 f6)(S0:Sat_syntax_reader_now f0)(S1:Sat_syntax_reader_can f1)(S2:Sat_syntax_reader_name f2)(S3:Sat_syntax_reader_must f3)(S4:Sat_syntax_reader_body f4)(S5:Sat_syntax_reader_made f5)(S6:Sat_syntax_reader_one f6):Sat_syntax_reader_one (B_syntax_reader_one f0 f1 f2 f3 f4 f5 f6):=by
 intro a0 r h σ K j0 q H0 hq hK;refine Qw (Q:=fun r s=>∃l:List (Nat×AObj),(l.map (·.1)).Nodup∧(∀x∈l,x.1<σ.length∧ClO σ.length x.2)∧Pq σ l K r s) Try.func136 rfl rfl (by kernel_rfl) (fun _ _ h=>h) ?_;unfold B_syntax_reader_one at h;have hP:=Pre.refl σ;have jl0:=H0.lt;have hF:=Fr.refl σ [j0];have E0:qu [(.pt j0 0)] 0=(.pt j0 0):=rfl;have TT:=cj15 Expr.cle Expr.rlen T_153 T_155 T_2 T_27 T_3 T_30 T_37 T_39 T_81 T_85 T_9 qd.cle qa.cle;refine qh (fun e s=>∃i2:Nat,∃τ:Store,Gx s j0 (AObj.box 155 (qa.cl q a0))∧C136_0 σ s i2∧eP e 0 j0∧eP e 2 i2∧j0≠i2∧Fr σ τ [j0]∧Pre τ s) ?_ ?_
 ·refine w_x (cj2 H0.g3 TT) ?_;exact qf ⟨σ.length,σ,(H0.app [some (AObj.box 39 [(.v (.int .i64 (0:Int))),(.v (.string (⟨#[]⟩:ByteArray))),(.v (.int .i64 (0:Int))),(.v (.int .i64 (0:Int))),.e0,(.v (.int .i64 (0:Int)))])]),(Bx.newf hF hP 39 [(.v (.int .i64 (0:Int))),(.v (.string (⟨#[]⟩:ByteArray))),(.v (.int .i64 (0:Int))),(.v (.int .i64 (0:Int))),.e0,(.v (.int .i64 (0:Int)))]),E0,(xv (cj2 H0.g3 TT)),(Nat.ne_of_lt H0.lt),hF,(hP.app _)⟩
 rintro e s ⟨i2,τ,X0,X2,E0,E2,N0__2,hF,hP⟩
 obtain⟨y1,h2,h⟩:=qb h;refine qh (fun e s=>∃i3:Nat,∃τ:Store,Gx s j0 (AObj.box 155 (qa.cl q a0))∧C136_0 σ s i2∧Bx σ s i3 85 (qd.cl y1)∧eP e 0 j0∧eP e 2 i2∧eP e 3 i3∧j0≠i2∧j0≠i3∧i2≠i3∧Fr σ τ [j0]∧Pre τ s) ?_ ?_
 ·have q1:=cj3 E0 X0.g3 TT;refine w_x q1 ?_;refine S0 _ _ h2 _ _ _ q X0 (hq.le (Fr.gle hF hP)) ?_;refine w_y q1 ?_;exact qf ⟨s.length,τ,(X0.app _),(X2.app _),(Bx.newf hF hP 85 (qd.cl y1)),E0,E2,(xv q1),N0__2,(Nat.ne_of_lt X0.lt),(Nat.ne_of_lt X2.lt),hF,(hP.app _)⟩
 rintro e s ⟨i3,τ,X0,X2,X3,E0,E2,E3,N0__2,N0__3,N2__3,hF,hP⟩
 obtain⟨x3,h4,h⟩:=qb h;refine qh (fun e s=>∃v5:qa,∃v6:Expr,∃τ:Store,.inr (v5,v6)=x3∧Gx s j0 (AObj.box 155 (qa.cl q v5))∧Bx σ s i2 39 (Expr.cl v6)∧Bx σ s i3 85 (qd.cl y1)∧eP e 0 j0∧eP e 2 i2∧eP e 3 i3∧j0≠i2∧j0≠i3∧i2≠i3∧Fr σ τ [j0]∧Pre τ s) ?_ ?_
 ·refine qn (qe (w_x (cj3 E0 X0.get TT) ?_));refine qg ?_;rcases qj h4 with⟨hb7,h4⟩|⟨hb7,h4⟩
  ·refine xt hb7 (qh (fun e s=>∃τ:Store,Gx s j0 (AObj.box 155 (qa.cl q a0))∧C136_0 σ s i2∧eP e 2 i2∧j0≠i2∧Fr σ τ [j0]∧Pre τ s) ?_ ?_)
   ·refine w_x (cj4 E2 X2.get X2.samea TT) ?_;exact qf ⟨τ,(X0.ne (Ne.symm N0__2) _),(X2.same _ _),E2,N0__2,hF,(hP.set (hF.ge X2.le) (some (AObj.box 39 [(.v (.int .i64 (0:Int))),(.v (.string (⟨#[]⟩:ByteArray))),(.v (.int .i64 (0:Int))),(.v (.int .i64 (0:Int))),.e0,(.v (.int .i64 (0:Int)))])))⟩
   rintro e s ⟨τ,X0,X2,E2,N0__2,hF,hP⟩
   refine qo (qx ?_);obtain rfl:=qc h4;refine qO ?_;(try dsimp only at h);obtain rfl:=qc h;have hn8:(List.map (·.1) ([(j0,(AObj.box 155 (qa.cl q a0)))]:List (Nat×AObj))).Nodup:=(List.nodup_cons.2 ⟨(fun h=>by simp at h),List.nodup_nil⟩);have he9:=Fr.eq hF hn8 (List.forall_mem_cons.2 ⟨⟨jl0,(Gx.back X0 hP (hF.lt jl0))⟩,(fun x hx=>absurd hx (by simp))⟩);exact qU (fun _=>rfl) (xr (rs:= #[.cell 2 39]) (cj3 X2.get E2 TT)) ⟨_,hn8,(List.forall_mem_cons.2 ⟨⟨jl0,(ClO.bx (ClL.cons (Cn.cl (Cn.rows qd.cn _) _) (ClL.cons (Cn.cl (.v _) _) (ClL.cons (Cn.cl (.v _) _) (ClL.cons (Cn.cl (.v _) _) (ClL.cons (Cn.cl (.v _) _) (ClL.cons hq.c5 (ClL.cons hq.c6 (ClL.cons hq.c7 (ClL.cons hq.c8 ClL.nil))))))))))⟩,(fun x hx=>absurd hx (by simp))⟩),he9▸hP,_,(Wk.agl (.cons (.refl _) (.cons (.refl _) (.cons (.refl _) (.cons (.refl _) (.cons .e0 (.cons (.refl _) .nil))))))),(.ag (CnL.cons (.v _) (CnL.cons (.v _) (CnL.cons (.v _) (CnL.cons (.v _) (CnL.cons Cn.sl0 (CnL.cons (.v _) CnL.nil))))))),hK⟩
  ·refine xf hb7 ?_;obtain⟨y10,h11,h4⟩:=qb h4;refine qh (fun e s=>∃τ:Store,Gx s j0 (AObj.box 155 (qa.cl q y10.2))∧C136_0 σ s i2∧Bx σ s i3 85 (qd.cl y1)∧eP e 0 j0∧eP e 2 i2∧eP e 3 i3∧eB e 14 y10.1∧j0≠i2∧j0≠i3∧i2≠i3∧Fr σ τ [j0]∧Pre τ s) ?_ ?_
   ·have q2:=Gx.same X0 (AObj.box 155 (qa.cl q y10.2));have q3:=cj4 E0 X0.get q2.get TT;refine w_x q3 ?_;refine S1 _ _ _ h11 _ _ _ q X0 (hq.le (Fr.gle hF hP)) ?_;refine w_y q3 ?_;exact qf ⟨(List.set τ j0 (some (AObj.box 155 (qa.cl q y10.2)))),q2,(X2.ne N0__2 _),(X3.ne N0__3 _),E0,E2,E3,(xv q3),N0__2,N0__3,N2__3,(hF.set (by simp) (some (AObj.box 155 (qa.cl q y10.2)))),(hP.setp (hF.lt jl0) (some (AObj.box 155 (qa.cl q y10.2))))⟩
   rintro e s ⟨τ,X0,X2,X3,E0,E2,E3,E14,N0__2,N0__3,N2__3,hF,hP⟩
   rcases qj h4 with⟨hb12,h4⟩|⟨hb12,h4⟩
   ·refine xt (cj2 E14 hb12) ?_;obtain⟨y13,h14,h4⟩:=qb h4;obtain⟨y15,h16,h4⟩:=qb h4;refine qh (fun e s=>∃τ:Store,Gx s j0 (AObj.box 155 (qa.cl q y15.2))∧Bx σ s i2 39 (Expr.cl y15.1)∧eP e 2 i2∧j0≠i2∧Fr σ τ [j0]∧Pre τ s) ?_ ?_
    ·have q4:=hget X2.get N0__2;have q5:=hget X3.get N0__3;have q6:=Gx.same X0 (AObj.box 155 (qa.cl q y13.2));have q7:=Gx.same q6 (AObj.box 155 (qa.cl q y15.2));have q8:=X3.ne N0__3 (some (AObj.box 155 (qa.cl q y13.2)));have q9:=X2.ne N0__2 (some (AObj.box 155 (qa.cl q y13.2)));have q10:=cj18 E0 E2 E3 q4 q5 X0.get X2.get X3.get q6.get q9.get q8.get q7.get (q9.ne N0__2 (some (AObj.box 155 (qa.cl q y15.2)))).get (q8.ne N0__3 (some (AObj.box 155 (qa.cl q y15.2)))).get (q7.ne (Ne.symm N0__2) (some (AObj.box 39 (Expr.cl y15.1)))).get ((q9.ne N0__2 (some (AObj.box 155 (qa.cl q y15.2)))).same 39 (Expr.cl y15.1)).get ((q8.ne N0__3 (some (AObj.box 155 (qa.cl q y15.2)))).ne N2__3 (some (AObj.box 39 (Expr.cl y15.1)))).get TT;refine Jn j0 10 0 q10 ?_;refine S6 _ _ h14 _ _ _ q X0 (hq.le (Fr.gle hF hP)) ?_;refine QD q10 ?_;refine Qn q10 ?_;refine EC.wka (.cons (.refl _) (.cons (Wk.agl (.cons (.refl _) (.cons (.refl _) (.cons (.refl _) (.cons (.refl _) (.cons (Wk.sle (by rw[Expr.rows_eq ([(Expr.mk (12:Int) (⟨#[]⟩:ByteArray) (0:Int) (0:Int) ([]) y1.at_),y13.1])];rfl) (.cons (.cons (.refl _) (.cons (.refl _) (.cons (.refl _) (.cons (.refl _) (.cons .e0 (.cons (.refl _) .nil)))))) (.cons (.cons (.refl _) (.cons (.refl _) (.cons (.refl _) (.cons (.refl _) (.cons (.refl _) (.cons (.refl _) .nil)))))) .nil))) (.cons (.refl _) .nil))))))) .nil)) (S5 _ _ _ h16 _ _ _ q q6 (hq.le (Fr.gle (hF.set (by simp) (some (AObj.box 155 (qa.cl q y13.2)))) (hP.setp (hF.lt jl0) (some (AObj.box 155 (qa.cl q y13.2)))))) ?_);refine w_y q10 ?_;exact qf ⟨(List.set (List.set τ j0 (some (AObj.box 155 (qa.cl q y13.2)))) j0 (some (AObj.box 155 (qa.cl q y15.2)))),(q7.ne (Ne.symm N0__2) _),((q9.ne N0__2 _).same _ _),E2,N0__2,((hF.set (by simp) (some (AObj.box 155 (qa.cl q y13.2)))).set (by simp) (some (AObj.box 155 (qa.cl q y15.2)))),(((hP.setp (hF.lt jl0) (some (AObj.box 155 (qa.cl q y13.2)))).setp ((hF.set (by simp) (some (AObj.box 155 (qa.cl q y13.2)))).lt jl0) (some (AObj.box 155 (qa.cl q y15.2)))).set (((hF.set (by simp) (some (AObj.box 155 (qa.cl q y13.2)))).set (by simp) (some (AObj.box 155 (qa.cl q y15.2)))).ge q9.le) (some (AObj.box 39 (Expr.cl y15.1))))⟩
    rintro e s ⟨τ,X0,X2,E2,N0__2,hF,hP⟩
    refine qo (qx ?_);obtain rfl:=qc h4;refine qO ?_;(try dsimp only at h);obtain rfl:=qc h;have hn17:(List.map (·.1) ([(j0,(AObj.box 155 (qa.cl q y15.2)))]:List (Nat×AObj))).Nodup:=(List.nodup_cons.2 ⟨(fun h=>by simp at h),List.nodup_nil⟩);have he18:=Fr.eq hF hn17 (List.forall_mem_cons.2 ⟨⟨jl0,(Gx.back X0 hP (hF.lt jl0))⟩,(fun x hx=>absurd hx (by simp))⟩);exact qU (fun _=>rfl) (xr (rs:= #[.cell 2 39]) (cj3 X2.get E2 TT)) ⟨_,hn17,(List.forall_mem_cons.2 ⟨⟨jl0,(ClO.bx (ClL.cons (Cn.cl (Cn.rows qd.cn _) _) (ClL.cons (Cn.cl (.v _) _) (ClL.cons (Cn.cl (.v _) _) (ClL.cons (Cn.cl (.v _) _) (ClL.cons (Cn.cl (.v _) _) (ClL.cons hq.c5 (ClL.cons hq.c6 (ClL.cons hq.c7 (ClL.cons hq.c8 ClL.nil))))))))))⟩,(fun x hx=>absurd hx (by simp))⟩),he18▸hP,_,(.refl _),(.ag (CnL.cons (.v _) (CnL.cons (.v _) (CnL.cons (.v _) (CnL.cons (.v _) (CnL.cons (Expr.cnr _) (CnL.cons (.v _) CnL.nil))))))),hK⟩
   ·refine xf (cj2 E14 hb12) ?_;obtain⟨y19,h20,h4⟩:=qb h4;refine qh (fun e s=>∃τ:Store,Gx s j0 (AObj.box 155 (qa.cl q y19.2))∧C136_0 σ s i2∧Bx σ s i3 85 (qd.cl y1)∧eP e 0 j0∧eP e 2 i2∧eP e 3 i3∧eB e 28 y19.1∧j0≠i2∧j0≠i3∧i2≠i3∧Fr σ τ [j0]∧Pre τ s) ?_ ?_
    ·have q11:=Gx.same X0 (AObj.box 155 (qa.cl q y19.2));have q12:=cj4 E0 X0.get q11.get TT;refine w_x q12 ?_;refine S1 _ _ _ h20 _ _ _ q X0 (hq.le (Fr.gle hF hP)) ?_;refine w_y q12 ?_;exact qf ⟨(List.set τ j0 (some (AObj.box 155 (qa.cl q y19.2)))),q11,(X2.ne N0__2 _),(X3.ne N0__3 _),E0,E2,E3,(xv q12),N0__2,N0__3,N2__3,(hF.set (by simp) (some (AObj.box 155 (qa.cl q y19.2)))),(hP.setp (hF.lt jl0) (some (AObj.box 155 (qa.cl q y19.2))))⟩
    rintro e s ⟨τ,X0,X2,X3,E0,E2,E3,E28,N0__2,N0__3,N2__3,hF,hP⟩
    rcases qj h4 with⟨hb21,h4⟩|⟨hb21,h4⟩
    ·refine xt (cj2 E28 hb21) ?_;obtain⟨y22,h23,h4⟩:=qb h4;refine qh (fun e s=>∃i4:Nat,∃τ:Store,Gx s j0 (AObj.box 155 (qa.cl q y22.2))∧C136_0 σ s i2∧Bx σ s i4 39 (Expr.cl y22.1)∧eP e 0 j0∧eP e 2 i2∧eP e 4 i4∧j0≠i2∧j0≠i4∧i2≠i4∧Fr σ τ [j0]∧Pre τ s) ?_ ?_
     ·have q13:=Gx.same X0 (AObj.box 155 (qa.cl q y22.2));have q14:=cj4 E0 X0.g3 q13.get TT;refine w_x q14 ?_;refine S4 _ _ h23 _ _ _ q X0 (hq.le (Fr.gle hF hP)) ?_;refine w_y q14 ?_;have q15:=X2.ne N0__2 (some (AObj.box 155 (qa.cl q y22.2)));exact qf ⟨(List.set s j0 (some (AObj.box 155 (qa.cl q y22.2)))).length,(List.set τ j0 (some (AObj.box 155 (qa.cl q y22.2)))),(q13.app _),(q15.app _),(Bx.newf (hF.set (by simp) (some (AObj.box 155 (qa.cl q y22.2)))) (hP.setp (hF.lt jl0) (some (AObj.box 155 (qa.cl q y22.2)))) 39 (Expr.cl y22.1)),E0,E2,(xv q14),N0__2,(Nat.ne_of_lt q13.lt),(Nat.ne_of_lt q15.lt),(hF.set (by simp) (some (AObj.box 155 (qa.cl q y22.2)))),((hP.setp (hF.lt jl0) (some (AObj.box 155 (qa.cl q y22.2)))).app _)⟩
     rintro e s ⟨i4,τ,X0,X2,X4,E0,E2,E4,N0__2,N0__4,N2__4,hF,hP⟩
     obtain⟨y24,h25,h4⟩:=qb h4;refine qh (fun e s=>∃τ:Store,Gx s j0 (AObj.box 155 (qa.cl q y24.2))∧C136_0 σ s i2∧Bx σ s i4 39 (Expr.cl y22.1)∧eP e 2 i2∧eP e 4 i4∧j0≠i2∧j0≠i4∧i2≠i4∧Fr σ τ [j0]∧Pre τ s) ?_ ?_
     ·refine w_x (cj4 E0 X0.get X0.samea TT) ?_;refine S3 _ _ _ h25 _ _ _ q X0 (hq.le (Fr.gle hF hP)) ?_;refine w_y (cj4 E0 X0.get X0.samea TT) ?_;exact qf ⟨(List.set τ j0 (some (AObj.box 155 (qa.cl q y24.2)))),(Gx.same X0 _),(X2.ne N0__2 _),(X4.ne N0__4 _),E2,E4,N0__2,N0__4,N2__4,(hF.set (by simp) (some (AObj.box 155 (qa.cl q y24.2)))),(hP.setp (hF.lt jl0) (some (AObj.box 155 (qa.cl q y24.2))))⟩
     rintro e s ⟨τ,X0,X2,X4,E2,E4,N0__2,N0__4,N2__4,hF,hP⟩
     refine qh (fun e s=>∃τ:Store,Gx s j0 (AObj.box 155 (qa.cl q y24.2))∧Bx σ s i2 39 (Expr.cl y22.1)∧eP e 2 i2∧j0≠i2∧Fr σ τ [j0]∧Pre τ s) ?_ ?_
     ·refine w_x (cj7 E2 E4 X2.get X4.get X2.samea (X4.nea N2__4) TT) ?_;exact qf ⟨τ,(X0.ne (Ne.symm N0__2) _),(X2.same _ _),E2,N0__2,hF,(hP.set (hF.ge X2.le) (some (AObj.box 39 (Expr.cl y22.1))))⟩
     rintro e s ⟨τ,X0,X2,E2,N0__2,hF,hP⟩
     refine qo (qx ?_);obtain rfl:=qc h4;refine qO ?_;(try dsimp only at h);obtain rfl:=qc h;have hn26:(List.map (·.1) ([(j0,(AObj.box 155 (qa.cl q y24.2)))]:List (Nat×AObj))).Nodup:=(List.nodup_cons.2 ⟨(fun h=>by simp at h),List.nodup_nil⟩);have he27:=Fr.eq hF hn26 (List.forall_mem_cons.2 ⟨⟨jl0,(Gx.back X0 hP (hF.lt jl0))⟩,(fun x hx=>absurd hx (by simp))⟩);exact qU (fun _=>rfl) (xr (rs:= #[.cell 2 39]) (cj3 X2.get E2 TT)) ⟨_,hn26,(List.forall_mem_cons.2 ⟨⟨jl0,(ClO.bx (ClL.cons (Cn.cl (Cn.rows qd.cn _) _) (ClL.cons (Cn.cl (.v _) _) (ClL.cons (Cn.cl (.v _) _) (ClL.cons (Cn.cl (.v _) _) (ClL.cons (Cn.cl (.v _) _) (ClL.cons hq.c5 (ClL.cons hq.c6 (ClL.cons hq.c7 (ClL.cons hq.c8 ClL.nil))))))))))⟩,(fun x hx=>absurd hx (by simp))⟩),he27▸hP,_,(.refl _),(.ag (CnL.cons (.v _) (CnL.cons (.v _) (CnL.cons (.v _) (CnL.cons (.v _) (CnL.cons (Expr.cnr _) (CnL.cons (.v _) CnL.nil))))))),hK⟩
    ·refine xf (cj2 E28 hb21) (qe (w_x (cj3 E3 X3.get TT) ?_));refine qg ?_;rcases qj h4 with⟨hb28,h4⟩|⟨hb28,h4⟩
     ·refine xt hb28 (qh (fun e s=>∃τ:Store,Gx s j0 (AObj.box 155 [(.sl (List.map qd.cl y19.2.l)),(.v (.int .i64 y19.2.end_)),(.v (.int .i64 (IntKind.i64.wrap (y19.2.pos+(1:Int))))),(.v (.int .i64 y19.2.at_)),(.v (.int .i64 y19.2.e)),q.c5,q.c6,q.c7,q.c8])∧C136_0 σ s i2∧Bx σ s i3 85 (qd.cl y1)∧eP e 0 j0∧eP e 2 i2∧eP e 3 i3∧j0≠i2∧j0≠i3∧i2≠i3∧Fr σ τ [j0]∧Pre τ s) ?_ ?_)
      ·refine w_x (cj4 E0 X0.get X0.samea TT) ?_;exact qf ⟨(List.set τ j0 (some (AObj.box 155 [(.sl (List.map qd.cl y19.2.l)),(.v (.int .i64 y19.2.end_)),(.v (.int .i64 (IntKind.i64.wrap (y19.2.pos+(1:Int))))),(.v (.int .i64 y19.2.at_)),(.v (.int .i64 y19.2.e)),q.c5,q.c6,q.c7,q.c8]))),(Gx.same X0 _),(X2.ne N0__2 _),(X3.ne N0__3 _),E0,E2,E3,N0__2,N0__3,N2__3,(hF.set (by simp) (some (AObj.box 155 [(.sl (List.map qd.cl y19.2.l)),(.v (.int .i64 y19.2.end_)),(.v (.int .i64 (IntKind.i64.wrap (y19.2.pos+(1:Int))))),(.v (.int .i64 y19.2.at_)),(.v (.int .i64 y19.2.e)),q.c5,q.c6,q.c7,q.c8]))),(hP.setp (hF.lt jl0) (some (AObj.box 155 [(.sl (List.map qd.cl y19.2.l)),(.v (.int .i64 y19.2.end_)),(.v (.int .i64 (IntKind.i64.wrap (y19.2.pos+(1:Int))))),(.v (.int .i64 y19.2.at_)),(.v (.int .i64 y19.2.e)),q.c5,q.c6,q.c7,q.c8])))⟩
      rintro e s ⟨τ,X0,X2,X3,E0,E2,E3,N0__2,N0__3,N2__3,hF,hP⟩
      obtain⟨y29,h30,h4⟩:=qb h4;refine qh (fun e s=>∃τ:Store,Gx s j0 (AObj.box 155 (qa.cl q y29.2))∧Bx σ s i2 39 (Expr.cl y29.1)∧eP e 2 i2∧j0≠i2∧Fr σ τ [j0]∧Pre τ s) ?_ ?_
      ·have q16:=Gx.same X0 (AObj.box 155 (qa.cl q y29.2));have q17:=X3.ne N0__3 (some (AObj.box 155 (qa.cl q y29.2)));have q18:=X2.ne N0__2 (some (AObj.box 155 (qa.cl q y29.2)));have q19:=cj13 E0 E2 E3 X0.get X2.get X3.get q16.get q18.get q17.get (q16.ne (Ne.symm N0__2) (some (AObj.box 39 (Expr.cl y29.1)))).get (q18.same 39 (Expr.cl y29.1)).get (q17.ne N2__3 (some (AObj.box 39 (Expr.cl y29.1)))).get TT;refine w_x q19 ?_;refine EC.wka (.cons (.refl _) (.cons (Wk.agl (.cons (.refl _) (.cons (.refl _) (.cons (.refl _) (.cons (.refl _) (.cons .e0 (.cons (.refl _) .nil))))))) .nil)) (S5 _ _ _ h30 _ _ _ q X0 (hq.le (Fr.gle hF hP)) ?_);refine w_y q19 ?_;exact qf ⟨(List.set τ j0 (some (AObj.box 155 (qa.cl q y29.2)))),(q16.ne (Ne.symm N0__2) _),(q18.same _ _),E2,N0__2,(hF.set (by simp) (some (AObj.box 155 (qa.cl q y29.2)))),((hP.setp (hF.lt jl0) (some (AObj.box 155 (qa.cl q y29.2)))).set ((hF.set (by simp) (some (AObj.box 155 (qa.cl q y29.2)))).ge q18.le) (some (AObj.box 39 (Expr.cl y29.1))))⟩
      rintro e s ⟨τ,X0,X2,E2,N0__2,hF,hP⟩
      refine qo (qx ?_);obtain rfl:=qc h4;refine qO ?_;(try dsimp only at h);obtain rfl:=qc h;have hn31:(List.map (·.1) ([(j0,(AObj.box 155 (qa.cl q y29.2)))]:List (Nat×AObj))).Nodup:=(List.nodup_cons.2 ⟨(fun h=>by simp at h),List.nodup_nil⟩);have he32:=Fr.eq hF hn31 (List.forall_mem_cons.2 ⟨⟨jl0,(Gx.back X0 hP (hF.lt jl0))⟩,(fun x hx=>absurd hx (by simp))⟩);exact qU (fun _=>rfl) (xr (rs:= #[.cell 2 39]) (cj3 X2.get E2 TT)) ⟨_,hn31,(List.forall_mem_cons.2 ⟨⟨jl0,(ClO.bx (ClL.cons (Cn.cl (Cn.rows qd.cn _) _) (ClL.cons (Cn.cl (.v _) _) (ClL.cons (Cn.cl (.v _) _) (ClL.cons (Cn.cl (.v _) _) (ClL.cons (Cn.cl (.v _) _) (ClL.cons hq.c5 (ClL.cons hq.c6 (ClL.cons hq.c7 (ClL.cons hq.c8 ClL.nil))))))))))⟩,(fun x hx=>absurd hx (by simp))⟩),he32▸hP,_,(.refl _),(.ag (CnL.cons (.v _) (CnL.cons (.v _) (CnL.cons (.v _) (CnL.cons (.v _) (CnL.cons (Expr.cnr _) (CnL.cons (.v _) CnL.nil))))))),hK⟩
     ·refine xf hb28 (qm (zc ?_));obtain rfl:=qc h4;exact cw_g ((Gh.refl _ _).tr (Gh.box (c':=[(.v (.int .i64 (0:Int))),(.v (.string (⟨#[]⟩:ByteArray))),(.v (.int .i64 (0:Int))),(.v (.int .i64 (0:Int))),(.sl []),(.v (.int .i64 (0:Int)))]) X2.get (.cons (.refl _) (.cons (.refl _) (.cons (.refl _) (.cons (.refl _) (.cons .e0 (.cons (.refl _) .nil)))))))) ⟨_,_,τ,rfl,(X0.ne (Ne.symm N0__2) _),(X2.same _ _),(X3.ne N2__3 _),E0,E2,E3,N0__2,N0__3,N2__3,hF,(hP.set (hF.ge X2.le) _)⟩
 rintro e s ⟨v5,v6,τ,rfl,X0,X2,X3,E0,E2,E3,N0__2,N0__3,N2__3,hF,hP⟩
 (try dsimp only at h);obtain⟨y33,h34,h⟩:=qb h;obtain⟨y35,h36,h⟩:=qb h;refine qh (fun e s=>∃τ:Store,Gx s j0 (AObj.box 155 (qa.cl q y35.2))∧Bx σ s i2 39 (Expr.cl y35.1)∧eP e 2 i2∧j0≠i2∧Fr σ τ [j0]∧Pre τ s) ?_ ?_
 ·have q20:=hget X2.get N0__2;have q21:=hget X3.get N0__3;have q22:=Gx.same X0 (AObj.box 155 (qa.cl q y33.2));have q23:=Gx.same q22 (AObj.box 155 (qa.cl q y35.2));have q24:=X3.ne N0__3 (some (AObj.box 155 (qa.cl q y33.2)));have q25:=X2.ne N0__2 (some (AObj.box 155 (qa.cl q y33.2)));have q26:=cj18 E0 E2 E3 q20 q21 X0.get X2.get X3.get q22.get q25.get q24.get q23.get (q25.ne N0__2 (some (AObj.box 155 (qa.cl q y35.2)))).get (q24.ne N0__3 (some (AObj.box 155 (qa.cl q y35.2)))).get (q23.ne (Ne.symm N0__2) (some (AObj.box 39 (Expr.cl y35.1)))).get ((q25.ne N0__2 (some (AObj.box 155 (qa.cl q y35.2)))).same 39 (Expr.cl y35.1)).get ((q24.ne N0__3 (some (AObj.box 155 (qa.cl q y35.2)))).ne N2__3 (some (AObj.box 39 (Expr.cl y35.1)))).get TT;refine Jn j0 7 0 q26 ?_;refine S2 _ _ h34 _ _ _ q X0 (hq.le (Fr.gle hF hP)) ?_;refine QD q26 ?_;refine Qn q26 ?_;refine EC.wka (.cons (.refl _) (.cons (Wk.agl (.cons (.refl _) (.cons (.refl _) (.cons (.refl _) (.cons (.refl _) (.cons .e0 (.cons (.refl _) .nil))))))) .nil)) (S5 _ _ _ h36 _ _ _ q q22 (hq.le (Fr.gle (hF.set (by simp) (some (AObj.box 155 (qa.cl q y33.2)))) (hP.setp (hF.lt jl0) (some (AObj.box 155 (qa.cl q y33.2)))))) ?_);refine w_y q26 ?_;exact qf ⟨(List.set (List.set τ j0 (some (AObj.box 155 (qa.cl q y33.2)))) j0 (some (AObj.box 155 (qa.cl q y35.2)))),(q23.ne (Ne.symm N0__2) _),((q25.ne N0__2 _).same _ _),E2,N0__2,((hF.set (by simp) (some (AObj.box 155 (qa.cl q y33.2)))).set (by simp) (some (AObj.box 155 (qa.cl q y35.2)))),(((hP.setp (hF.lt jl0) (some (AObj.box 155 (qa.cl q y33.2)))).setp ((hF.set (by simp) (some (AObj.box 155 (qa.cl q y33.2)))).lt jl0) (some (AObj.box 155 (qa.cl q y35.2)))).set (((hF.set (by simp) (some (AObj.box 155 (qa.cl q y33.2)))).set (by simp) (some (AObj.box 155 (qa.cl q y35.2)))).ge q25.le) (some (AObj.box 39 (Expr.cl y35.1))))⟩
 rintro e s ⟨τ,X0,X2,E2,N0__2,hF,hP⟩
 refine qo ?_;obtain rfl:=qc h;have hn37:(List.map (·.1) ([(j0,(AObj.box 155 (qa.cl q y35.2)))]:List (Nat×AObj))).Nodup:=(List.nodup_cons.2 ⟨(fun h=>by simp at h),List.nodup_nil⟩);have he38:=Fr.eq hF hn37 (List.forall_mem_cons.2 ⟨⟨jl0,(Gx.back X0 hP (hF.lt jl0))⟩,(fun x hx=>absurd hx (by simp))⟩);exact qU (fun _=>rfl) (xr (rs:= #[.cell 2 39]) (cj3 X2.get E2 TT)) ⟨_,hn37,(List.forall_mem_cons.2 ⟨⟨jl0,(ClO.bx (ClL.cons (Cn.cl (Cn.rows qd.cn _) _) (ClL.cons (Cn.cl (.v _) _) (ClL.cons (Cn.cl (.v _) _) (ClL.cons (Cn.cl (.v _) _) (ClL.cons (Cn.cl (.v _) _) (ClL.cons hq.c5 (ClL.cons hq.c6 (ClL.cons hq.c7 (ClL.cons hq.c8 ClL.nil))))))))))⟩,(fun x hx=>absurd hx (by simp))⟩),he38▸hP,_,(.refl _),(.ag (CnL.cons (.v _) (CnL.cons (.v _) (CnL.cons (.v _) (CnL.cons (.v _) (CnL.cons (Expr.cnr _) (CnL.cons (.v _) CnL.nil))))))),hK⟩
noncomputable def qY (a1:(List ByteArray))(f1:(List ByteArray)→ByteArray→Option Bool)(f2:qa→Expr→Option (Expr×qa))(f0:qa→Option qd)(f3:qa→Option (Expr×qa)):(qa×Expr)→Option ((qa×Expr)⊕(qa×Expr))
 | (v7, v8) =>
  if(decide (v7.e=(0:Int)))then
   ((f0 v7).bind fun y16=>
   (if(!decide (y16.kind=(3:Int)))then
    some false
   else
    (f1 a1 y16.text).bind fun y18=>
    some (!y18)).bind fun w20=>
   if((!decide (y16.kind=(3:Int)))||w20)then
    some (.inl (v7,v8))
   else
    (f3 (qa.mk v7.l v7.end_ (IntKind.i64.wrap (v7.pos+(1:Int))) v7.at_ v7.e v7.p)).bind fun y25=>
    (f2 y25.2 (Expr.mk (13:Int) y16.text (0:Int) (0:Int) ([v8,y25.1]) y16.at_)).bind fun y27=>
    some (.inr ((qa.mk y27.2.l y27.2.end_ y27.2.pos y27.2.at_ y27.2.e y27.2.p),y27.1)):Option ((qa×Expr)⊕(qa×Expr))).bind fun x=>match x with
   | .inl r=>some (.inr r)
   | .inr (v14, v15) =>
    some (.inl (v14,v15))
  else
   some (.inr (v7,v8))
noncomputable def B_syntax_reader_row_of_one (f0:qa→Option qd)(f1:(List ByteArray)→ByteArray→Option Bool)(f2:qa→Expr→Option (Expr×qa))(f3:qa→Option (Expr×qa))(a0:qa)(a1:(List ByteArray))(a2:Unit):Option (Expr×qa):=
 (f3 a0).bind fun y1=>
 (qA (qY a1 f1 f2 f0 f3) (y1.2,y1.1):Option (qa×Expr)).bind fun(v5,v6)=>
 some (v6,v5)
abbrev C5134_0 (z0 z1:Store)(z2:Nat):Prop:=Bx z0 z1 z2 39 [(.v (.int .i64 (0:Int))),(.v (.string (⟨#[]⟩:ByteArray))),(.v (.int .i64 (0:Int))),(.v (.int .i64 (0:Int))),.e0,(.v (.int .i64 (0:Int)))]
abbrev C5134_1 (z0:Store)(z1:Nat)(z2:Qz)(z3:qa):Prop:=Gx z0 z1 (AObj.box 155 (qa.cl z2 z3))
abbrev C5134_2 (z0:Env)(z1:Nat):Prop:=z0 2=(.fn 136 [(.pt z1 0)] [])
theorem W_syntax_reader_row_of_one (f0 f1 f2 f3)(S0:Sat_syntax_reader_now f0)(S1:Sat_slices_Contains_string f1)(S2:Sat_syntax_reader_made f2)(S3:Sat_syntax_reader_one f3):Sat_syntax_reader_row_of_one (B_syntax_reader_row_of_one f0 f1 f2 f3):=by
 intro a0 a1 a2 r h σ K j0 q H0 hq hK;refine Qw (Q:=fun r s=>∃l:List (Nat×AObj),(l.map (·.1)).Nodup∧(∀x∈l,x.1<σ.length∧ClO σ.length x.2)∧Pq σ l K r s) Try.func134 rfl rfl (by kernel_rfl) (fun _ _ h=>h) ?_;unfold B_syntax_reader_row_of_one at h;have hP:=Pre.refl σ;have jl0:=H0.lt;have hF:=Fr.refl σ [j0];have E0:qu [(.pt j0 0),(.sl (List.map C_s a1)),(.fn 136 [(.pt j0 0)] [])] 0=(.pt j0 0):=rfl;have E1:qu [(.pt j0 0),(.sl (List.map C_s a1)),(.fn 136 [(.pt j0 0)] [])] 1=(.sl (List.map C_s a1)):=rfl;have E2:qu [(.pt j0 0),(.sl (List.map C_s a1)),(.fn 136 [(.pt j0 0)] [])] 2=(.fn 136 [(.pt j0 0)] []):=rfl;have TT:=cj16 Expr.cle Expr.rlen T_153 T_155 T_2 T_27 T_3 T_30 T_37 T_39 T_81 T_85 T_9 T_97 qd.cle qa.cle;refine qh (fun e s=>∃i6:Nat,∃τ:Store,C5134_1 s j0 q a0∧C5134_0 σ s i6∧eP e 0 j0∧eS e 1 C_s a1∧C5134_2 e j0∧eP e 6 i6∧j0≠i6∧Fr σ τ [j0]∧Pre τ s) ?_ ?_
 ·refine w_x (cj2 H0.g3 TT) ?_;exact qf ⟨σ.length,σ,(H0.app [some (AObj.box 39 [(.v (.int .i64 (0:Int))),(.v (.string (⟨#[]⟩:ByteArray))),(.v (.int .i64 (0:Int))),(.v (.int .i64 (0:Int))),.e0,(.v (.int .i64 (0:Int)))])]),(Bx.newf hF hP 39 [(.v (.int .i64 (0:Int))),(.v (.string (⟨#[]⟩:ByteArray))),(.v (.int .i64 (0:Int))),(.v (.int .i64 (0:Int))),.e0,(.v (.int .i64 (0:Int)))]),E0,E1,E2,(xv (cj2 H0.g3 TT)),(Nat.ne_of_lt H0.lt),hF,(hP.app _)⟩
 rintro e s ⟨i6,τ,X0,X6,E0,E1,E2,E6,N0__6,hF,hP⟩
 obtain⟨y1,h2,h⟩:=qb h;refine qh (fun e s=>∃i7:Nat,∃τ:Store,Gx s j0 (AObj.box 155 (qa.cl q y1.2))∧C5134_0 σ s i6∧Bx σ s i7 39 (Expr.cl y1.1)∧eP e 0 j0∧eS e 1 C_s a1∧C5134_2 e j0∧eP e 6 i6∧eP e 7 i7∧j0≠i6∧j0≠i7∧i6≠i7∧Fr σ τ [j0]∧Pre τ s) ?_ ?_
 ·have q1:=Gx.same X0 (AObj.box 155 (qa.cl q y1.2));have q2:=cj4 E2 X0.g3 q1.get TT;refine w_x q2 ?_;refine S3 _ _ h2 _ _ _ q X0 (hq.le (Fr.gle hF hP)) ?_;refine w_y q2 ?_;have q3:=X6.ne N0__6 (some (AObj.box 155 (qa.cl q y1.2)));exact qf ⟨(List.set s j0 (some (AObj.box 155 (qa.cl q y1.2)))).length,(List.set τ j0 (some (AObj.box 155 (qa.cl q y1.2)))),(q1.app _),(q3.app _),(Bx.newf (hF.set (by simp) (some (AObj.box 155 (qa.cl q y1.2)))) (hP.setp (hF.lt jl0) (some (AObj.box 155 (qa.cl q y1.2)))) 39 (Expr.cl y1.1)),E0,E1,E2,E6,(xv q2),N0__6,(Nat.ne_of_lt q1.lt),(Nat.ne_of_lt q3.lt),(hF.set (by simp) (some (AObj.box 155 (qa.cl q y1.2)))),((hP.setp (hF.lt jl0) (some (AObj.box 155 (qa.cl q y1.2)))).app _)⟩
 rintro e s ⟨i7,τ,X0,X6,X7,E0,E1,E2,E6,E7,N0__6,N0__7,N6__7,hF,hP⟩
 obtain⟨x3,h4,h⟩:=qb h;refine qh (fun e s=>∃v5 v6,∃τ:Store,(v5,v6)=x3∧C5134_1 s j0 q v5∧C5134_0 σ s i6∧Bx σ s i7 39 (Expr.cl v6)∧eP e 6 i6∧eP e 7 i7∧j0≠i6∧j0≠i7∧i6≠i7∧Fr σ τ [j0]∧Pre τ s) ?_ ?_
 ·refine qn (qX h4 (fun v e s=>∃v7 v8,∃τ:Store,(v7,v8)=v∧C5134_1 s j0 q v7∧C5134_0 σ s i6∧Bx σ s i7 39 (Expr.cl v8)∧eP e 0 j0∧eS e 1 C_s a1∧C5134_2 e j0∧eP e 6 i6∧eP e 7 i7∧j0≠i6∧j0≠i7∧i6≠i7∧Fr σ τ [j0]∧Pre τ s) ⟨_,WkE.refl _,_,_,τ,rfl,X0,X6,X7,E0,E1,E2,E6,E7,N0__6,N0__7,N6__7,hF,hP⟩ ?_)
  rintro v x9 e s hf10 ⟨v7,v8,τ,rfl,X0,X6,X7,E0,E1,E2,E6,E7,N0__6,N0__7,N6__7,hF,hP⟩
  unfold qY at hf10;(try dsimp only at hf10);refine qk (qe (w_x (cj3 E0 X0.get TT) ?_));refine qg (qe ?_);rcases qj hf10 with⟨hb11,hf10⟩|⟨hb11,hf10⟩
  ·refine xt hb11 (qm (qg ?_));obtain⟨x12,h13,hf10⟩:=qb hf10;refine QE (fun e s=>∃v14:qa,∃v15:Expr,∃τ:Store,.inr (v14,v15)=x12∧C5134_1 s j0 q v14∧C5134_0 σ s i6∧Bx σ s i7 39 (Expr.cl v15)∧eP e 0 j0∧eS e 1 C_s a1∧C5134_2 e j0∧eP e 6 i6∧eP e 7 i7∧j0≠i6∧j0≠i7∧i6≠i7∧Fr σ τ [j0]∧Pre τ s) ?_ ?_
   ·refine qn ?_;obtain⟨y16,h17,h13⟩:=qb h13;refine qh (fun e s=>∃i8:Nat,∃τ:Store,C5134_1 s j0 q v7∧C5134_0 σ s i6∧Bx σ s i7 39 (Expr.cl v8)∧Bx σ s i8 85 (qd.cl y16)∧eP e 0 j0∧eS e 1 C_s a1∧C5134_2 e j0∧eP e 6 i6∧eP e 7 i7∧eP e 8 i8∧j0≠i6∧j0≠i7∧j0≠i8∧i6≠i7∧i6≠i8∧i7≠i8∧Fr σ τ [j0]∧Pre τ s) ?_ ?_
    ·have q4:=cj3 E0 X0.g3 TT;refine w_x q4 ?_;refine S0 _ _ h17 _ _ _ q X0 (hq.le (Fr.gle hF hP)) ?_;refine w_y q4 ?_;exact qf ⟨s.length,τ,(X0.app _),(X6.app _),(X7.app _),(Bx.newf hF hP 85 (qd.cl y16)),E0,E1,E2,E6,E7,(xv q4),N0__6,N0__7,(Nat.ne_of_lt X0.lt),N6__7,(Nat.ne_of_lt X6.lt),(Nat.ne_of_lt X7.lt),hF,(hP.app _)⟩
    rintro e s ⟨i8,τ,X0,X6,X7,X8,E0,E1,E2,E6,E7,E8,N0__6,N0__7,N0__8,N6__7,N6__8,N7__8,hF,hP⟩
    refine qk ?_;obtain⟨w20,h21,h13⟩:=qb h13;refine qh (fun e s=>∃τ:Store,C5134_1 s j0 q v7∧C5134_0 σ s i6∧Bx σ s i7 39 (Expr.cl v8)∧Bx σ s i8 85 (qd.cl y16)∧eP e 0 j0∧eS e 1 C_s a1∧C5134_2 e j0∧eP e 6 i6∧eP e 7 i7∧eP e 8 i8∧eB e 27 ((!decide (y16.kind=(3:Int)))||w20)∧j0≠i6∧j0≠i7∧j0≠i8∧i6≠i7∧i6≠i8∧i7≠i8∧Fr σ τ [j0]∧Pre τ s) ?_ ?_
    ·cases hb22:(!decide (y16.kind=(3:Int)))
     ·replace h21:=zx (by simp only[hb22,Bool.or_true,Bool.true_or,Bool.or_false,Bool.false_or,Bool.and_true,Bool.true_and,Bool.and_false,Bool.false_and,Bool.not_true,Bool.not_false,cond_true,cond_false]) h21;obtain⟨y18,h19,h21⟩:=qb h21;obtain rfl:=qc h21;have q5:=cj5 E1 E8 X8.get hb22 TT;refine w_x q5 ?_;refine S1 _ _ _ h19 _ _ ?_;refine w_y q5 ?_;exact qf ⟨τ,X0,X6,X7,X8,E0,E1,E2,E6,E7,E8,(xv q5),N0__6,N0__7,N0__8,N6__7,N6__8,N7__8,hF,hP⟩
     ·replace h21:=qI (by simp only[hb22,Bool.or_true,Bool.true_or,Bool.or_false,Bool.false_or,Bool.and_true,Bool.true_and,Bool.and_false,Bool.false_and,Bool.not_true,Bool.not_false,cond_true,cond_false]) h21;obtain rfl:=qc h21;refine w_x (cj5 E1 E8 X8.get hb22 TT) ?_;exact qf ⟨τ,X0,X6,X7,X8,E0,E1,E2,E6,E7,E8,(xv (cj5 E1 E8 X8.get hb22 TT)),N0__6,N0__7,N0__8,N6__7,N6__8,N7__8,hF,hP⟩
    rintro e s ⟨τ,X0,X6,X7,X8,E0,E1,E2,E6,E7,E8,E27,N0__6,N0__7,N0__8,N6__7,N6__8,N7__8,hF,hP⟩
    refine qe ?_;rcases qj h13 with⟨hb23,h13⟩|⟨hb23,h13⟩
    ·refine xt (cj2 E27 hb23) (qz (qT (ZY (by decide) ?_)));obtain rfl:=qc h13;refine ct_x ?_;(try dsimp only at hf10);obtain rfl:=qc hf10;refine zo rfl fun hr24=> ?_;obtain rfl:=hr24;exact qG (qf ⟨_,_,τ,rfl,X0,X6,X7,E6,E7,N0__6,N0__7,N6__7,hF,hP⟩)
    ·refine xf (cj2 E27 hb23) (qm (qg (qh (fun e s=>∃τ:Store,Gx s j0 (AObj.box 155 [(.sl (List.map qd.cl v7.l)),(.v (.int .i64 v7.end_)),(.v (.int .i64 (IntKind.i64.wrap (v7.pos+(1:Int))))),(.v (.int .i64 v7.at_)),(.v (.int .i64 v7.e)),q.c5,q.c6,q.c7,q.c8])∧C5134_0 σ s i6∧Bx σ s i7 39 (Expr.cl v8)∧Bx σ s i8 85 (qd.cl y16)∧eP e 0 j0∧eS e 1 C_s a1∧C5134_2 e j0∧eP e 6 i6∧eP e 7 i7∧eP e 8 i8∧j0≠i6∧j0≠i7∧j0≠i8∧i6≠i7∧i6≠i8∧i7≠i8∧Fr σ τ [j0]∧Pre τ s) ?_ ?_)))
     ·refine w_x (cj4 E0 X0.get X0.samea TT) ?_;exact qf ⟨(List.set τ j0 (some (AObj.box 155 [(.sl (List.map qd.cl v7.l)),(.v (.int .i64 v7.end_)),(.v (.int .i64 (IntKind.i64.wrap (v7.pos+(1:Int))))),(.v (.int .i64 v7.at_)),(.v (.int .i64 v7.e)),q.c5,q.c6,q.c7,q.c8]))),(Gx.same X0 _),(X6.ne N0__6 _),(X7.ne N0__7 _),(X8.ne N0__8 _),E0,E1,E2,E6,E7,E8,N0__6,N0__7,N0__8,N6__7,N6__8,N7__8,(hF.set (by simp) (some (AObj.box 155 [(.sl (List.map qd.cl v7.l)),(.v (.int .i64 v7.end_)),(.v (.int .i64 (IntKind.i64.wrap (v7.pos+(1:Int))))),(.v (.int .i64 v7.at_)),(.v (.int .i64 v7.e)),q.c5,q.c6,q.c7,q.c8]))),(hP.setp (hF.lt jl0) (some (AObj.box 155 [(.sl (List.map qd.cl v7.l)),(.v (.int .i64 v7.end_)),(.v (.int .i64 (IntKind.i64.wrap (v7.pos+(1:Int))))),(.v (.int .i64 v7.at_)),(.v (.int .i64 v7.e)),q.c5,q.c6,q.c7,q.c8])))⟩
     rintro e s ⟨τ,X0,X6,X7,X8,E0,E1,E2,E6,E7,E8,N0__6,N0__7,N0__8,N6__7,N6__8,N7__8,hF,hP⟩
     obtain⟨y25,h26,h13⟩:=qb h13;obtain⟨y27,h28,h13⟩:=qb h13;have q6:=hget X7.get N0__7;have q7:=hget X8.get N0__8;have q8:=Gx.same X0 (AObj.box 155 (qa.cl q y25.2));have q9:=Gx.same q8 (AObj.box 155 (qa.cl q y27.2));have q10:=X7.ne N0__7 (some (AObj.box 155 (qa.cl q y25.2)));have q11:=X8.ne N0__8 (some (AObj.box 155 (qa.cl q y25.2)));have q12:=cj19 E0 E2 E7 E8 q6 q7 X0.get X7.get X8.get q8.get q10.get q11.get q9.get (q10.ne N0__7 (some (AObj.box 155 (qa.cl q y27.2)))).get (q11.ne N0__8 (some (AObj.box 155 (qa.cl q y27.2)))).get (q9.ne (Ne.symm N0__7) (some (AObj.box 39 (Expr.cl y27.1)))).get ((q10.ne N0__7 (some (AObj.box 155 (qa.cl q y27.2)))).same 39 (Expr.cl y27.1)).get ((q11.ne N0__8 (some (AObj.box 155 (qa.cl q y27.2)))).ne N7__8 (some (AObj.box 39 (Expr.cl y27.1)))).get TT;refine Jn j0 10 0 q12 ?_;refine S3 _ _ h26 _ _ _ q X0 (hq.le (Fr.gle hF hP)) ?_;refine QD q12 ?_;refine Qn q12 ?_;refine EC.wka (.cons (.refl _) (.cons (Wk.agl (.cons (.refl _) (.cons (.refl _) (.cons (.refl _) (.cons (.refl _) (.cons (Wk.of_eq (by rw[Expr.rows_eq ([v8,y25.1])];rfl)) (.cons (.refl _) .nil))))))) .nil)) (S2 _ _ _ h28 _ _ _ q q8 (hq.le (Fr.gle (hF.set (by simp) (some (AObj.box 155 (qa.cl q y25.2)))) (hP.setp (hF.lt jl0) (some (AObj.box 155 (qa.cl q y25.2)))))) ?_);refine w_y q12 ?_;refine zc ?_;obtain rfl:=qc h13;exact zr ⟨_,_,(List.set (List.set τ j0 (some (AObj.box 155 (qa.cl q y25.2)))) j0 (some (AObj.box 155 (qa.cl q y27.2)))),rfl,(q9.ne (Ne.symm N0__7) _),(((X6.ne N0__6 _).ne N0__6 _).ne (Ne.symm N6__7) _),((q10.ne N0__7 _).same _ _),E0,E1,E2,E6,E7,N0__6,N0__7,N6__7,((hF.set (by simp) (some (AObj.box 155 (qa.cl q y25.2)))).set (by simp) (some (AObj.box 155 (qa.cl q y27.2)))),(((hP.setp (hF.lt jl0) (some (AObj.box 155 (qa.cl q y25.2)))).setp ((hF.set (by simp) (some (AObj.box 155 (qa.cl q y25.2)))).lt jl0) (some (AObj.box 155 (qa.cl q y27.2)))).set (((hF.set (by simp) (some (AObj.box 155 (qa.cl q y25.2)))).set (by simp) (some (AObj.box 155 (qa.cl q y27.2)))).ge q10.le) (some (AObj.box 39 (Expr.cl y27.1))))⟩
   rintro e s ⟨v14,v15,τ,rfl,X0,X6,X7,E0,E1,E2,E6,E7,N0__6,N0__7,N6__7,hF,hP⟩
   (try dsimp only at hf10);obtain rfl:=qc hf10;exact zK rfl ⟨_,_,τ,rfl,X0,X6,X7,E0,E1,E2,E6,E7,N0__6,N0__7,N6__7,hF,hP⟩
  ·refine xf hb11 (qz (qT ?_));obtain rfl:=qc hf10;refine zo rfl fun hr29=> ?_;obtain rfl:=hr29;exact qG (qf ⟨_,_,τ,rfl,X0,X6,X7,E6,E7,N0__6,N0__7,N6__7,hF,hP⟩)
 rintro e s ⟨v5,v6,τ,rfl,X0,X6,X7,E6,E7,N0__6,N0__7,N6__7,hF,hP⟩
 (try dsimp only at h);refine qh (fun e s=>∃τ:Store,C5134_1 s j0 q v5∧Bx σ s i6 39 (Expr.cl v6)∧eP e 6 i6∧j0≠i6∧Fr σ τ [j0]∧Pre τ s) ?_ ?_
 ·refine w_x (cj7 E6 E7 X6.get X7.get X6.samea (X7.nea N6__7) TT) ?_;exact qf ⟨τ,(X0.ne (Ne.symm N0__6) _),(X6.same _ _),E6,N0__6,hF,(hP.set (hF.ge X6.le) (some (AObj.box 39 (Expr.cl v6))))⟩
 rintro e s ⟨τ,X0,X6,E6,N0__6,hF,hP⟩
 refine qo ?_;obtain rfl:=qc h;have hn30:(List.map (·.1) ([(j0,(AObj.box 155 (qa.cl q v5)))]:List (Nat×AObj))).Nodup:=(List.nodup_cons.2 ⟨(fun h=>by simp at h),List.nodup_nil⟩);have he31:=Fr.eq hF hn30 (List.forall_mem_cons.2 ⟨⟨jl0,(Gx.back X0 hP (hF.lt jl0))⟩,(fun x hx=>absurd hx (by simp))⟩);exact qU (fun _=>rfl) (xr (rs:= #[.cell 6 39]) (cj3 X6.get E6 TT)) ⟨_,hn30,(List.forall_mem_cons.2 ⟨⟨jl0,(ClO.bx (ClL.cons (Cn.cl (Cn.rows qd.cn _) _) (ClL.cons (Cn.cl (.v _) _) (ClL.cons (Cn.cl (.v _) _) (ClL.cons (Cn.cl (.v _) _) (ClL.cons (Cn.cl (.v _) _) (ClL.cons hq.c5 (ClL.cons hq.c6 (ClL.cons hq.c7 (ClL.cons hq.c8 ClL.nil))))))))))⟩,(fun x hx=>absurd hx (by simp))⟩),he31▸hP,_,(.refl _),(.ag (CnL.cons (.v _) (CnL.cons (.v _) (CnL.cons (.v _) (CnL.cons (.v _) (CnL.cons (Expr.cnr _) (CnL.cons (.v _) CnL.nil))))))),hK⟩
def ZN:(List ByteArray):=[(⟨#[42]⟩:ByteArray),(⟨#[47]⟩:ByteArray),(⟨#[37]⟩:ByteArray)]
noncomputable def B_syntax_reader_sum_c1 (f0:qa→(List ByteArray)→Unit→Option (Expr×qa))(a0:qa):Option (Expr×qa):=
 (f0 a0 ZN ()).bind fun y1=>
 some (y1.1,y1.2)
theorem W_syntax_reader_sum_c1 (f0)(S0:Sat_syntax_reader_row_of_one f0):Sat_syntax_reader_sum_c1 (B_syntax_reader_sum_c1 f0):=by
 intro a0 r h σ K j0 j0_900 q H0 H0_900 N0__0_900 hq hK;refine Qw (Q:=fun r s=>∃l:List (Nat×AObj),(l.map (·.1)).Nodup∧(∀x∈l,x.1<σ.length∧ClO σ.length x.2)∧Pq σ l K r s) Try.func135 rfl rfl (by kernel_rfl) (fun _ _ h=>h) ?_;unfold B_syntax_reader_sum_c1 at h;have hP:=Pre.refl σ;have jl0:=H0.lt;have jl0_900:=H0_900.lt;have hF:=Fr.refl σ [j0_900];have E0:qu [(.pt j0 0)] 0=(.pt j0 0):=rfl;have TT:=cj11 Expr.cle Expr.rlen T_153 T_184 T_2 T_3 T_37 T_39 T_9 T_97 qa.cle;refine qh (fun e s=>∃i1:Nat,∃τ:Store,Gx s j0 (AObj.box 153 [(.pt j0_900 0)])∧Gx s j0_900 (AObj.box 155 (qa.cl q a0))∧Bx σ s i1 39 [(.v (.int .i64 (0:Int))),(.v (.string (⟨#[]⟩:ByteArray))),(.v (.int .i64 (0:Int))),(.v (.int .i64 (0:Int))),.e0,(.v (.int .i64 (0:Int)))]∧eP e 0 j0∧eP e 1 i1∧j0≠j0_900∧j0≠i1∧j0_900≠i1∧Fr σ τ [j0_900]∧Pre τ s) ?_ ?_
 ·refine w_x (cj3 H0.g3 H0_900.g3 TT) ?_;exact qf ⟨σ.length,σ,(H0.app [some (AObj.box 39 [(.v (.int .i64 (0:Int))),(.v (.string (⟨#[]⟩:ByteArray))),(.v (.int .i64 (0:Int))),(.v (.int .i64 (0:Int))),.e0,(.v (.int .i64 (0:Int)))])]),(H0_900.app [some (AObj.box 39 [(.v (.int .i64 (0:Int))),(.v (.string (⟨#[]⟩:ByteArray))),(.v (.int .i64 (0:Int))),(.v (.int .i64 (0:Int))),.e0,(.v (.int .i64 (0:Int)))])]),(Bx.newf hF hP 39 [(.v (.int .i64 (0:Int))),(.v (.string (⟨#[]⟩:ByteArray))),(.v (.int .i64 (0:Int))),(.v (.int .i64 (0:Int))),.e0,(.v (.int .i64 (0:Int)))]),E0,(xv (cj3 H0.g3 H0_900.g3 TT)),N0__0_900,(Nat.ne_of_lt H0.lt),(Nat.ne_of_lt H0_900.lt),hF,(hP.app _)⟩
 rintro e s ⟨i1,τ,X0,X0_900,X1,E0,E1,N0__0_900,N0__1,N0_900__1,hF,hP⟩
 obtain⟨y1,h2,h⟩:=qb h;refine qh (fun e s=>∃τ:Store,Gx s j0 (AObj.box 153 [(.pt j0_900 0)])∧Gx s j0_900 (AObj.box 155 (qa.cl q y1.2))∧Bx σ s i1 39 (Expr.cl y1.1)∧eP e 1 i1∧j0≠j0_900∧j0≠i1∧j0_900≠i1∧Fr σ τ [j0_900]∧Pre τ s) ?_ ?_
 ·have q1:=Gx.same X0_900 (AObj.box 155 (qa.cl q y1.2));have q2:=X1.ne N0_900__1 (some (AObj.box 155 (qa.cl q y1.2)));have q3:=X0.ne (Ne.symm N0__0_900) (some (AObj.box 155 (qa.cl q y1.2)));have q4:=ZD E0 E1 X0.get X0_900.get X1.get q3.get q1.get q2.get (q3.ne (Ne.symm N0__1) (some (AObj.box 39 (Expr.cl y1.1)))).get (q1.ne (Ne.symm N0_900__1) (some (AObj.box 39 (Expr.cl y1.1)))).get (q2.same 39 (Expr.cl y1.1)).get TT;refine w_x q4 ?_;refine EC.wka (.cons (.refl _) (.cons (Wk.of_eq rfl) (.cons (.refl _) .nil))) (S0 _ _ _ _ h2 _ _ _ q X0_900 (hq.le (Fr.gle hF hP)) ?_);refine w_y q4 ?_;exact qf ⟨(List.set τ j0_900 (some (AObj.box 155 (qa.cl q y1.2)))),(q3.ne (Ne.symm N0__1) _),(q1.ne (Ne.symm N0_900__1) _),(q2.same _ _),E1,N0__0_900,N0__1,N0_900__1,(hF.set (by simp) (some (AObj.box 155 (qa.cl q y1.2)))),((hP.setp (hF.lt jl0_900) (some (AObj.box 155 (qa.cl q y1.2)))).set ((hF.set (by simp) (some (AObj.box 155 (qa.cl q y1.2)))).ge q2.le) (some (AObj.box 39 (Expr.cl y1.1))))⟩
 rintro e s ⟨τ,X0,X0_900,X1,E1,N0__0_900,N0__1,N0_900__1,hF,hP⟩
 refine qo ?_;obtain rfl:=qc h;have hn3:(List.map (·.1) ([(j0_900,(AObj.box 155 (qa.cl q y1.2)))]:List (Nat×AObj))).Nodup:=(List.nodup_cons.2 ⟨(fun h=>by simp at h),List.nodup_nil⟩);have he4:=Fr.eq hF hn3 (List.forall_mem_cons.2 ⟨⟨jl0_900,(Gx.back X0_900 hP (hF.lt jl0_900))⟩,(fun x hx=>absurd hx (by simp))⟩);exact qU (fun _=>rfl) (xr (rs:= #[.cell 1 39]) (cj3 X1.get E1 TT)) ⟨_,hn3,(List.forall_mem_cons.2 ⟨⟨jl0_900,(ClO.bx (ClL.cons (Cn.cl (Cn.rows qd.cn _) _) (ClL.cons (Cn.cl (.v _) _) (ClL.cons (Cn.cl (.v _) _) (ClL.cons (Cn.cl (.v _) _) (ClL.cons (Cn.cl (.v _) _) (ClL.cons hq.c5 (ClL.cons hq.c6 (ClL.cons hq.c7 (ClL.cons hq.c8 ClL.nil))))))))))⟩,(fun x hx=>absurd hx (by simp))⟩),he4▸hP,_,(.refl _),(.ag (CnL.cons (.v _) (CnL.cons (.v _) (CnL.cons (.v _) (CnL.cons (.v _) (CnL.cons (Expr.cnr _) (CnL.cons (.v _) CnL.nil))))))),hK⟩
noncomputable def QF (a1:(List ByteArray))(f1:(List ByteArray)→ByteArray→Option Bool)(f2:qa→Expr→Option (Expr×qa))(f0:qa→Option qd)(f3:qa→Option (Expr×qa)):(qa×Expr)→Option ((qa×Expr)⊕(qa×Expr))
 | (v7, v8) =>
  if(decide (v7.e=(0:Int)))then
   ((f0 v7).bind fun y16=>
   (if(!decide (y16.kind=(3:Int)))then
    some false
   else
    (f1 a1 y16.text).bind fun y18=>
    some (!y18)).bind fun w20=>
   if((!decide (y16.kind=(3:Int)))||w20)then
    some (.inl (v7,v8))
   else
    (f3 (qa.mk v7.l v7.end_ (IntKind.i64.wrap (v7.pos+(1:Int))) v7.at_ v7.e v7.p)).bind fun y25=>
    (f2 y25.2 (Expr.mk (13:Int) y16.text (0:Int) (0:Int) ([v8,y25.1]) y16.at_)).bind fun y27=>
    some (.inr ((qa.mk y27.2.l y27.2.end_ y27.2.pos y27.2.at_ y27.2.e y27.2.p),y27.1)):Option ((qa×Expr)⊕(qa×Expr))).bind fun x=>match x with
   | .inl r=>some (.inr r)
   | .inr (v14, v15) =>
    some (.inl (v14,v15))
  else
   some (.inr (v7,v8))
noncomputable def B_syntax_reader_row_of_sum_c1 (f0:qa→Option qd)(f1:(List ByteArray)→ByteArray→Option Bool)(f2:qa→Expr→Option (Expr×qa))(f3:qa→Option (Expr×qa))(a0:qa)(a1:(List ByteArray))(a2:Unit):Option (Expr×qa):=
 (f3 a0).bind fun y1=>
 (qA (QF a1 f1 f2 f0 f3) (y1.2,y1.1):Option (qa×Expr)).bind fun(v5,v6)=>
 some (v6,v5)
abbrev C4134_0 (z0 z1:Store)(z2:Nat):Prop:=Bx z0 z1 z2 39 [(.v (.int .i64 (0:Int))),(.v (.string (⟨#[]⟩:ByteArray))),(.v (.int .i64 (0:Int))),(.v (.int .i64 (0:Int))),.e0,(.v (.int .i64 (0:Int)))]
abbrev C4134_1 (z0:Store)(z1 z2:Nat):Prop:=Gx z0 z1 (AObj.box 153 [(.pt z2 0)])
abbrev C4134_2 (z0:Store)(z1:Nat)(z2:Qz)(z3:qa):Prop:=Gx z0 z1 (AObj.box 155 (qa.cl z2 z3))
abbrev C4134_3 (z0:Env)(z1:Nat):Prop:=z0 2=(.fn 135 [] [(.pt z1 0)])
theorem W_syntax_reader_row_of_sum_c1 (f0 f1 f2 f3)(S0:Sat_syntax_reader_now f0)(S1:Sat_slices_Contains_string f1)(S2:Sat_syntax_reader_made f2)(S3:Sat_syntax_reader_sum_c1 f3):Sat_syntax_reader_row_of_sum_c1 (B_syntax_reader_row_of_sum_c1 f0 f1 f2 f3):=by
 intro a0 a1 a2 r h σ K j0 j2_910 q H0 H2_910 N0__2_910 hq hK;refine Qw (Q:=fun r s=>∃l:List (Nat×AObj),(l.map (·.1)).Nodup∧(∀x∈l,x.1<σ.length∧ClO σ.length x.2)∧Pq σ l K r s) Try.func134 rfl rfl (by kernel_rfl) (fun _ _ h=>h) ?_;unfold B_syntax_reader_row_of_sum_c1 at h;have hP:=Pre.refl σ;have jl0:=H0.lt;have jl2_910:=H2_910.lt;have hF:=Fr.refl σ [j0];have E0:qu [(.pt j0 0),(.sl (List.map C_s a1)),(.fn 135 [] [(.pt j2_910 0)])] 0=(.pt j0 0):=rfl;have E1:qu [(.pt j0 0),(.sl (List.map C_s a1)),(.fn 135 [] [(.pt j2_910 0)])] 1=(.sl (List.map C_s a1)):=rfl;have E2:qu [(.pt j0 0),(.sl (List.map C_s a1)),(.fn 135 [] [(.pt j2_910 0)])] 2=(.fn 135 [] [(.pt j2_910 0)]):=rfl;have TT:=cj16 Expr.cle Expr.rlen T_153 T_155 T_2 T_27 T_3 T_30 T_37 T_39 T_81 T_85 T_9 T_97 qd.cle qa.cle;refine qh (fun e s=>∃i6:Nat,∃τ:Store,C4134_2 s j0 q a0∧C4134_1 s j2_910 j0∧C4134_0 σ s i6∧eP e 0 j0∧eS e 1 C_s a1∧C4134_3 e j2_910∧eP e 6 i6∧j0≠j2_910∧j0≠i6∧j2_910≠i6∧Fr σ τ [j0]∧Pre τ s) ?_ ?_
 ·refine w_x (cj3 H0.g3 H2_910.g3 TT) ?_;exact qf ⟨σ.length,σ,(H0.app [some (AObj.box 39 [(.v (.int .i64 (0:Int))),(.v (.string (⟨#[]⟩:ByteArray))),(.v (.int .i64 (0:Int))),(.v (.int .i64 (0:Int))),.e0,(.v (.int .i64 (0:Int)))])]),(H2_910.app [some (AObj.box 39 [(.v (.int .i64 (0:Int))),(.v (.string (⟨#[]⟩:ByteArray))),(.v (.int .i64 (0:Int))),(.v (.int .i64 (0:Int))),.e0,(.v (.int .i64 (0:Int)))])]),(Bx.newf hF hP 39 [(.v (.int .i64 (0:Int))),(.v (.string (⟨#[]⟩:ByteArray))),(.v (.int .i64 (0:Int))),(.v (.int .i64 (0:Int))),.e0,(.v (.int .i64 (0:Int)))]),E0,E1,E2,(xv (cj3 H0.g3 H2_910.g3 TT)),N0__2_910,(Nat.ne_of_lt H0.lt),(Nat.ne_of_lt H2_910.lt),hF,(hP.app _)⟩
 rintro e s ⟨i6,τ,X0,X2_910,X6,E0,E1,E2,E6,N0__2_910,N0__6,N2_910__6,hF,hP⟩
 obtain⟨y1,h2,h⟩:=qb h;refine qh (fun e s=>∃i7:Nat,∃τ:Store,Gx s j0 (AObj.box 155 (qa.cl q y1.2))∧C4134_1 s j2_910 j0∧C4134_0 σ s i6∧Bx σ s i7 39 (Expr.cl y1.1)∧eP e 0 j0∧eS e 1 C_s a1∧C4134_3 e j2_910∧eP e 6 i6∧eP e 7 i7∧j0≠j2_910∧j0≠i6∧j0≠i7∧j2_910≠i6∧j2_910≠i7∧i6≠i7∧Fr σ τ [j0]∧Pre τ s) ?_ ?_
 ·have q1:=Gx.same X0 (AObj.box 155 (qa.cl q y1.2));have q3:=X2_910.ne N0__2_910 (some (AObj.box 155 (qa.cl q y1.2)));have q4:=cj6 E2 X0.g3 X2_910.g3 q1.get q3.get TT;refine w_x q4 ?_;refine S3 _ _ h2 _ _ _ _ q X2_910 X0 (Ne.symm N0__2_910) (hq.le (Fr.gle hF hP)) ?_;refine w_y q4 ?_;have q2:=X6.ne N0__6 (some (AObj.box 155 (qa.cl q y1.2)));exact qf ⟨(List.set s j0 (some (AObj.box 155 (qa.cl q y1.2)))).length,(List.set τ j0 (some (AObj.box 155 (qa.cl q y1.2)))),(q1.app _),(q3.app _),(q2.app _),(Bx.newf (hF.set (by simp) (some (AObj.box 155 (qa.cl q y1.2)))) (hP.setp (hF.lt jl0) (some (AObj.box 155 (qa.cl q y1.2)))) 39 (Expr.cl y1.1)),E0,E1,E2,E6,(xv q4),N0__2_910,N0__6,(Nat.ne_of_lt q1.lt),N2_910__6,(Nat.ne_of_lt q3.lt),(Nat.ne_of_lt q2.lt),(hF.set (by simp) (some (AObj.box 155 (qa.cl q y1.2)))),((hP.setp (hF.lt jl0) (some (AObj.box 155 (qa.cl q y1.2)))).app _)⟩
 rintro e s ⟨i7,τ,X0,X2_910,X6,X7,E0,E1,E2,E6,E7,N0__2_910,N0__6,N0__7,N2_910__6,N2_910__7,N6__7,hF,hP⟩
 obtain⟨x3,h4,h⟩:=qb h;refine qh (fun e s=>∃v5 v6,∃τ:Store,(v5,v6)=x3∧C4134_2 s j0 q v5∧C4134_1 s j2_910 j0∧C4134_0 σ s i6∧Bx σ s i7 39 (Expr.cl v6)∧eP e 6 i6∧eP e 7 i7∧j0≠j2_910∧j0≠i6∧j0≠i7∧j2_910≠i6∧j2_910≠i7∧i6≠i7∧Fr σ τ [j0]∧Pre τ s) ?_ ?_
 ·refine qn (qX h4 (fun v e s=>∃v7 v8,∃τ:Store,(v7,v8)=v∧C4134_2 s j0 q v7∧C4134_1 s j2_910 j0∧C4134_0 σ s i6∧Bx σ s i7 39 (Expr.cl v8)∧eP e 0 j0∧eS e 1 C_s a1∧C4134_3 e j2_910∧eP e 6 i6∧eP e 7 i7∧j0≠j2_910∧j0≠i6∧j0≠i7∧j2_910≠i6∧j2_910≠i7∧i6≠i7∧Fr σ τ [j0]∧Pre τ s) ⟨_,WkE.refl _,_,_,τ,rfl,X0,X2_910,X6,X7,E0,E1,E2,E6,E7,N0__2_910,N0__6,N0__7,N2_910__6,N2_910__7,N6__7,hF,hP⟩ ?_)
  rintro v x9 e s hf10 ⟨v7,v8,τ,rfl,X0,X2_910,X6,X7,E0,E1,E2,E6,E7,N0__2_910,N0__6,N0__7,N2_910__6,N2_910__7,N6__7,hF,hP⟩
  unfold QF at hf10;(try dsimp only at hf10);refine qk (qe (w_x (cj3 E0 X0.get TT) ?_));refine qg (qe ?_);rcases qj hf10 with⟨hb11,hf10⟩|⟨hb11,hf10⟩
  ·refine xt hb11 (qm (qg ?_));obtain⟨x12,h13,hf10⟩:=qb hf10;refine QE (fun e s=>∃v14:qa,∃v15:Expr,∃τ:Store,.inr (v14,v15)=x12∧C4134_2 s j0 q v14∧C4134_1 s j2_910 j0∧C4134_0 σ s i6∧Bx σ s i7 39 (Expr.cl v15)∧eP e 0 j0∧eS e 1 C_s a1∧C4134_3 e j2_910∧eP e 6 i6∧eP e 7 i7∧j0≠j2_910∧j0≠i6∧j0≠i7∧j2_910≠i6∧j2_910≠i7∧i6≠i7∧Fr σ τ [j0]∧Pre τ s) ?_ ?_
   ·refine qn ?_;obtain⟨y16,h17,h13⟩:=qb h13;refine qh (fun e s=>∃i8:Nat,∃τ:Store,C4134_2 s j0 q v7∧C4134_1 s j2_910 j0∧C4134_0 σ s i6∧Bx σ s i7 39 (Expr.cl v8)∧Bx σ s i8 85 (qd.cl y16)∧eP e 0 j0∧eS e 1 C_s a1∧C4134_3 e j2_910∧eP e 6 i6∧eP e 7 i7∧eP e 8 i8∧j0≠j2_910∧j0≠i6∧j0≠i7∧j0≠i8∧j2_910≠i6∧j2_910≠i7∧i6≠i7∧i6≠i8∧i7≠i8∧Fr σ τ [j0]∧Pre τ s) ?_ ?_
    ·have q5:=cj3 E0 X0.g3 TT;refine w_x q5 ?_;refine S0 _ _ h17 _ _ _ q X0 (hq.le (Fr.gle hF hP)) ?_;refine w_y q5 ?_;exact qf ⟨s.length,τ,(X0.app _),(X2_910.app _),(X6.app _),(X7.app _),(Bx.newf hF hP 85 (qd.cl y16)),E0,E1,E2,E6,E7,(xv q5),N0__2_910,N0__6,N0__7,(Nat.ne_of_lt X0.lt),N2_910__6,N2_910__7,N6__7,(Nat.ne_of_lt X6.lt),(Nat.ne_of_lt X7.lt),hF,(hP.app _)⟩
    rintro e s ⟨i8,τ,X0,X2_910,X6,X7,X8,E0,E1,E2,E6,E7,E8,N0__2_910,N0__6,N0__7,N0__8,N2_910__6,N2_910__7,N6__7,N6__8,N7__8,hF,hP⟩
    refine qk ?_;obtain⟨w20,h21,h13⟩:=qb h13;refine qh (fun e s=>∃τ:Store,C4134_2 s j0 q v7∧C4134_1 s j2_910 j0∧C4134_0 σ s i6∧Bx σ s i7 39 (Expr.cl v8)∧Bx σ s i8 85 (qd.cl y16)∧eP e 0 j0∧eS e 1 C_s a1∧C4134_3 e j2_910∧eP e 6 i6∧eP e 7 i7∧eP e 8 i8∧eB e 27 ((!decide (y16.kind=(3:Int)))||w20)∧j0≠j2_910∧j0≠i6∧j0≠i7∧j0≠i8∧j2_910≠i6∧j2_910≠i7∧i6≠i7∧i6≠i8∧i7≠i8∧Fr σ τ [j0]∧Pre τ s) ?_ ?_
    ·cases hb22:(!decide (y16.kind=(3:Int)))
     ·replace h21:=zx (by simp only[hb22,Bool.or_true,Bool.true_or,Bool.or_false,Bool.false_or,Bool.and_true,Bool.true_and,Bool.and_false,Bool.false_and,Bool.not_true,Bool.not_false,cond_true,cond_false]) h21;obtain⟨y18,h19,h21⟩:=qb h21;obtain rfl:=qc h21;have q6:=cj5 E1 E8 X8.get hb22 TT;refine w_x q6 ?_;refine S1 _ _ _ h19 _ _ ?_;refine w_y q6 ?_;exact qf ⟨τ,X0,X2_910,X6,X7,X8,E0,E1,E2,E6,E7,E8,(xv q6),N0__2_910,N0__6,N0__7,N0__8,N2_910__6,N2_910__7,N6__7,N6__8,N7__8,hF,hP⟩
     ·replace h21:=qI (by simp only[hb22,Bool.or_true,Bool.true_or,Bool.or_false,Bool.false_or,Bool.and_true,Bool.true_and,Bool.and_false,Bool.false_and,Bool.not_true,Bool.not_false,cond_true,cond_false]) h21;obtain rfl:=qc h21;refine w_x (cj5 E1 E8 X8.get hb22 TT) ?_;exact qf ⟨τ,X0,X2_910,X6,X7,X8,E0,E1,E2,E6,E7,E8,(xv (cj5 E1 E8 X8.get hb22 TT)),N0__2_910,N0__6,N0__7,N0__8,N2_910__6,N2_910__7,N6__7,N6__8,N7__8,hF,hP⟩
    rintro e s ⟨τ,X0,X2_910,X6,X7,X8,E0,E1,E2,E6,E7,E8,E27,N0__2_910,N0__6,N0__7,N0__8,N2_910__6,N2_910__7,N6__7,N6__8,N7__8,hF,hP⟩
    refine qe ?_;rcases qj h13 with⟨hb23,h13⟩|⟨hb23,h13⟩
    ·refine xt (cj2 E27 hb23) (qz (qT (ZY (by decide) ?_)));obtain rfl:=qc h13;refine ct_x ?_;(try dsimp only at hf10);obtain rfl:=qc hf10;refine zo rfl fun hr24=> ?_;obtain rfl:=hr24;exact qG (qf ⟨_,_,τ,rfl,X0,X2_910,X6,X7,E6,E7,N0__2_910,N0__6,N0__7,N2_910__6,N2_910__7,N6__7,hF,hP⟩)
    ·refine xf (cj2 E27 hb23) (qm (qg (qh (fun e s=>∃τ:Store,Gx s j0 (AObj.box 155 [(.sl (List.map qd.cl v7.l)),(.v (.int .i64 v7.end_)),(.v (.int .i64 (IntKind.i64.wrap (v7.pos+(1:Int))))),(.v (.int .i64 v7.at_)),(.v (.int .i64 v7.e)),q.c5,q.c6,q.c7,q.c8])∧C4134_1 s j2_910 j0∧C4134_0 σ s i6∧Bx σ s i7 39 (Expr.cl v8)∧Bx σ s i8 85 (qd.cl y16)∧eP e 0 j0∧eS e 1 C_s a1∧C4134_3 e j2_910∧eP e 6 i6∧eP e 7 i7∧eP e 8 i8∧j0≠j2_910∧j0≠i6∧j0≠i7∧j0≠i8∧j2_910≠i6∧j2_910≠i7∧i6≠i7∧i6≠i8∧i7≠i8∧Fr σ τ [j0]∧Pre τ s) ?_ ?_)))
     ·refine w_x (cj4 E0 X0.get X0.samea TT) ?_;exact qf ⟨(List.set τ j0 (some (AObj.box 155 [(.sl (List.map qd.cl v7.l)),(.v (.int .i64 v7.end_)),(.v (.int .i64 (IntKind.i64.wrap (v7.pos+(1:Int))))),(.v (.int .i64 v7.at_)),(.v (.int .i64 v7.e)),q.c5,q.c6,q.c7,q.c8]))),(Gx.same X0 _),(X2_910.ne N0__2_910 _),(X6.ne N0__6 _),(X7.ne N0__7 _),(X8.ne N0__8 _),E0,E1,E2,E6,E7,E8,N0__2_910,N0__6,N0__7,N0__8,N2_910__6,N2_910__7,N6__7,N6__8,N7__8,(hF.set (by simp) (some (AObj.box 155 [(.sl (List.map qd.cl v7.l)),(.v (.int .i64 v7.end_)),(.v (.int .i64 (IntKind.i64.wrap (v7.pos+(1:Int))))),(.v (.int .i64 v7.at_)),(.v (.int .i64 v7.e)),q.c5,q.c6,q.c7,q.c8]))),(hP.setp (hF.lt jl0) (some (AObj.box 155 [(.sl (List.map qd.cl v7.l)),(.v (.int .i64 v7.end_)),(.v (.int .i64 (IntKind.i64.wrap (v7.pos+(1:Int))))),(.v (.int .i64 v7.at_)),(.v (.int .i64 v7.e)),q.c5,q.c6,q.c7,q.c8])))⟩
     rintro e s ⟨τ,X0,X2_910,X6,X7,X8,E0,E1,E2,E6,E7,E8,N0__2_910,N0__6,N0__7,N0__8,N2_910__6,N2_910__7,N6__7,N6__8,N7__8,hF,hP⟩
     obtain⟨y25,h26,h13⟩:=qb h13;obtain⟨y27,h28,h13⟩:=qb h13;have q7:=hget X7.get N0__7;have q8:=hget X8.get N0__8;have q9:=hget X2_910.get N0__2_910;have q10:=Gx.same X0 (AObj.box 155 (qa.cl q y25.2));have q11:=Gx.same q10 (AObj.box 155 (qa.cl q y27.2));have q12:=X7.ne N0__7 (some (AObj.box 155 (qa.cl q y25.2)));have q13:=X8.ne N0__8 (some (AObj.box 155 (qa.cl q y25.2)));have q14:=X2_910.ne N0__2_910 (some (AObj.box 155 (qa.cl q y25.2)));have q15:=Ya q9 q7 q8 X0.get X2_910.get X7.get X8.get q10.get q14.get q12.get q13.get q11.get (q14.ne N0__2_910 (some (AObj.box 155 (qa.cl q y27.2)))).get (q12.ne N0__7 (some (AObj.box 155 (qa.cl q y27.2)))).get (q13.ne N0__8 (some (AObj.box 155 (qa.cl q y27.2)))).get (q11.ne (Ne.symm N0__7) (some (AObj.box 39 (Expr.cl y27.1)))).get ((q14.ne N0__2_910 (some (AObj.box 155 (qa.cl q y27.2)))).ne (Ne.symm N2_910__7) (some (AObj.box 39 (Expr.cl y27.1)))).get ((q12.ne N0__7 (some (AObj.box 155 (qa.cl q y27.2)))).same 39 (Expr.cl y27.1)).get ((q13.ne N0__8 (some (AObj.box 155 (qa.cl q y27.2)))).ne N7__8 (some (AObj.box 39 (Expr.cl y27.1)))).get TT;have q16:=cj5 E0 E2 E7 E8 q15;refine Jn j0 10 0 q16 ?_;refine S3 _ _ h26 _ _ _ _ q X2_910 X0 (Ne.symm N0__2_910) (hq.le (Fr.gle hF hP)) ?_;refine QD q16 ?_;refine Qn q16 ?_;refine EC.wka (.cons (.refl _) (.cons (Wk.agl (.cons (.refl _) (.cons (.refl _) (.cons (.refl _) (.cons (.refl _) (.cons (Wk.of_eq (by rw[Expr.rows_eq ([v8,y25.1])];rfl)) (.cons (.refl _) .nil))))))) .nil)) (S2 _ _ _ h28 _ _ _ q q10 (hq.le (Fr.gle (hF.set (by simp) (some (AObj.box 155 (qa.cl q y25.2)))) (hP.setp (hF.lt jl0) (some (AObj.box 155 (qa.cl q y25.2)))))) ?_);refine w_y q16 ?_;refine zc ?_;obtain rfl:=qc h13;exact zr ⟨_,_,(List.set (List.set τ j0 (some (AObj.box 155 (qa.cl q y25.2)))) j0 (some (AObj.box 155 (qa.cl q y27.2)))),rfl,(q11.ne (Ne.symm N0__7) _),((q14.ne N0__2_910 _).ne (Ne.symm N2_910__7) _),(((X6.ne N0__6 _).ne N0__6 _).ne (Ne.symm N6__7) _),((q12.ne N0__7 _).same _ _),E0,E1,E2,E6,E7,N0__2_910,N0__6,N0__7,N2_910__6,N2_910__7,N6__7,((hF.set (by simp) (some (AObj.box 155 (qa.cl q y25.2)))).set (by simp) (some (AObj.box 155 (qa.cl q y27.2)))),(((hP.setp (hF.lt jl0) (some (AObj.box 155 (qa.cl q y25.2)))).setp ((hF.set (by simp) (some (AObj.box 155 (qa.cl q y25.2)))).lt jl0) (some (AObj.box 155 (qa.cl q y27.2)))).set (((hF.set (by simp) (some (AObj.box 155 (qa.cl q y25.2)))).set (by simp) (some (AObj.box 155 (qa.cl q y27.2)))).ge q12.le) (some (AObj.box 39 (Expr.cl y27.1))))⟩
   rintro e s ⟨v14,v15,τ,rfl,X0,X2_910,X6,X7,E0,E1,E2,E6,E7,N0__2_910,N0__6,N0__7,N2_910__6,N2_910__7,N6__7,hF,hP⟩
   (try dsimp only at hf10);obtain rfl:=qc hf10;exact zK rfl ⟨_,_,τ,rfl,X0,X2_910,X6,X7,E0,E1,E2,E6,E7,N0__2_910,N0__6,N0__7,N2_910__6,N2_910__7,N6__7,hF,hP⟩
  ·refine xf hb11 (qz (qT ?_));obtain rfl:=qc hf10;refine zo rfl fun hr29=> ?_;obtain rfl:=hr29;exact qG (qf ⟨_,_,τ,rfl,X0,X2_910,X6,X7,E6,E7,N0__2_910,N0__6,N0__7,N2_910__6,N2_910__7,N6__7,hF,hP⟩)
 rintro e s ⟨v5,v6,τ,rfl,X0,X2_910,X6,X7,E6,E7,N0__2_910,N0__6,N0__7,N2_910__6,N2_910__7,N6__7,hF,hP⟩
 (try dsimp only at h);refine qh (fun e s=>∃τ:Store,C4134_2 s j0 q v5∧C4134_1 s j2_910 j0∧Bx σ s i6 39 (Expr.cl v6)∧eP e 6 i6∧j0≠j2_910∧j0≠i6∧j2_910≠i6∧Fr σ τ [j0]∧Pre τ s) ?_ ?_
 ·refine w_x (cj7 E6 E7 X6.get X7.get X6.samea (X7.nea N6__7) TT) ?_;exact qf ⟨τ,(X0.ne (Ne.symm N0__6) _),(X2_910.ne (Ne.symm N2_910__6) _),(X6.same _ _),E6,N0__2_910,N0__6,N2_910__6,hF,(hP.set (hF.ge X6.le) (some (AObj.box 39 (Expr.cl v6))))⟩
 rintro e s ⟨τ,X0,X2_910,X6,E6,N0__2_910,N0__6,N2_910__6,hF,hP⟩
 refine qo ?_;obtain rfl:=qc h;have hn30:(List.map (·.1) ([(j0,(AObj.box 155 (qa.cl q v5)))]:List (Nat×AObj))).Nodup:=(List.nodup_cons.2 ⟨(fun h=>by simp at h),List.nodup_nil⟩);have he31:=Fr.eq hF hn30 (List.forall_mem_cons.2 ⟨⟨jl0,(Gx.back X0 hP (hF.lt jl0))⟩,(fun x hx=>absurd hx (by simp))⟩);exact qU (fun _=>rfl) (xr (rs:= #[.cell 6 39]) (cj3 X6.get E6 TT)) ⟨_,hn30,(List.forall_mem_cons.2 ⟨⟨jl0,(ClO.bx (ClL.cons (Cn.cl (Cn.rows qd.cn _) _) (ClL.cons (Cn.cl (.v _) _) (ClL.cons (Cn.cl (.v _) _) (ClL.cons (Cn.cl (.v _) _) (ClL.cons (Cn.cl (.v _) _) (ClL.cons hq.c5 (ClL.cons hq.c6 (ClL.cons hq.c7 (ClL.cons hq.c8 ClL.nil))))))))))⟩,(fun x hx=>absurd hx (by simp))⟩),he31▸hP,_,(.refl _),(.ag (CnL.cons (.v _) (CnL.cons (.v _) (CnL.cons (.v _) (CnL.cons (.v _) (CnL.cons (Expr.cnr _) (CnL.cons (.v _) CnL.nil))))))),hK⟩
def Jo:(List ByteArray):=[(⟨#[43]⟩:ByteArray),(⟨#[45]⟩:ByteArray)]
noncomputable def B_syntax_reader_sum (f0:qa→(List ByteArray)→Unit→Option (Expr×qa))(a0:qa):Option (Expr×qa):=
 (f0 a0 Jo ()).bind fun y1=>
 some (y1.1,y1.2)
theorem W_syntax_reader_sum (f0)(S0:Sat_syntax_reader_row_of_sum_c1 f0):Sat_syntax_reader_sum (B_syntax_reader_sum f0):=by
 intro a0 r h σ K j0 q H0 hq hK;refine Qw (Q:=fun r s=>∃l:List (Nat×AObj),(l.map (·.1)).Nodup∧(∀x∈l,x.1<σ.length∧ClO σ.length x.2)∧Pq σ l K r s) Try.func129 rfl rfl (by kernel_rfl) (fun _ _ h=>h) ?_;unfold B_syntax_reader_sum at h;have hP:=Pre.refl σ;have jl0:=H0.lt;have hF:=Fr.refl σ [j0];have E0:qu [(.pt j0 0)] 0=(.pt j0 0):=rfl;have TT:=cj11 Expr.cle Expr.rlen T_153 T_184 T_2 T_3 T_37 T_39 T_9 T_97 qa.cle;refine qh (fun e s=>∃i1 i2:Nat,∃τ:Store,Gx s j0 (AObj.box 155 (qa.cl q a0))∧Bx σ s i1 153 [(.pt j0 0)]∧Bx σ s i2 39 [(.v (.int .i64 (0:Int))),(.v (.string (⟨#[]⟩:ByteArray))),(.v (.int .i64 (0:Int))),(.v (.int .i64 (0:Int))),.e0,(.v (.int .i64 (0:Int)))]∧eP e 1 i1∧eP e 2 i2∧j0≠i1∧j0≠i2∧i1≠i2∧Fr σ τ [j0]∧Pre τ s) ?_ ?_
 ·have q1:=cj3 E0 H0.g3 TT;refine w_x q1 ?_;have q2:=Bx.newf hF hP 153 [(.pt j0 0)];exact qf ⟨σ.length,(σ++[some (AObj.box 153 [(.pt j0 0)])]).length,σ,((H0.app [some (AObj.box 153 [(.pt j0 0)])]).app [some (AObj.box 39 [(.v (.int .i64 (0:Int))),(.v (.string (⟨#[]⟩:ByteArray))),(.v (.int .i64 (0:Int))),(.v (.int .i64 (0:Int))),.e0,(.v (.int .i64 (0:Int)))])]),(q2.app _),(Bx.newf hF (hP.app _) 39 [(.v (.int .i64 (0:Int))),(.v (.string (⟨#[]⟩:ByteArray))),(.v (.int .i64 (0:Int))),(.v (.int .i64 (0:Int))),.e0,(.v (.int .i64 (0:Int)))]),(xv q1),(xv q1),(Nat.ne_of_lt H0.lt),(Nat.ne_of_lt (H0.app [some (AObj.box 153 [(.pt j0 0)])]).lt),(Nat.ne_of_lt q2.lt),hF,((hP.app _).app _)⟩
 rintro e s ⟨i1,i2,τ,X0,X1,X2,E1,E2,N0__1,N0__2,N1__2,hF,hP⟩
 obtain⟨y1,h2,h⟩:=qb h;refine qh (fun e s=>∃τ:Store,Gx s j0 (AObj.box 155 (qa.cl q y1.2))∧Bx σ s i2 39 (Expr.cl y1.1)∧eP e 2 i2∧j0≠i2∧Fr σ τ [j0]∧Pre τ s) ?_ ?_
 ·have q3:=Gx.same X0 (AObj.box 155 (qa.cl q y1.2));have q4:=X2.ne N0__2 (some (AObj.box 155 (qa.cl q y1.2)));have q5:=X1.ne N0__1 (some (AObj.box 155 (qa.cl q y1.2)));have q6:=ZD E1 E2 X0.get X1.get X2.get q3.get q5.get q4.get (q3.ne (Ne.symm N0__2) (some (AObj.box 39 (Expr.cl y1.1)))).get (q5.ne (Ne.symm N1__2) (some (AObj.box 39 (Expr.cl y1.1)))).get (q4.same 39 (Expr.cl y1.1)).get TT;refine w_x q6 ?_;refine EC.wka (.cons (.refl _) (.cons (Wk.of_eq rfl) (.cons (.refl _) .nil))) (S0 _ _ _ _ h2 _ _ _ _ q X0 X1.gx N0__1 (hq.le (Fr.gle hF hP)) ?_);refine w_y q6 ?_;exact qf ⟨(List.set τ j0 (some (AObj.box 155 (qa.cl q y1.2)))),(q3.ne (Ne.symm N0__2) _),(q4.same _ _),E2,N0__2,(hF.set (by simp) (some (AObj.box 155 (qa.cl q y1.2)))),((hP.setp (hF.lt jl0) (some (AObj.box 155 (qa.cl q y1.2)))).set ((hF.set (by simp) (some (AObj.box 155 (qa.cl q y1.2)))).ge q4.le) (some (AObj.box 39 (Expr.cl y1.1))))⟩
 rintro e s ⟨τ,X0,X2,E2,N0__2,hF,hP⟩
 refine qo ?_;obtain rfl:=qc h;have hn3:(List.map (·.1) ([(j0,(AObj.box 155 (qa.cl q y1.2)))]:List (Nat×AObj))).Nodup:=(List.nodup_cons.2 ⟨(fun h=>by simp at h),List.nodup_nil⟩);have he4:=Fr.eq hF hn3 (List.forall_mem_cons.2 ⟨⟨jl0,(Gx.back X0 hP (hF.lt jl0))⟩,(fun x hx=>absurd hx (by simp))⟩);exact qU (fun _=>rfl) (xr (rs:= #[.cell 2 39]) (cj3 X2.get E2 TT)) ⟨_,hn3,(List.forall_mem_cons.2 ⟨⟨jl0,(ClO.bx (ClL.cons (Cn.cl (Cn.rows qd.cn _) _) (ClL.cons (Cn.cl (.v _) _) (ClL.cons (Cn.cl (.v _) _) (ClL.cons (Cn.cl (.v _) _) (ClL.cons (Cn.cl (.v _) _) (ClL.cons hq.c5 (ClL.cons hq.c6 (ClL.cons hq.c7 (ClL.cons hq.c8 ClL.nil))))))))))⟩,(fun x hx=>absurd hx (by simp))⟩),he4▸hP,_,(.refl _),(.ag (CnL.cons (.v _) (CnL.cons (.v _) (CnL.cons (.v _) (CnL.cons (.v _) (CnL.cons (Expr.cnr _) (CnL.cons (.v _) CnL.nil))))))),hK⟩
def qC:(List ByteArray):=[(⟨#[60]⟩:ByteArray),(⟨#[61,61]⟩:ByteArray)]
noncomputable def zt (f1:qa→ByteArray→Option (Bool×qa))(f5:qa→Expr→Option (Expr×qa))(f0:qa→Option qd)(f4:qa→Option (Expr×qa)):(Int×qa×Expr)→Option ((Int×qa×Expr)⊕(qa×Expr))
 | (v10, v11, v12) =>
  if(decide (v10<((List.length qC:Nat):Int)))then
   ((qS qC v10).bind fun y20=>
   (f0 v11).bind fun y23=>
   (f1 v11 y20).bind fun y25=>
   if y25.1 then
    (f4 y25.2).bind fun y28=>
    (f5 y28.2 (Expr.mk (13:Int) y20 (0:Int) (0:Int) ([v12,y28.1]) y23.at_)).bind fun y30=>
    some (.inl (y30.2,y30.1))
   else
    some (.inr (y25.2,v12)):Option ((qa×Expr)⊕(qa×Expr))).bind fun x=>match x with
   | .inl r=>some (.inr r)
   | .inr (v18, v19) =>
    some (.inl ((IntKind.i64.wrap (v10+(1:Int))),v18,v19))
  else
   some (.inr (v11,v12))
noncomputable def B_syntax_reader_body (f0:qa→Option qd)(f1:qa→ByteArray→Option (Bool×qa))(f2:qa→ByteArray→Option (Unit×qa))(f3:qa→Option (Expr×qa))(f4:qa→Option (Expr×qa))(f5:qa→Expr→Option (Expr×qa))(a0:qa):Option (Expr×qa):=
 if(!decide (a0.e=(0:Int)))then
  some ((Expr.mk (0:Int) (⟨#[]⟩:ByteArray) (0:Int) (0:Int) ([]) (0:Int)),a0)
 else
  (f4 a0).bind fun y4=>
  (qA (zt f1 f5 f0 f4) ((0:Int),y4.2,y4.1):Option (qa×Expr)).bind fun(v8,v9)=>
  (f0 v8).bind fun y34=>
  (f1 v8 (⟨#[63]⟩:ByteArray)).bind fun y36=>
  if y36.1 then
   (f3 y36.2).bind fun y39=>
   (f2 y39.2 (⟨#[58]⟩:ByteArray)).bind fun y41=>
   (f3 y41.2).bind fun y43=>
   (f5 y43.2 (Expr.mk (13:Int) (⟨#[63]⟩:ByteArray) (0:Int) (0:Int) ([v9,y39.1,y43.1]) y34.at_)).bind fun y45=>
   some (y45.1,y45.2)
  else
   some (v9,y36.2)
abbrev C120_0 (z0 z1:Store)(z2:Nat):Prop:=Bx z0 z1 z2 39 [(.v (.int .i64 (0:Int))),(.v (.string (⟨#[]⟩:ByteArray))),(.v (.int .i64 (0:Int))),(.v (.int .i64 (0:Int))),.e0,(.v (.int .i64 (0:Int)))]
abbrev C120_1 (z0:Store)(z1:Nat)(z2:Qz)(z3:qa):Prop:=Gx z0 z1 (AObj.box 155 (qa.cl z2 z3))
abbrev C120_2 (z0:Env):Prop:=eS z0 17 C_s qC
theorem W_syntax_reader_body (f0 f1 f2 f3 f4 f5)(S0:Sat_syntax_reader_now f0)(S1:Sat_syntax_reader_can f1)(S2:Sat_syntax_reader_must f2)(S3:Sat_syntax_reader_body f3)(S4:Sat_syntax_reader_sum f4)(S5:Sat_syntax_reader_made f5):Sat_syntax_reader_body (B_syntax_reader_body f0 f1 f2 f3 f4 f5):=by
 intro a0 r h σ K j0 q H0 hq hK;refine Qw (Q:=fun r s=>∃l:List (Nat×AObj),(l.map (·.1)).Nodup∧(∀x∈l,x.1<σ.length∧ClO σ.length x.2)∧Pq σ l K r s) Try.func120 rfl rfl (by kernel_rfl) (fun _ _ h=>h) ?_;unfold B_syntax_reader_body at h;have hP:=Pre.refl σ;have jl0:=H0.lt;have hF:=Fr.refl σ [j0];have E0:qu [(.pt j0 0)] 0=(.pt j0 0):=rfl;have TT:=cj16 Expr.cle Expr.rlen T_153 T_155 T_2 T_27 T_3 T_30 T_37 T_39 T_81 T_85 T_9 T_97 qd.cle qa.cle;refine qh (fun e s=>∃i2:Nat,∃τ:Store,C120_1 s j0 q a0∧C120_0 σ s i2∧eP e 0 j0∧eP e 2 i2∧j0≠i2∧Fr σ τ [j0]∧Pre τ s) ?_ ?_
 ·refine w_x (cj2 H0.g3 TT) ?_;exact qf ⟨σ.length,σ,(H0.app [some (AObj.box 39 [(.v (.int .i64 (0:Int))),(.v (.string (⟨#[]⟩:ByteArray))),(.v (.int .i64 (0:Int))),(.v (.int .i64 (0:Int))),.e0,(.v (.int .i64 (0:Int)))])]),(Bx.newf hF hP 39 [(.v (.int .i64 (0:Int))),(.v (.string (⟨#[]⟩:ByteArray))),(.v (.int .i64 (0:Int))),(.v (.int .i64 (0:Int))),.e0,(.v (.int .i64 (0:Int)))]),E0,(xv (cj2 H0.g3 TT)),(Nat.ne_of_lt H0.lt),hF,(hP.app _)⟩
 rintro e s ⟨i2,τ,X0,X2,E0,E2,N0__2,hF,hP⟩
 refine qk (qe (w_x (cj3 E0 X0.get TT) ?_));refine qg (qe ?_);rcases qj h with⟨hb1,h⟩|⟨hb1,h⟩
 ·refine xt hb1 (qh (fun e s=>∃τ:Store,C120_1 s j0 q a0∧C120_0 σ s i2∧eP e 2 i2∧j0≠i2∧Fr σ τ [j0]∧Pre τ s) ?_ ?_)
  ·refine w_x (cj4 E2 X2.get X2.samea TT) ?_;exact qf ⟨τ,(X0.ne (Ne.symm N0__2) _),(X2.same _ _),E2,N0__2,hF,(hP.set (hF.ge X2.le) (some (AObj.box 39 [(.v (.int .i64 (0:Int))),(.v (.string (⟨#[]⟩:ByteArray))),(.v (.int .i64 (0:Int))),(.v (.int .i64 (0:Int))),.e0,(.v (.int .i64 (0:Int)))])))⟩
  rintro e s ⟨τ,X0,X2,E2,N0__2,hF,hP⟩
  refine qo (ze ?_);obtain rfl:=qc h;have hn2:(List.map (·.1) ([(j0,(AObj.box 155 (qa.cl q a0)))]:List (Nat×AObj))).Nodup:=(List.nodup_cons.2 ⟨(fun h=>by simp at h),List.nodup_nil⟩);have he3:=Fr.eq hF hn2 (List.forall_mem_cons.2 ⟨⟨jl0,(Gx.back X0 hP (hF.lt jl0))⟩,(fun x hx=>absurd hx (by simp))⟩);exact qU (fun _=>rfl) (xr (rs:= #[.cell 2 39]) (cj3 X2.get E2 TT)) ⟨_,hn2,(List.forall_mem_cons.2 ⟨⟨jl0,(ClO.bx (ClL.cons (Cn.cl (Cn.rows qd.cn _) _) (ClL.cons (Cn.cl (.v _) _) (ClL.cons (Cn.cl (.v _) _) (ClL.cons (Cn.cl (.v _) _) (ClL.cons (Cn.cl (.v _) _) (ClL.cons hq.c5 (ClL.cons hq.c6 (ClL.cons hq.c7 (ClL.cons hq.c8 ClL.nil))))))))))⟩,(fun x hx=>absurd hx (by simp))⟩),he3▸hP,_,(Wk.agl (.cons (.refl _) (.cons (.refl _) (.cons (.refl _) (.cons (.refl _) (.cons .e0 (.cons (.refl _) .nil))))))),(.ag (CnL.cons (.v _) (CnL.cons (.v _) (CnL.cons (.v _) (CnL.cons (.v _) (CnL.cons Cn.sl0 (CnL.cons (.v _) CnL.nil))))))),hK⟩
 ·refine xf hb1 (qm (qg ?_));obtain⟨y4,h5,h⟩:=qb h;refine qh (fun e s=>∃i3:Nat,∃τ:Store,Gx s j0 (AObj.box 155 (qa.cl q y4.2))∧C120_0 σ s i2∧Bx σ s i3 39 (Expr.cl y4.1)∧eP e 0 j0∧eP e 2 i2∧eP e 3 i3∧j0≠i2∧j0≠i3∧i2≠i3∧Fr σ τ [j0]∧Pre τ s) ?_ ?_
  ·have q1:=Gx.same X0 (AObj.box 155 (qa.cl q y4.2));have q2:=cj4 E0 X0.g3 q1.get TT;refine w_x q2 ?_;refine S4 _ _ h5 _ _ _ q X0 (hq.le (Fr.gle hF hP)) ?_;refine w_y q2 ?_;have q3:=X2.ne N0__2 (some (AObj.box 155 (qa.cl q y4.2)));exact qf ⟨(List.set s j0 (some (AObj.box 155 (qa.cl q y4.2)))).length,(List.set τ j0 (some (AObj.box 155 (qa.cl q y4.2)))),(q1.app _),(q3.app _),(Bx.newf (hF.set (by simp) (some (AObj.box 155 (qa.cl q y4.2)))) (hP.setp (hF.lt jl0) (some (AObj.box 155 (qa.cl q y4.2)))) 39 (Expr.cl y4.1)),E0,E2,(xv q2),N0__2,(Nat.ne_of_lt q1.lt),(Nat.ne_of_lt q3.lt),(hF.set (by simp) (some (AObj.box 155 (qa.cl q y4.2)))),((hP.setp (hF.lt jl0) (some (AObj.box 155 (qa.cl q y4.2)))).app _)⟩
  rintro e s ⟨i3,τ,X0,X2,X3,E0,E2,E3,N0__2,N0__3,N2__3,hF,hP⟩
  refine qk (qe (w_x TT ?_));refine qg ?_;obtain⟨x6,h7,h⟩:=qb h;refine qh (fun e s=>∃v8 v9,∃τ:Store,(v8,v9)=x6∧C120_1 s j0 q v8∧C120_0 σ s i2∧Bx σ s i3 39 (Expr.cl v9)∧eP e 0 j0∧eP e 2 i2∧eP e 3 i3∧j0≠i2∧j0≠i3∧i2≠i3∧Fr σ τ [j0]∧Pre τ s) ?_ ?_
  ·refine qn (qX h7 (fun v e s=>∃v10 v11 v12,∃τ:Store,(v10,v11,v12)=v∧C120_1 s j0 q v11∧C120_0 σ s i2∧Bx σ s i3 39 (Expr.cl v12)∧eP e 0 j0∧eP e 2 i2∧eP e 3 i3∧C120_2 e∧eL e 18 qC∧eI e 19 v10∧j0≠i2∧j0≠i3∧i2≠i3∧Fr σ τ [j0]∧Pre τ s) ⟨_,WkE.upd (WkE.refl _) (t:=17) (p:=(.sl [[(.v (.string (⟨#[60]⟩:ByteArray)))],[(.v (.string (⟨#[61,61]⟩:ByteArray)))]])) (q:=(.sl (List.map C_s qC))) (xv TT) (Wk.of_eq rfl),_,_,_,τ,rfl,X0,X2,X3,E0,E2,E3,(xv TT),(xv TT),(xv TT),N0__2,N0__3,N2__3,hF,hP⟩ ?_)
   rintro v x13 e s hf14 ⟨v10,v11,v12,τ,rfl,X0,X2,X3,E0,E2,E3,E17,E18,E19,N0__2,N0__3,N2__3,hF,hP⟩
   unfold zt at hf14;(try dsimp only at hf14);refine qe (w_x (cj3 E18 E19 TT) ?_);refine qg (qe ?_);rcases qj hf14 with⟨hb15,hf14⟩|⟨hb15,hf14⟩
   ·refine xt hb15 (qm (qg ?_));obtain⟨x16,h17,hf14⟩:=qb hf14;refine qh (fun e s=>∃v18:qa,∃v19:Expr,∃τ:Store,.inr (v18,v19)=x16∧C120_1 s j0 q v18∧C120_0 σ s i2∧Bx σ s i3 39 (Expr.cl v19)∧eP e 0 j0∧eP e 2 i2∧eP e 3 i3∧C120_2 e∧eL e 18 qC∧eI e 19 v10∧j0≠i2∧j0≠i3∧i2≠i3∧Fr σ τ [j0]∧Pre τ s) ?_ ?_
    ·refine qn (qe ?_);obtain⟨y20,h21,h17⟩:=qb h17;have R22:(List.map C_s qC)[(v10).toNat]? =some [(.v (.string y20))]:=zw (qp h21).2;refine w_x (cj5 E17 E19 R22 (qp h21).1 TT) ?_;refine qg ?_;obtain⟨y23,h24,h17⟩:=qb h17;refine qh (fun e s=>∃i6:Nat,∃τ:Store,C120_1 s j0 q v11∧C120_0 σ s i2∧Bx σ s i3 39 (Expr.cl v12)∧Bx σ s i6 85 (qd.cl y23)∧eP e 0 j0∧eP e 2 i2∧eP e 3 i3∧eT e 5 y20∧eP e 6 i6∧C120_2 e∧eL e 18 qC∧eI e 19 v10∧j0≠i2∧j0≠i3∧j0≠i6∧i2≠i3∧i2≠i6∧i3≠i6∧Fr σ τ [j0]∧Pre τ s) ?_ ?_
     ·have q4:=cj3 E0 X0.g3 TT;refine w_x q4 ?_;refine S0 _ _ h24 _ _ _ q X0 (hq.le (Fr.gle hF hP)) ?_;refine w_y q4 ?_;exact qf ⟨s.length,τ,(X0.app _),(X2.app _),(X3.app _),(Bx.newf hF hP 85 (qd.cl y23)),E0,E2,E3,(xv q4),(xv q4),E17,E18,E19,N0__2,N0__3,(Nat.ne_of_lt X0.lt),N2__3,(Nat.ne_of_lt X2.lt),(Nat.ne_of_lt X3.lt),hF,(hP.app _)⟩
     rintro e s ⟨i6,τ,X0,X2,X3,X6,E0,E2,E3,E5,E6,E17,E18,E19,N0__2,N0__3,N0__6,N2__3,N2__6,N3__6,hF,hP⟩
     obtain⟨y25,h26,h17⟩:=qb h17;refine qh (fun e s=>∃τ:Store,Gx s j0 (AObj.box 155 (qa.cl q y25.2))∧C120_0 σ s i2∧Bx σ s i3 39 (Expr.cl v12)∧Bx σ s i6 85 (qd.cl y23)∧eP e 0 j0∧eP e 2 i2∧eP e 3 i3∧eT e 5 y20∧eP e 6 i6∧C120_2 e∧eL e 18 qC∧eI e 19 v10∧eB e 27 y25.1∧j0≠i2∧j0≠i3∧j0≠i6∧i2≠i3∧i2≠i6∧i3≠i6∧Fr σ τ [j0]∧Pre τ s) ?_ ?_
     ·have q5:=Gx.same X0 (AObj.box 155 (qa.cl q y25.2));have q6:=cj5 E0 E5 X0.get q5.get TT;refine w_x q6 ?_;refine S1 _ _ _ h26 _ _ _ q X0 (hq.le (Fr.gle hF hP)) ?_;refine w_y q6 ?_;exact qf ⟨(List.set τ j0 (some (AObj.box 155 (qa.cl q y25.2)))),q5,(X2.ne N0__2 _),(X3.ne N0__3 _),(X6.ne N0__6 _),E0,E2,E3,E5,E6,E17,E18,E19,(xv q6),N0__2,N0__3,N0__6,N2__3,N2__6,N3__6,(hF.set (by simp) (some (AObj.box 155 (qa.cl q y25.2)))),(hP.setp (hF.lt jl0) (some (AObj.box 155 (qa.cl q y25.2))))⟩
     rintro e s ⟨τ,X0,X2,X3,X6,E0,E2,E3,E5,E6,E17,E18,E19,E27,N0__2,N0__3,N0__6,N2__3,N2__6,N3__6,hF,hP⟩
     rcases qj h17 with⟨hb27,h17⟩|⟨hb27,h17⟩
     ·refine xt (cj2 E27 hb27) ?_;obtain⟨y28,h29,h17⟩:=qb h17;obtain⟨y30,h31,h17⟩:=qb h17;refine qh (fun e s=>∃τ:Store,Gx s j0 (AObj.box 155 (qa.cl q y30.2))∧C120_0 σ s i2∧Bx σ s i3 39 (Expr.cl y30.1)∧eP e 0 j0∧eP e 2 i2∧eP e 3 i3∧j0≠i2∧j0≠i3∧i2≠i3∧Fr σ τ [j0]∧Pre τ s) ?_ ?_
      ·have q7:=hget X6.get N0__6;have q8:=hget X3.get N0__3;have q9:=Gx.same X0 (AObj.box 155 (qa.cl q y28.2));have q10:=Gx.same q9 (AObj.box 155 (qa.cl q y30.2));have q11:=X3.ne N0__3 (some (AObj.box 155 (qa.cl q y28.2)));have q12:=X6.ne N0__6 (some (AObj.box 155 (qa.cl q y28.2)));have q13:=cj19 E0 E3 E5 E6 q8 q7 X0.get X3.get X6.get q9.get q11.get q12.get q10.get (q11.ne N0__3 (some (AObj.box 155 (qa.cl q y30.2)))).get (q12.ne N0__6 (some (AObj.box 155 (qa.cl q y30.2)))).get (q10.ne (Ne.symm N0__3) (some (AObj.box 39 (Expr.cl y30.1)))).get ((q11.ne N0__3 (some (AObj.box 155 (qa.cl q y30.2)))).same 39 (Expr.cl y30.1)).get ((q12.ne N0__6 (some (AObj.box 155 (qa.cl q y30.2)))).ne N3__6 (some (AObj.box 39 (Expr.cl y30.1)))).get TT;refine Jn j0 9 0 q13 ?_;refine S4 _ _ h29 _ _ _ q X0 (hq.le (Fr.gle hF hP)) ?_;refine QD q13 ?_;refine Qn q13 ?_;refine EC.wka (.cons (.refl _) (.cons (Wk.agl (.cons (.refl _) (.cons (.refl _) (.cons (.refl _) (.cons (.refl _) (.cons (Wk.of_eq (by rw[Expr.rows_eq ([v12,y28.1])];rfl)) (.cons (.refl _) .nil))))))) .nil)) (S5 _ _ _ h31 _ _ _ q q9 (hq.le (Fr.gle (hF.set (by simp) (some (AObj.box 155 (qa.cl q y28.2)))) (hP.setp (hF.lt jl0) (some (AObj.box 155 (qa.cl q y28.2)))))) ?_);refine w_y q13 ?_;exact qf ⟨(List.set (List.set τ j0 (some (AObj.box 155 (qa.cl q y28.2)))) j0 (some (AObj.box 155 (qa.cl q y30.2)))),(q10.ne (Ne.symm N0__3) _),(((X2.ne N0__2 _).ne N0__2 _).ne (Ne.symm N2__3) _),((q11.ne N0__3 _).same _ _),E0,E2,E3,N0__2,N0__3,N2__3,((hF.set (by simp) (some (AObj.box 155 (qa.cl q y28.2)))).set (by simp) (some (AObj.box 155 (qa.cl q y30.2)))),(((hP.setp (hF.lt jl0) (some (AObj.box 155 (qa.cl q y28.2)))).setp ((hF.set (by simp) (some (AObj.box 155 (qa.cl q y28.2)))).lt jl0) (some (AObj.box 155 (qa.cl q y30.2)))).set (((hF.set (by simp) (some (AObj.box 155 (qa.cl q y28.2)))).set (by simp) (some (AObj.box 155 (qa.cl q y30.2)))).ge q11.le) (some (AObj.box 39 (Expr.cl y30.1))))⟩
      rintro e s ⟨τ,X0,X2,X3,E0,E2,E3,N0__2,N0__3,N2__3,hF,hP⟩
      refine qz (ZY (by decide) ?_);obtain rfl:=qc h17;refine cw_x ?_;(try dsimp only at hf14);obtain rfl:=qc hf14;refine zo rfl fun hr32=> ?_;obtain rfl:=hr32;exact qG (qf ⟨_,_,τ,rfl,X0,X2,X3,E0,E2,E3,N0__2,N0__3,N2__3,hF,hP⟩)
     ·refine xf (cj2 E27 hb27) (qm (zc ?_));obtain rfl:=qc h17;exact qf ⟨_,_,τ,rfl,X0,X2,X3,E0,E2,E3,E17,E18,E19,N0__2,N0__3,N2__3,hF,hP⟩
    rintro e s ⟨v18,v19,τ,rfl,X0,X2,X3,E0,E2,E3,E17,E18,E19,N0__2,N0__3,N2__3,hF,hP⟩
    (try dsimp only at hf14);refine w_x (cj2 E19 TT) ?_;obtain rfl:=qc hf14;exact zK rfl ⟨_,_,_,τ,rfl,X0,X2,X3,E0,E2,E3,E17,E18,(xv (cj2 E19 TT)),N0__2,N0__3,N2__3,hF,hP⟩
   ·refine xf hb15 (qz (qT ?_));obtain rfl:=qc hf14;refine zo rfl fun hr33=> ?_;obtain rfl:=hr33;exact qG (qf ⟨_,_,τ,rfl,X0,X2,X3,E0,E2,E3,N0__2,N0__3,N2__3,hF,hP⟩)
  rintro e s ⟨v8,v9,τ,rfl,X0,X2,X3,E0,E2,E3,N0__2,N0__3,N2__3,hF,hP⟩
  (try dsimp only at h);refine qk ?_;obtain⟨y34,h35,h⟩:=qb h;refine qh (fun e s=>∃i7:Nat,∃τ:Store,C120_1 s j0 q v8∧C120_0 σ s i2∧Bx σ s i3 39 (Expr.cl v9)∧Bx σ s i7 85 (qd.cl y34)∧eP e 0 j0∧eP e 2 i2∧eP e 3 i3∧eP e 7 i7∧j0≠i2∧j0≠i3∧j0≠i7∧i2≠i3∧i2≠i7∧i3≠i7∧Fr σ τ [j0]∧Pre τ s) ?_ ?_
  ·have q14:=cj3 E0 X0.g3 TT;refine w_x q14 ?_;refine S0 _ _ h35 _ _ _ q X0 (hq.le (Fr.gle hF hP)) ?_;refine w_y q14 ?_;exact qf ⟨s.length,τ,(X0.app _),(X2.app _),(X3.app _),(Bx.newf hF hP 85 (qd.cl y34)),E0,E2,E3,(xv q14),N0__2,N0__3,(Nat.ne_of_lt X0.lt),N2__3,(Nat.ne_of_lt X2.lt),(Nat.ne_of_lt X3.lt),hF,(hP.app _)⟩
  rintro e s ⟨i7,τ,X0,X2,X3,X7,E0,E2,E3,E7,N0__2,N0__3,N0__7,N2__3,N2__7,N3__7,hF,hP⟩
  refine qk ?_;obtain⟨y36,h37,h⟩:=qb h;refine qh (fun e s=>∃τ:Store,Gx s j0 (AObj.box 155 (qa.cl q y36.2))∧C120_0 σ s i2∧Bx σ s i3 39 (Expr.cl v9)∧Bx σ s i7 85 (qd.cl y34)∧eP e 0 j0∧eP e 2 i2∧eP e 3 i3∧eP e 7 i7∧eB e 42 y36.1∧j0≠i2∧j0≠i3∧j0≠i7∧i2≠i3∧i2≠i7∧i3≠i7∧Fr σ τ [j0]∧Pre τ s) ?_ ?_
  ·have q15:=Gx.same X0 (AObj.box 155 (qa.cl q y36.2));have q16:=cj4 E0 X0.get q15.get TT;refine w_x q16 ?_;refine S1 _ _ _ h37 _ _ _ q X0 (hq.le (Fr.gle hF hP)) ?_;refine w_y q16 ?_;exact qf ⟨(List.set τ j0 (some (AObj.box 155 (qa.cl q y36.2)))),q15,(X2.ne N0__2 _),(X3.ne N0__3 _),(X7.ne N0__7 _),E0,E2,E3,E7,(xv q16),N0__2,N0__3,N0__7,N2__3,N2__7,N3__7,(hF.set (by simp) (some (AObj.box 155 (qa.cl q y36.2)))),(hP.setp (hF.lt jl0) (some (AObj.box 155 (qa.cl q y36.2))))⟩
  rintro e s ⟨τ,X0,X2,X3,X7,E0,E2,E3,E7,E42,N0__2,N0__3,N0__7,N2__3,N2__7,N3__7,hF,hP⟩
  refine qe ?_;rcases qj h with⟨hb38,h⟩|⟨hb38,h⟩
  ·refine xt (cj2 E42 hb38) ?_;obtain⟨y39,h40,h⟩:=qb h;refine qh (fun e s=>∃i8:Nat,∃τ:Store,Gx s j0 (AObj.box 155 (qa.cl q y39.2))∧C120_0 σ s i2∧Bx σ s i3 39 (Expr.cl v9)∧Bx σ s i7 85 (qd.cl y34)∧Bx σ s i8 39 (Expr.cl y39.1)∧eP e 0 j0∧eP e 2 i2∧eP e 3 i3∧eP e 7 i7∧eP e 8 i8∧j0≠i2∧j0≠i3∧j0≠i7∧j0≠i8∧i2≠i3∧i2≠i7∧i2≠i8∧i3≠i7∧i3≠i8∧Fr σ τ [j0]∧Pre τ s) ?_ ?_
   ·have q17:=Gx.same X0 (AObj.box 155 (qa.cl q y39.2));have q18:=cj4 E0 X0.g3 q17.get TT;refine w_x q18 ?_;refine S3 _ _ h40 _ _ _ q X0 (hq.le (Fr.gle hF hP)) ?_;refine w_y q18 ?_;have q19:=X2.ne N0__2 (some (AObj.box 155 (qa.cl q y39.2)));have q20:=X3.ne N0__3 (some (AObj.box 155 (qa.cl q y39.2)));exact qf ⟨(List.set s j0 (some (AObj.box 155 (qa.cl q y39.2)))).length,(List.set τ j0 (some (AObj.box 155 (qa.cl q y39.2)))),(q17.app _),(q19.app _),(q20.app _),((X7.ne N0__7 _).app _),(Bx.newf (hF.set (by simp) (some (AObj.box 155 (qa.cl q y39.2)))) (hP.setp (hF.lt jl0) (some (AObj.box 155 (qa.cl q y39.2)))) 39 (Expr.cl y39.1)),E0,E2,E3,E7,(xv q18),N0__2,N0__3,N0__7,(Nat.ne_of_lt q17.lt),N2__3,N2__7,(Nat.ne_of_lt q19.lt),N3__7,(Nat.ne_of_lt q20.lt),(hF.set (by simp) (some (AObj.box 155 (qa.cl q y39.2)))),((hP.setp (hF.lt jl0) (some (AObj.box 155 (qa.cl q y39.2)))).app _)⟩
   rintro e s ⟨i8,τ,X0,X2,X3,X7,X8,E0,E2,E3,E7,E8,N0__2,N0__3,N0__7,N0__8,N2__3,N2__7,N2__8,N3__7,N3__8,hF,hP⟩
   obtain⟨y41,h42,h⟩:=qb h;refine qh (fun e s=>∃τ:Store,Gx s j0 (AObj.box 155 (qa.cl q y41.2))∧C120_0 σ s i2∧Bx σ s i3 39 (Expr.cl v9)∧Bx σ s i7 85 (qd.cl y34)∧Bx σ s i8 39 (Expr.cl y39.1)∧eP e 0 j0∧eP e 2 i2∧eP e 3 i3∧eP e 7 i7∧eP e 8 i8∧j0≠i2∧j0≠i3∧j0≠i7∧j0≠i8∧i2≠i3∧i2≠i7∧i2≠i8∧i3≠i7∧i3≠i8∧Fr σ τ [j0]∧Pre τ s) ?_ ?_
   ·refine w_x (cj4 E0 X0.get X0.samea TT) ?_;refine S2 _ _ _ h42 _ _ _ q X0 (hq.le (Fr.gle hF hP)) ?_;refine w_y (cj4 E0 X0.get X0.samea TT) ?_;exact qf ⟨(List.set τ j0 (some (AObj.box 155 (qa.cl q y41.2)))),(Gx.same X0 _),(X2.ne N0__2 _),(X3.ne N0__3 _),(X7.ne N0__7 _),(X8.ne N0__8 _),E0,E2,E3,E7,E8,N0__2,N0__3,N0__7,N0__8,N2__3,N2__7,N2__8,N3__7,N3__8,(hF.set (by simp) (some (AObj.box 155 (qa.cl q y41.2)))),(hP.setp (hF.lt jl0) (some (AObj.box 155 (qa.cl q y41.2))))⟩
   rintro e s ⟨τ,X0,X2,X3,X7,X8,E0,E2,E3,E7,E8,N0__2,N0__3,N0__7,N0__8,N2__3,N2__7,N2__8,N3__7,N3__8,hF,hP⟩
   obtain⟨y43,h44,h⟩:=qb h;obtain⟨y45,h46,h⟩:=qb h;refine qh (fun e s=>∃τ:Store,Gx s j0 (AObj.box 155 (qa.cl q y45.2))∧Bx σ s i2 39 (Expr.cl y45.1)∧eP e 2 i2∧j0≠i2∧Fr σ τ [j0]∧Pre τ s) ?_ ?_
   ·have q21:=hget X7.get N0__7;have q22:=hget X8.get N0__8;have q23:=hget X2.get N0__2;have q24:=hget X3.get N0__3;have q25:=Gx.same X0 (AObj.box 155 (qa.cl q y43.2));have q26:=Gx.same q25 (AObj.box 155 (qa.cl q y45.2));have q27:=X2.ne N0__2 (some (AObj.box 155 (qa.cl q y43.2)));have q28:=X3.ne N0__3 (some (AObj.box 155 (qa.cl q y43.2)));have q29:=X7.ne N0__7 (some (AObj.box 155 (qa.cl q y43.2)));have q30:=X8.ne N0__8 (some (AObj.box 155 (qa.cl q y43.2)));have q31:=Ya X2.get X3.get X7.get X8.get q25.get q27.get q28.get q29.get q30.get q26.get (q27.ne N0__2 (some (AObj.box 155 (qa.cl q y45.2)))).get (q28.ne N0__3 (some (AObj.box 155 (qa.cl q y45.2)))).get (q29.ne N0__7 (some (AObj.box 155 (qa.cl q y45.2)))).get (q30.ne N0__8 (some (AObj.box 155 (qa.cl q y45.2)))).get (q26.ne (Ne.symm N0__2) (some (AObj.box 39 (Expr.cl y45.1)))).get ((q27.ne N0__2 (some (AObj.box 155 (qa.cl q y45.2)))).same 39 (Expr.cl y45.1)).get ((q28.ne N0__3 (some (AObj.box 155 (qa.cl q y45.2)))).ne N2__3 (some (AObj.box 39 (Expr.cl y45.1)))).get ((q29.ne N0__7 (some (AObj.box 155 (qa.cl q y45.2)))).ne N2__7 (some (AObj.box 39 (Expr.cl y45.1)))).get ((q30.ne N0__8 (some (AObj.box 155 (qa.cl q y45.2)))).ne N2__8 (some (AObj.box 39 (Expr.cl y45.1)))).get TT;have q32:=cj11 E0 E2 E3 E7 E8 q23 q24 q21 q22 X0.get q31;refine Jn j0 9 0 q32 ?_;refine S3 _ _ h44 _ _ _ q X0 (hq.le (Fr.gle hF hP)) ?_;refine QD q32 ?_;refine Qn q32 ?_;refine EC.wka (.cons (.refl _) (.cons (Wk.agl (.cons (.refl _) (.cons (.refl _) (.cons (.refl _) (.cons (.refl _) (.cons (Wk.of_eq (by rw[Expr.rows_eq ([v9,y39.1,y43.1])];rfl)) (.cons (.refl _) .nil))))))) .nil)) (S5 _ _ _ h46 _ _ _ q q25 (hq.le (Fr.gle (hF.set (by simp) (some (AObj.box 155 (qa.cl q y43.2)))) (hP.setp (hF.lt jl0) (some (AObj.box 155 (qa.cl q y43.2)))))) ?_);refine w_y q32 ?_;exact qf ⟨(List.set (List.set τ j0 (some (AObj.box 155 (qa.cl q y43.2)))) j0 (some (AObj.box 155 (qa.cl q y45.2)))),(q26.ne (Ne.symm N0__2) _),((q27.ne N0__2 _).same _ _),E2,N0__2,((hF.set (by simp) (some (AObj.box 155 (qa.cl q y43.2)))).set (by simp) (some (AObj.box 155 (qa.cl q y45.2)))),(((hP.setp (hF.lt jl0) (some (AObj.box 155 (qa.cl q y43.2)))).setp ((hF.set (by simp) (some (AObj.box 155 (qa.cl q y43.2)))).lt jl0) (some (AObj.box 155 (qa.cl q y45.2)))).set (((hF.set (by simp) (some (AObj.box 155 (qa.cl q y43.2)))).set (by simp) (some (AObj.box 155 (qa.cl q y45.2)))).ge q27.le) (some (AObj.box 39 (Expr.cl y45.1))))⟩
   rintro e s ⟨τ,X0,X2,E2,N0__2,hF,hP⟩
   refine qo (ze ?_);obtain rfl:=qc h;have hn47:(List.map (·.1) ([(j0,(AObj.box 155 (qa.cl q y45.2)))]:List (Nat×AObj))).Nodup:=(List.nodup_cons.2 ⟨(fun h=>by simp at h),List.nodup_nil⟩);have he48:=Fr.eq hF hn47 (List.forall_mem_cons.2 ⟨⟨jl0,(Gx.back X0 hP (hF.lt jl0))⟩,(fun x hx=>absurd hx (by simp))⟩);exact qU (fun _=>rfl) (xr (rs:= #[.cell 2 39]) (cj3 X2.get E2 TT)) ⟨_,hn47,(List.forall_mem_cons.2 ⟨⟨jl0,(ClO.bx (ClL.cons (Cn.cl (Cn.rows qd.cn _) _) (ClL.cons (Cn.cl (.v _) _) (ClL.cons (Cn.cl (.v _) _) (ClL.cons (Cn.cl (.v _) _) (ClL.cons (Cn.cl (.v _) _) (ClL.cons hq.c5 (ClL.cons hq.c6 (ClL.cons hq.c7 (ClL.cons hq.c8 ClL.nil))))))))))⟩,(fun x hx=>absurd hx (by simp))⟩),he48▸hP,_,(.refl _),(.ag (CnL.cons (.v _) (CnL.cons (.v _) (CnL.cons (.v _) (CnL.cons (.v _) (CnL.cons (Expr.cnr _) (CnL.cons (.v _) CnL.nil))))))),hK⟩
  ·refine xf (cj2 E42 hb38) (qm (qg (qh (fun e s=>∃τ:Store,Gx s j0 (AObj.box 155 (qa.cl q y36.2))∧Bx σ s i2 39 (Expr.cl v9)∧eP e 2 i2∧j0≠i2∧Fr σ τ [j0]∧Pre τ s) ?_ ?_)))
   ·refine w_x (cj7 E2 E3 X2.get X3.get X2.samea (X3.nea N2__3) TT) ?_;exact qf ⟨τ,(X0.ne (Ne.symm N0__2) _),(X2.same _ _),E2,N0__2,hF,(hP.set (hF.ge X2.le) (some (AObj.box 39 (Expr.cl v9))))⟩
   rintro e s ⟨τ,X0,X2,E2,N0__2,hF,hP⟩
   refine qo ?_;obtain rfl:=qc h;have hn49:(List.map (·.1) ([(j0,(AObj.box 155 (qa.cl q y36.2)))]:List (Nat×AObj))).Nodup:=(List.nodup_cons.2 ⟨(fun h=>by simp at h),List.nodup_nil⟩);have he50:=Fr.eq hF hn49 (List.forall_mem_cons.2 ⟨⟨jl0,(Gx.back X0 hP (hF.lt jl0))⟩,(fun x hx=>absurd hx (by simp))⟩);exact qU (fun _=>rfl) (xr (rs:= #[.cell 2 39]) (cj3 X2.get E2 TT)) ⟨_,hn49,(List.forall_mem_cons.2 ⟨⟨jl0,(ClO.bx (ClL.cons (Cn.cl (Cn.rows qd.cn _) _) (ClL.cons (Cn.cl (.v _) _) (ClL.cons (Cn.cl (.v _) _) (ClL.cons (Cn.cl (.v _) _) (ClL.cons (Cn.cl (.v _) _) (ClL.cons hq.c5 (ClL.cons hq.c6 (ClL.cons hq.c7 (ClL.cons hq.c8 ClL.nil))))))))))⟩,(fun x hx=>absurd hx (by simp))⟩),he50▸hP,_,(.refl _),(.ag (CnL.cons (.v _) (CnL.cons (.v _) (CnL.cons (.v _) (CnL.cons (.v _) (CnL.cons (Expr.cnr _) (CnL.cons (.v _) CnL.nil))))))),hK⟩
end Go.Proofs.Ytohmmfimedgccaa.E
end
section
namespace Go.Proofs.Ytohmmfimedgccaa.E
set_option linter.unusedVariables false
set_option linter.unusedSimpArgs false
def FM:W:=[[42],[47],[37]]
def FS:W:=[[43],[45]]
def FB:W:=[[42],[47],[37],[43],[45],[60],[61,61],[63]]
inductive H:Nat→W→Prop
 |name {w:List UInt8}:NmW w→H 3 [w]
 |num {n:List UInt8}:kd n=2→H 3 [n]
 |paren {g:W}:H 0 g→H 3 ([40]::(g++[[41]]))
 |n2:H 2 []
 |m2 {k:List UInt8} {g o:W}:k∈FM→H 3 g→H 2 o→H 2 (k::(g++o))
 |n1:H 1 []
 |m1 {k:List UInt8} {g o o':W}:k∈FS→H 3 g→H 2 o→H 1 o'→H 1 (k::((g++o)++o'))
 |c0:H 4 []
 |c1 {k:List UInt8} {g o o':W}:(k=[60]∨k=[61,61])→H 3 g→H 2 o→H 1 o'→H 4 (k::((g++o)++o'))
 |q0:H 5 []
 |q1 {a b:W}:H 0 a→H 0 b→H 5 ([63]::(a++[58]::b))
 |body {g o o' c q:W}:H 3 g→H 2 o→H 1 o'→H 4 c→H 5 q→H 0 (((g++o)++o')++(c++q))
noncomputable def rRow1 (O:RE):=B_syntax_reader_row_of_one qZ ZQ zJ O
noncomputable def rSc (O:RE):=B_syntax_reader_sum_c1 (rRow1 O)
noncomputable def rRow2 (O:RE):=B_syntax_reader_row_of_sum_c1 qZ ZQ zJ (rSc O)
noncomputable def rSum (O:RE):=B_syntax_reader_sum (rRow2 O)
noncomputable def rOne (B O:RE):=B_syntax_reader_one qZ zf QG zA B zJ O
noncomputable def rBody (B O:RE):=B_syntax_reader_body qZ zf zA B (rSum O) zJ
noncomputable def rOB:Nat→RE×RE
 |0=>(fun _=>none,fun _=>none)
 |k+1=>(rOne (rOB k).2 (rOB k).1,rBody (rOB k).2 (rOne (rOB k).2 (rOB k).1))
theorem z_rSum {O:RE}(h:Sat_syntax_reader_one O):Sat_syntax_reader_sum (rSum O):=
 W_syntax_reader_sum _ (W_syntax_reader_row_of_sum_c1 _ _ _ _ ZX z_cont Yr (W_syntax_reader_sum_c1 _ (W_syntax_reader_row_of_one _ _ _ _ ZX z_cont Yr h)))
theorem z_rOB:∀k,Sat_syntax_reader_one (rOB k).1∧Sat_syntax_reader_body (rOB k).2
 |0=>by constructor<;>(intro a r h;cases h)
 | k + 1 => by
  obtain⟨h1,h2⟩:=z_rOB k;have h3:Sat_syntax_reader_one (rOne (rOB k).2 (rOB k).1):=W_syntax_reader_one _ _ _ _ _ _ _ ZX JG Yq Zr h2 Yr h1;exact⟨h3,W_syntax_reader_body _ _ _ _ _ _ ZX JG Zr h2 (z_rSum h3) Yr⟩
variable {X:Cx} {r r':qa} {Q Q':W→Prop} {m:Nat}
def SpN (X:Cx)(m:Nat)(GN fo:W→Prop)(f:RE):Prop:=∀(r:qa) (Q Q':W→Prop),St X Q r→(X.l.length:Int)+1≤m+r.pos→(∀D,Q D→∃g D',D=g++D'∧GN g∧fo D'∧Q' D')→
 ∃e r',f r=some (e,r')∧Sm e∧r.pos≤r'.pos∧St X Q' r'
theorem sm2 {k:Int}{s:ByteArray}{n d a:Int}{x y:Expr}(h:Sm x)(h2:Sm y):Sm (Expr.mk k s n d [x,y] a):=sml (by simp) fun z hz=>by
 rcases List.mem_cons.1 hz with rfl|hz
 ·exact h
 ·rw[List.mem_singleton.1 hz];exact h2
theorem row_st (hX:X.ok)(S:W)(hS:S.length≤100)(hk3:∀k∈S,kd k=3)(GN TL fo:W→Prop)(hT:∀o,TL o→o=[]∨∃k g o',o=k::(g++o')∧k∈S∧GN g∧TL o')(hfo:∀k D,k∈S→fo (k::D)){N:RE}(hN:SpN X m GN fo N):
  SpN X m (fun x=>∃g o,x=g++o∧GN g∧TL o) (fun D=>nof S D∧fo D) (fun r=>B_syntax_reader_row_of_one qZ ZQ zJ N r (S.map bs) ()):=by
 intro r Q Q' h hf hq;have hl:=hX.hl;have hr:=h.in.pos;obtain⟨e1,r1,a1,a2,a3,a4⟩:=hN r Q (fun D=>∃o D',D=o++D'∧TL o∧(nof S D'∧fo D')∧Q' D') h hf (by
  intro D hD;obtain⟨x,D',rfl,⟨g,o,rfl,hg,ho⟩,hn,hQ⟩:=hq D hD;refine⟨g,o++D',List.append_assoc _ _ _,hg,?_,o,D',rfl,ho,hn,hQ⟩;rcases hT o ho with rfl|⟨k,g,o',rfl,hk,_⟩
  ·exact hn.2
  ·exact hfo k _ hk)
 obtain⟨w,hw,hz⟩:=JS (f:=qY (S.map bs) ZQ zJ qZ N)
  (fun v=>St X (fun D=>∃o D',D=o++D'∧TL o∧(nof S D'∧fo D')∧Q' D') v.1∧r.pos≤v.1.pos∧Sm v.2)
  (fun v=>(5000 - v.1.pos).toNat) (fun w=>Sm w.2∧r.pos≤w.1.pos∧St X Q' w.1)
  (by
   rintro⟨r2,e⟩ ⟨h1,h2,h3⟩
   simp only at h1 h2 h3;by_cases e0:r2.e=0
   ·have hp:=(h1.hi hX).2 e0;obtain⟨t,t1,t2,_,t4,t5⟩:=QV hX h1;obtain⟨b,b1,b2⟩:=cont_eq (S.map bs) t.text (by simpa using hS);by_cases hgo:t.kind=3∧b=true
    ·obtain⟨hk,rfl⟩:=hgo;have hmem:=b2.1 rfl;have s1:St X (fun D=>∃g D1,D=g++D1∧GN g∧fo D1∧∃o D',D1=o++D'∧TL o∧(nof S D'∧fo D')∧Q' D') (inc r2):=qqE hX t5 (by omega) (fun _=>t4 (by rw[hk];decide)) (by
      rintro D ⟨⟨o,D',rfl,ho,hn,hQ⟩,w,D2,e1,e2,_⟩
      rcases hT o ho with rfl|⟨k,g,o',rfl,hk',hg,ho'⟩
      ·exfalso;obtain⟨s,hs,hse⟩:=List.mem_map.1 hmem;rw[e2,YE]at hse;exact hn.1 s hs (by rw[show D'=w::D2 from e1,hse];rfl)
      ·refine⟨k,g++(o'++D'),by simp,g,o'++D',rfl,hg,?_,o',D',rfl,ho',hn,hQ⟩;rcases hT o' ho' with rfl|⟨k2,g2,o2,rfl,hk2,_⟩
       ·exact hn.2
       ·exact hfo k2 _ hk2)
     have hip:=JC h1.in (by omega);obtain⟨z,r3,k1,k2,k3,k4⟩:=hN (inc r2) _ _ s1 (by omega) (fun D hD=>hD);obtain⟨e',r4,q1,q2,q3,q4⟩:=Qt hX k4 (e:=Expr.mk 13 t.text 0 0 [e,z] t.at_) (sm2 h3 k2) t2;have:=(q4.hi hX).1;refine .inl ⟨(r4,e'),?_,⟨q4,by simp only;omega,q2⟩,by simp only;omega⟩;unfold qY;dsimp only;simp only[decide_eq_true e0,if_true,t1,Option.bind_some,decide_eq_true hk,Bool.not_true,Bool.false_eq_true,if_false,b1,Bool.or_self,k1,q1]
    ·refine .inr ⟨(r2,e),?_,h3,h2,t5.mono ?_⟩
     ·unfold qY;dsimp only;by_cases hk:t.kind=3
      ·have hb:b=false:=by cases b;rfl;exact absurd ⟨hk,rfl⟩ hgo
       simp[e0,t1,hk,b1,hb]
      ·simp[e0,t1,hk]
     ·rintro D ⟨⟨o,D',rfl,ho,hn,hQ⟩,w,D2,e1,e2,e3,_⟩
      rcases hT o ho with rfl|⟨k,g,o',rfl,hk',_⟩
      ·exact hQ
      ·obtain⟨rfl,_⟩:=cap e1;exact absurd ⟨by rw[e3];exact hk3 _ hk',b2.2 (by rw[e2];exact List.mem_map_of_mem hk')⟩ hgo
   ·refine .inr ⟨(r2,e),?_,h3,h2,.inl (h1.err e0)⟩;unfold qY;dsimp only;rw[decide_eq_false e0];rfl)
  (v:=(r1,e1)) ⟨a4,a3,a2⟩
 obtain⟨h1,h2,h3⟩:=hz;refine⟨w.2,w.1,?_,h1,h2,h3⟩;simp only[B_syntax_reader_row_of_one,a1,Option.bind_some,hw]
theorem H2_shape {o:W}(h:H 2 o):o=[]∨∃k g o',o=k::(g++o')∧k∈FM∧H 3 g∧H 2 o':=by
 cases h with
 |n2=>exact .inl rfl
 |m2 h1 h2 h3=>exact .inr ⟨_,_,_,rfl,h1,h2,h3⟩
theorem H1_shape {o:W}(h:H 1 o):o=[]∨∃k g o',o=k::(g++o')∧k∈FS∧(∃g1 o1,g=g1++o1∧H 3 g1∧H 2 o1)∧H 1 o':=by
 cases h with
 |n1=>exact .inl rfl
 |m1 h1 h2 h3 h4=>exact .inr ⟨_,_,_,rfl,h1,⟨_,_,rfl,h2,h3⟩,h4⟩
def SumS (x:W):Prop:=∃g o,x=g++o∧(∃g1 o1,g=g1++o1∧H 3 g1∧H 2 o1)∧H 1 o
theorem sum_st (hX:X.ok){O:RE}(hO:SpN X m (H 3) (fun _=>True) O):SpN X m SumS (fun D=>nof FS D∧nof FM D) (rSum O):=by
 have h1:=row_st hX FM (by decide) (by decide) (H 3) (H 2) (fun _=>True) (fun o=>H2_shape) (fun _ _ _=>trivial) hO;have h2:SpN X m (fun x=>∃g o,x=g++o∧H 3 g∧H 2 o) (nof FM) (rSc O):=fun r Q Q' h hf hq=>by
  obtain⟨e,r',k1,k2⟩:=h1 r Q Q' h hf (fun D hD=>by
   obtain⟨g,D',e,hg,hn,hQ⟩:=hq D hD;exact⟨g,D',e,hg,⟨hn,trivial⟩,hQ⟩)
  refine⟨e,r',?_,k2⟩;unfold rSc B_syntax_reader_sum_c1 rRow1;rw[show ZN=FM.map bs from rfl];have k1:B_syntax_reader_row_of_one qZ ZQ zJ O r (FM.map bs) ()=some (e,r'):=k1;rw[k1];rfl
 have h3:=row_st hX FS (by decide) (by decide) _ (H 1) (nof FM) (fun o=>H1_shape) (fun k D hk s hs e=>by
  simp only[List.head?_cons,Option.some.injEq]at e;subst e;exact absurd hs (by revert hk;revert k;decide)) h2
 intro r Q Q' h hf hq;obtain⟨e,r',k1,k2⟩:=h3 r Q Q' h hf hq;refine⟨e,r',?_,k2⟩;unfold rSum B_syntax_reader_sum rRow2;rw[show Jo=FS.map bs from rfl];have:B_syntax_reader_row_of_sum_c1 qZ ZQ zJ (rSc O) r (FS.map bs) ()=some (e,r'):=k1;rw[this];rfl
variable {X:Cx} {r r':qa} {Q Q':W→Prop} {m:Nat}
theorem w63:(⟨#[63]⟩:ByteArray)=bs [63]:=rfl
theorem w58:(⟨#[58]⟩:ByteArray)=bs [58]:=rfl
theorem H3_head {g:W}(h:H 3 g):∃w g',g=w::g'∧(NmW w∨kd w=2∨w=[40]):=by
 cases h with
 |name h=>exact⟨_,_,rfl,.inl h⟩
 |num h=>exact⟨_,_,rfl,.inr (.inl h)⟩
 |paren _=>exact⟨_,_,rfl,.inr (.inr rfl)⟩
theorem nofB {w:List UInt8}{D:W}(h:w∉FB):nof FB (w::D):=fun s hs e=>by
 cases e;exact h hs
def SpM (X:Cx)(m:Nat)(GN fo:W→Prop)(f:RE):Prop:=1≤m→SpN X m GN fo f
theorem one_st (hX:X.ok){B O:RE}(hB:SpM X m (H 0) (nof FB) B)(hO:SpM X m (H 3) (fun _=>True) O):SpN X (m+1) (H 3) (fun _=>True) (rOne B O):=by
 intro r Q Q' h hf hq;have hl:=hX.hl;have hr:=h.in.pos;obtain⟨t,t1,t2,_,t4,t5⟩:=QV hX h;unfold rOne B_syntax_reader_one;by_cases e1:r.e≠0
 ·exact⟨nilE,r,by simp only[t1,Option.bind_some,decide_eq_false e1,Bool.not_false,if_true];rfl,qqv,Int.le_refl _,.inl (h.err e1)⟩
 have e0:r.e=0:=Classical.byContradiction e1;have hp:=(h.hi hX).2 e0;obtain⟨b,r1,c1,c2,c3⟩:=zL hX t5 [45];simp only[t1,Option.bind_some,decide_eq_true e0,Bool.not_true,Bool.false_eq_true,if_false,w45,w40,w41,w0,c1];have hd0:∀{k:List UInt8} {D:W},Q (k::D)→NmW k∨kd k=2∨k=[40]:=fun {k D} hD=>by
  obtain⟨g,D',e,hg,_⟩:=hq _ hD;obtain⟨w,g',rfl,hw⟩:=H3_head hg;obtain⟨rfl,_⟩:=cap e;exact hw
 cases b with
 | true =>
  obtain⟨_,p1,lt1,s1⟩:=c2 rfl;have hF:Fa X r1:=s1.F fun D ⟨hD,_⟩=>by
   rcases hd0 hD with h|h|h
   ·exact absurd h.1 (by decide)
   ·exact absurd h (by decide)
   ·exact absurd h (by decide)
  obtain⟨e,r2,k1,k2,k3,k4⟩:=hO (by omega) r1 (fun _=>False) Q' (.inl hF) (by omega) (fun D hD=>hD.elim);obtain⟨e',r3,q1,q2,q3,q4⟩:=Qt hX k4 (e:=Expr.mk 13 (bs [45]) 0 0 [Expr.mk 12 (bs []) 0 0 [] t.at_,e] t.at_) (sm2 sm0 k2) t2;exact⟨e',r3,by simp only[if_true,k1,Option.bind_some,q1],q2,by omega,q4⟩
 | false =>
  obtain⟨rfl,s1⟩:=c3 rfl;simp only[Bool.false_eq_true,if_false];obtain⟨b,r2,d1,d2,d3⟩:=zL hX s1 [40];rw[d1];simp only[Option.bind_some];cases b with
  | true =>
   obtain⟨_,p2,lt2,s2⟩:=d2 rfl;obtain⟨e,r3,k1,k2,k3,k4⟩:=hB (by omega) r2 _ (fun D=>∃D',D=[41]::D'∧Q' D') s2 (by omega) (by
    rintro D ⟨⟨hD,_⟩,_⟩
    obtain⟨g,D',e,hg,_,hQ⟩:=hq _ hD;cases hg with
    |name h=>obtain⟨rfl,_⟩:=cap e;exact absurd h.1 (by decide)
    |num h=>obtain⟨rfl,_⟩:=cap e;exact absurd h (by decide)
    |paren h=>obtain⟨_,rfl⟩:=cap e;exact⟨_,[41]::D',by simp,h,nofB (by decide),D',rfl,hQ⟩)
   obtain⟨r4,m1,m2,_,m3⟩:=zH hX k4 [41] (fun D hD=>hD);exact⟨e,r4,by simp only[if_true,k1,Option.bind_some,m1],k2,by omega,m3⟩
  | false =>
   obtain⟨rfl,s2⟩:=d3 rfl;simp only[Bool.false_eq_true,if_false];by_cases hk:t.kind=2
   ·have hlt:=t4 (by rw[hk];decide);have s3:St X Q' (inc r2):=qqE hX s2 (by omega) (fun _=>hlt) (by
     rintro D ⟨⟨⟨hD,w,D1,e1,_,e3,_⟩,_⟩,hn⟩
     obtain⟨g,D',rfl,hg,_,hQ⟩:=hq _ hD;cases hg with
     |name h=>obtain⟨rfl,_⟩:=cap e1;exact absurd (h.1.symm.trans (e3.symm.trans hk)) (by decide)
     |num h=>exact⟨_,D',rfl,hQ⟩
     |paren h=>exact absurd rfl hn)
    have hip:=JC h.in (by omega);obtain⟨e',r3,q1,q2,q3,q4⟩:=Qt hX s3 (e:=Expr.mk 12 (bs []) t.n 0 [] t.at_) sm0 t2;refine⟨e',r3,?_,q2,by omega,q4⟩;simp only[decide_eq_true hk,if_true,q1,Option.bind_some]
   ·obtain⟨w,r3,n1,n2,n3,n4⟩:=Jh hX s2 (by omega) (Q':=Q') (by
     rintro D ⟨⟨⟨hD,w,D1,e1,_,e3,_⟩,_⟩,hn⟩
     obtain⟨g,D',rfl,hg,_,hQ⟩:=hq _ hD;cases hg with
     |name h=>exact⟨_,D',rfl,h.1,h.2,hQ⟩
     |num h=>obtain⟨rfl,_⟩:=cap e1;exact absurd (e3.trans h) hk
     |paren h=>exact absurd rfl hn)
    obtain⟨e',r4,q1,q2,q3,q4⟩:=Qt hX n4 (e:=Expr.mk 11 w.text 0 0 [] t.at_) sm0 t2;refine⟨e',r4,?_,q2,by omega,q4⟩;simp only[decide_eq_false hk,Bool.false_eq_true,if_false,n1,Option.bind_some,q1]
def C5 (Q':W→Prop)(D:W):Prop:=∃q D',D=q++D'∧H 5 q∧nof FB D'∧Q' D'
def C4 (Q':W→Prop)(D:W):Prop:=∃c D',D=c++D'∧H 4 c∧C5 Q' D'
theorem nof_sub {l l':W}{D:W}(h:nof l D)(hs:∀s∈l',s∈l):nof l' D:=fun s h'=>h s (hs s h')
theorem C5_nof {D:W}(h:C5 Q' D):nof FS D∧nof FM D:=by
 obtain⟨q,D',rfl,hq,hn,_⟩:=h;cases hq with
 |q0=>exact⟨nof_sub hn (by decide),nof_sub hn (by decide)⟩
 |q1 _ _=>exact⟨fun s hs e=>by cases e;exact absurd hs (by decide),fun s hs e=>by cases e;exact absurd hs (by decide)⟩
theorem C4_nof {D:W}(h:C4 Q' D):nof FS D∧nof FM D:=by
 obtain⟨c,D',rfl,hc,h5⟩:=h;cases hc with
 |c0=>exact C5_nof h5
 |c1 hk _ _ _=>rcases hk with rfl|rfl<;>exact⟨fun s hs e=>by cases e;exact absurd hs (by decide),fun s hs e=>by cases e;exact absurd hs (by decide)⟩
theorem C4_cmp {k:List UInt8}{D:W}(h:C4 Q' (k::D))(hk:k=[60]∨k=[61,61]):∃g D',D=g++D'∧SumS g∧(nof FS D'∧nof FM D')∧C5 Q' D':=by
 obtain⟨c,D',e,hc,h5⟩:=h;cases hc with
 | c0 =>
  exfalso;obtain⟨q,D2,rfl,hq,hn,_⟩:=h5;cases hq with
  |q0=>exact hn k (by rcases hk with rfl|rfl<;>decide) (by rw[show D2=k::D from e.symm];rfl)
  |q1 _ _=>obtain⟨rfl,_⟩:=cap e;rcases hk with h|h<;>exact absurd h (by decide)
 | c1 _ h1 h2 h3 =>
  obtain⟨_,rfl⟩:=cap e;exact⟨_,D',rfl,⟨_,_,rfl,⟨_,_,rfl,h1,h2⟩,h3⟩,C5_nof h5,h5⟩
theorem C4_end {D:W}(h:C4 Q' D)(h1:D.head?≠some [60])(h2:D.head?≠some [61,61]):C5 Q' D:=by
 obtain⟨c,D',rfl,hc,h5⟩:=h;cases hc with
 |c0=>exact h5
 |c1 hk _ _ _=>rcases hk with rfl|rfl;exact absurd rfl h1;exact absurd rfl h2
def K2:W:=[[60],[61,61]]
theorem body_st (hX:X.ok){B O:RE}(hB:SpM X m (H 0) (nof FB) B)(hO:SpN X (m+1) (H 3) (fun _=>True) O):SpN X (m+1) (H 0) (nof FB) (rBody B O):=by
 intro r Q Q' h hf hq;have hl:=hX.hl;have hr:=h.in.pos;unfold rBody B_syntax_reader_body;by_cases e1:r.e≠0
 ·exact⟨nilE,r,by simp only[decide_eq_false e1,Bool.not_false,if_true];rfl,qqv,Int.le_refl _,.inl (h.err e1)⟩
 have e0:r.e=0:=Classical.byContradiction e1;simp only[decide_eq_true e0,Bool.not_true,Bool.false_eq_true,if_false,w63,w58];have hsum:=sum_st hX hO;obtain⟨ea,r1,a1,a2,a3,a4⟩:=hsum r Q (C4 Q') h hf (by
  intro D hD;obtain⟨g,D',rfl,hg,hn,hQ⟩:=hq D hD;cases hg with
  | body h1 h2 h3 h4 h5 =>
   have h4':C4 Q' (_++(_++D')):=⟨_,_,rfl,h4,_,D',rfl,h5,hn,hQ⟩;exact⟨_,_,by simp only[List.append_assoc],⟨_,_,rfl,⟨_,_,rfl,h1,h2⟩,h3⟩,C4_nof h4',h4'⟩)
 obtain⟨w,hw,hz⟩:=zn (f:=zt zf zJ qZ (rSum O)) (fun i v=>v.1=(i:Int)∧St X (fun D=>C4 Q' D∧∀j,j<i→∀s,K2[j]? =some s→D.head?≠some s) v.2.1∧Sm v.2.2∧r.pos≤v.2.1.pos) 2
  (fun w=>St X (C5 Q') w.1∧Sm w.2∧r.pos≤w.1.pos)
  (by
   rintro i ⟨n,r2,e⟩ hi ⟨hn,h1,h2,h3⟩
   simp only at hn h1 h2 h3;subst hn;obtain⟨s,hs,hs2,hs3⟩:∃s,K2[i]? =some s∧qS qC (i:Int)=some (bs s)∧(s=[60]∨s=[61,61]):=by
    match i,hi with
    |0,_=>exact⟨_,rfl,rfl,.inl rfl⟩
    |1,_=>exact⟨_,rfl,rfl,.inr rfl⟩
   have hlen:decide (((i:Nat):Int)<((List.length qC:Nat):Int))=true:=decide_eq_true (by show(i:Int)<2;omega);obtain⟨t,t1,t2,_⟩:=QV hX h1;obtain⟨b,r3,c1,c2,c3⟩:=zL hX h1 s;cases b with
   | true =>
    obtain⟨_,p3,lt3,s3⟩:=c2 rfl;obtain⟨z,r4,k1,k2,k3,k4⟩:=hsum r3 _ (C5 Q') s3 (by omega) (fun D hD=>C4_cmp hD.1 hs3);obtain⟨e',r5,q1,q2,q3,q4⟩:=Qt hX k4 (e:=Expr.mk 13 (bs s) 0 0 [e,z] t.at_) (sm2 h2 k2) t2;refine .inr ⟨(r5,e'),?_,q4,q2,by simp only;omega⟩;unfold zt;dsimp only;simp only[hlen,if_true,hs2,Option.bind_some,t1,c1,k1,q1]
   | false =>
    obtain⟨rfl,s3⟩:=c3 rfl;refine .inl ⟨(IntKind.i64.wrap ((i:Int)+1),r3,e),?_,Zm (n:=2) (by omega) (by unfold maxLen;decide),s3.mono ?_,h2,h3⟩
    ·unfold zt;dsimp only;simp only[hlen,if_true,hs2,Option.bind_some,t1,c1,Bool.false_eq_true,if_false]
    ·rintro D ⟨⟨hD,hj⟩,hne⟩
     refine⟨hD,fun j hj1 s' hs'=> ?_⟩;by_cases hji:j=i
     ·subst hji;rw[hs]at hs';obtain rfl:=Option.some.inj hs';exact hne
     ·exact hj j (by omega) s' hs')
  (by
   rintro⟨n,r2,e⟩ ⟨hn,h1,h2,h3⟩
   simp only at hn h1 h2 h3;subst hn;refine⟨(r2,e),?_,h1.mono fun D hD=>C4_end hD.1 (hD.2 0 (by decide) _ rfl) (hD.2 1 (by decide) _ rfl),h2,h3⟩;unfold zt;dsimp only;rw[decide_eq_false (by show¬((2:Nat):Int)<2;decide)];rfl)
  (v0:=((0:Int),r1,ea)) ⟨rfl,a4.mono fun D hD=>⟨hD,fun j hj=>absurd hj (by omega)⟩,a2,a3⟩
 obtain⟨r2,eb⟩:=w;obtain⟨h1,h2,h3⟩:=hz;simp only at h1 h2 h3;obtain⟨t,t1,t2,_⟩:=QV hX h1;obtain⟨b,r3,c1,c2,c3⟩:=zL hX h1 [63];simp only[a1,Option.bind_some,hw,t1,c1];cases b with
 | true =>
  obtain⟨_,p3,lt3,s3⟩:=c2 rfl;obtain⟨y,r4,k1,k2,k3,k4⟩:=hB (by omega) r3 _ (fun D=>∃b D',D=[58]::(b++D')∧H 0 b∧nof FB D'∧Q' D') s3 (by omega) (by
   rintro D ⟨q,D',e,hq5,hn,hQ⟩
   cases hq5 with
   |q0=>exact absurd (by rw[show D'=[63]::D from e.symm];rfl) (hn [63] (by decide))
   |q1 h4 h5=>obtain⟨_,rfl⟩:=cap e;exact⟨_,_,List.append_assoc _ _ _,h4,nofB (by decide),_,D',rfl,h5,hn,hQ⟩)
  obtain⟨r5,m1,m2,_,m3⟩:=zH hX k4 [58] (Q':=fun D=>∃b D',D=b++D'∧H 0 b∧nof FB D'∧Q' D') (by
   rintro D ⟨b,D',rfl,h⟩
   exact⟨_,rfl,b,D',rfl,h⟩)
  obtain⟨z,r6,l1,l2,l3,l4⟩:=hB (by omega) r5 _ Q' m3 (by omega) (fun D hD=>hD);obtain⟨e',r7,q1,q2,q3,q4⟩:=Qt hX l4 (e:=Expr.mk 13 (bs [63]) 0 0 [eb,y,z] t.at_) (sml (by simp) (by
   intro x hx;simp only[List.mem_cons,List.not_mem_nil,or_false]at hx;rcases hx with rfl|rfl|rfl
   ·exact h2
   ·exact k2
   ·exact l2)) t2
  exact⟨e',r7,by simp only[if_true,k1,Option.bind_some,m1,l1,q1],q2,by omega,q4⟩
 | false =>
  obtain⟨rfl,s3⟩:=c3 rfl;refine⟨eb,r3,by simp,h2,h3,s3.mono ?_⟩
  rintro D ⟨⟨q,D',rfl,hq5,hn,hQ⟩,hne⟩
  cases hq5 with
  |q0=>exact hQ
  |q1 _ _=>exact absurd rfl hne
theorem OB_all (hX:X.ok):∀m,SpM X m (H 3) (fun _=>True) (rOB m).1∧SpM X m (H 0) (nof FB) (rOB m).2
 |0=>⟨fun h=>absurd h (by decide),fun h=>absurd h (by decide)⟩
 | m + 1 => by
  obtain⟨h1,h2⟩:=OB_all hX m;have h3:=one_st hX h2 h1;exact⟨fun _=>h3,fun _=>body_st hX h2 h3⟩
end Go.Proofs.Ytohmmfimedgccaa.E
end
section
namespace Go.Proofs.Ytohmmfimedgccaa.E
set_option maxRecDepth 100000
set_option maxHeartbeats 4000000
set_option linter.unusedVariables false
set_option linter.unusedSimpArgs false
noncomputable def B_syntax_reader_node_c1 (f0:qa→Option (qd×qa))(a0:Node)(a1:qa):Option (Unit×Node×qa):=
 (f0 a1).bind fun y1=>
 (Ql 16 a0.params ([y1.1.text])).bind fun y3=>
 some ((),(Node.mk a0.name y3 a0.budget a0.body a0.at_),y1.2)
theorem W_syntax_reader_node_c1 (f0)(S0:Sat_syntax_reader_name f0):Sat_syntax_reader_node_c1 (B_syntax_reader_node_c1 f0):=by
 intro a0 a1 r h σ K j0 j0_1 j1 j1_900 q H0 H0_1 H1 H1_900 N0__1 N0__1_900 N1__1_900 hq hK;refine Qw (Q:=fun r s=>∃l:List (Nat×AObj),(l.map (·.1)).Nodup∧(∀x∈l,x.1<σ.length∧ClO σ.length x.2)∧Pq σ l K r s) Try.func118 rfl rfl (by kernel_rfl) (fun _ _ h=>h) ?_;unfold B_syntax_reader_node_c1 at h;have hP:=Pre.refl σ;have jl0:=H0.lt;have jl0_1:=H0_1.lt;have jl1:=H1.lt;have jl1_900:=H1_900.lt;have hF:=Fr.refl σ [j0,j0_1,j1_900];have E0:qu [(.pt j0 0),(.pt j1 0)] 0=(.pt j0 0):=rfl;have E1:qu [(.pt j0 0),(.pt j1 0)] 1=(.pt j1 0):=rfl;have TT:=cj11 Expr.rlen T_153 T_2 T_3 T_39 T_85 T_9 T_97 T_99 qd.cle qa.cle;obtain⟨y1,h2,h⟩:=qb h;obtain⟨y3,h4,h⟩:=qb h;have hv6:(List.map C_s a0.params)++([[(.v (.string y1.1.text))]]:List (List PV))=(List.map C_s y3):=by rw[←(zG h4).2,List.map_append];rfl
 have hb7:((List.map C_s a0.params).length+([[(.v (.string y1.1.text))]]:List (List PV)).length)*16≤140737488355328∧(List.map C_s a0.params).length+([[(.v (.string y1.1.text))]]:List (List PV)).length≤140737488355328:=by simpa [Expr.rlen] using (zG h4).1
 have q5:=Gx.ap H1_900 H0_1;have ha8:=Yu (i:=j0_1) (s:=(List.set σ j1_900 (some (AObj.box 155 (qa.cl q y1.2))))) (n:=List.length a0.params) (k:=List.length y3) (x:=(.sl [[(.v (.string y1.1.text))]])) (rows:=(List.map C_s a0.params)) (ns:=([[(.v (.string y1.1.text))]]:List (List PV))) (vr:=(List.map C_s y3)) T_97 T_9 (H0_1.ne q5 (some (AObj.box 155 [(.sl (List.map qd.cl y1.2.l)),(.v (.int .i64 y1.2.end_)),(.v (.int .i64 y1.2.pos)),(.v (.int .i64 y1.2.at_)),(.v (.int .i64 y1.2.e)),q.c5,q.c6,q.c7,q.c8]))).get (by simp[Expr.rlen]) (ZI (f:=C_s) (n:=1) (fun _=>rfl) _) (Jg rfl) (by simp) (by decide) hb7 hv6 (by simp[Expr.rlen]) rfl;have q1:=Gx.ap H0_1 H1;have q2:=Gx.ap H0 H0_1;have q3:=Gx.ap H0_1 H0;have q4:=Gx.ap H0_1 H1_900;have q6:=hget H0_1.get q5;have q7:=hget H1.get (Ne.symm N1__1_900);have q8:=hget H0.get (Ne.symm N0__1_900);have q9:=Gx.same H1_900 (AObj.box 155 (qa.cl q y1.2));have q10:=Gx.same (H0_1.ne q5 (some (AObj.box 155 (qa.cl q y1.2)))) (tkO 9 1 (List.length y3));have q11:=Gx.same ((H0.ne (Ne.symm N0__1_900) (some (AObj.box 155 (qa.cl q y1.2)))).ne q3 (some (tkO 9 1 (List.length y3)))) (AObj.box 99 [(.v (.string a0.name)),(.ow j0_1 (List.map C_s y3)),(.v (.int .i64 a0.budget)),(.v (.int .i64 a0.body.kind)),(.v (.string a0.body.name)),(.v (.int .i64 a0.body.n)),(.v (.int .i64 a0.body.d)),(.sl (Expr.rows a0.body.args)),(.v (.int .i64 a0.body.at_)),(.v (.int .i64 a0.at_))]);have q12:=Ya q6 q7 H0.get H0_1.get H1.get H1_900.get (H0.ne (Ne.symm N0__1_900) (some (AObj.box 155 (qa.cl q y1.2)))).get (H0_1.ne q5 (some (AObj.box 155 (qa.cl q y1.2)))).get (H1.ne (Ne.symm N1__1_900) (some (AObj.box 155 (qa.cl q y1.2)))).get q9.get ha8 ((H0.ne (Ne.symm N0__1_900) (some (AObj.box 155 (qa.cl q y1.2)))).ne q3 (some (tkO 9 1 (List.length y3)))).get q10.get ((H1.ne (Ne.symm N1__1_900) (some (AObj.box 155 (qa.cl q y1.2)))).ne q1 (some (tkO 9 1 (List.length y3)))).get (q9.ne q4 (some (tkO 9 1 (List.length y3)))).get q11.get (q10.ne q2 (some (AObj.box 99 [(.v (.string a0.name)),(.ow j0_1 (List.map C_s y3)),(.v (.int .i64 a0.budget)),(.v (.int .i64 a0.body.kind)),(.v (.string a0.body.name)),(.v (.int .i64 a0.body.n)),(.v (.int .i64 a0.body.d)),(.sl (Expr.rows a0.body.args)),(.v (.int .i64 a0.body.at_)),(.v (.int .i64 a0.at_))]))).get (((H1.ne (Ne.symm N1__1_900) (some (AObj.box 155 (qa.cl q y1.2)))).ne q1 (some (tkO 9 1 (List.length y3)))).ne N0__1 (some (AObj.box 99 [(.v (.string a0.name)),(.ow j0_1 (List.map C_s y3)),(.v (.int .i64 a0.budget)),(.v (.int .i64 a0.body.kind)),(.v (.string a0.body.name)),(.v (.int .i64 a0.body.n)),(.v (.int .i64 a0.body.d)),(.sl (Expr.rows a0.body.args)),(.v (.int .i64 a0.body.at_)),(.v (.int .i64 a0.at_))]))).get ((q9.ne q4 (some (tkO 9 1 (List.length y3)))).ne N0__1_900 (some (AObj.box 99 [(.v (.string a0.name)),(.ow j0_1 (List.map C_s y3)),(.v (.int .i64 a0.budget)),(.v (.int .i64 a0.body.kind)),(.v (.string a0.body.name)),(.v (.int .i64 a0.body.n)),(.v (.int .i64 a0.body.d)),(.sl (Expr.rows a0.body.args)),(.v (.int .i64 a0.body.at_)),(.v (.int .i64 a0.at_))]))).get TT;have q13:=cj4 E0 E1 q8 q12;refine Jn j1_900 6 0 q13 ?_;refine S0 _ _ h2 _ _ _ q H1_900 (hq.le (Fr.gle hF hP)) ?_;refine QD q13 ?_;refine Qn q13 ?_;obtain rfl:=qc h;have hn9:(List.map (·.1) ([(j0,(AObj.box 99 [(.v (.string a0.name)),(.ow j0_1 (List.map C_s y3)),(.v (.int .i64 a0.budget)),(.v (.int .i64 a0.body.kind)),(.v (.string a0.body.name)),(.v (.int .i64 a0.body.n)),(.v (.int .i64 a0.body.d)),(.sl (Expr.rows a0.body.args)),(.v (.int .i64 a0.body.at_)),(.v (.int .i64 a0.at_))])),(j0_1,(tkO 9 1 (List.length y3))),(j1_900,(AObj.box 155 (qa.cl q y1.2)))]:List (Nat×AObj))).Nodup:=(List.nodup_cons.2 ⟨(by simp only[List.map_cons,List.map_nil,List.mem_cons,List.not_mem_nil,or_false,not_or];exact⟨q2,N0__1_900⟩),(List.nodup_cons.2 ⟨(by simp only[List.map_cons,List.map_nil,List.mem_cons,List.not_mem_nil,or_false,not_or];exact q4),(List.nodup_cons.2 ⟨(fun h=>by simp at h),List.nodup_nil⟩)⟩)⟩);have he10:=Fr.eq (((hF.set (by simp) (some (AObj.box 155 (qa.cl q y1.2)))).set (by simp) (some (tkO 9 1 (List.length y3)))).set (by simp) (some (AObj.box 99 [(.v (.string a0.name)),(.ow j0_1 (List.map C_s y3)),(.v (.int .i64 a0.budget)),(.v (.int .i64 a0.body.kind)),(.v (.string a0.body.name)),(.v (.int .i64 a0.body.n)),(.v (.int .i64 a0.body.d)),(.sl (Expr.rows a0.body.args)),(.v (.int .i64 a0.body.at_)),(.v (.int .i64 a0.at_))]))) hn9 (List.forall_mem_cons.2 ⟨⟨jl0,(Gx.back q11 (((hP.setp (hF.lt jl1_900) (some (AObj.box 155 (qa.cl q y1.2)))).setp ((hF.set (by simp) (some (AObj.box 155 (qa.cl q y1.2)))).lt jl0_1) (some (tkO 9 1 (List.length y3)))).setp (((hF.set (by simp) (some (AObj.box 155 (qa.cl q y1.2)))).set (by simp) (some (tkO 9 1 (List.length y3)))).lt jl0) (some (AObj.box 99 [(.v (.string a0.name)),(.ow j0_1 (List.map C_s y3)),(.v (.int .i64 a0.budget)),(.v (.int .i64 a0.body.kind)),(.v (.string a0.body.name)),(.v (.int .i64 a0.body.n)),(.v (.int .i64 a0.body.d)),(.sl (Expr.rows a0.body.args)),(.v (.int .i64 a0.body.at_)),(.v (.int .i64 a0.at_))]))) ((((hF.set (by simp) (some (AObj.box 155 (qa.cl q y1.2)))).set (by simp) (some (tkO 9 1 (List.length y3)))).set (by simp) (some (AObj.box 99 [(.v (.string a0.name)),(.ow j0_1 (List.map C_s y3)),(.v (.int .i64 a0.budget)),(.v (.int .i64 a0.body.kind)),(.v (.string a0.body.name)),(.v (.int .i64 a0.body.n)),(.v (.int .i64 a0.body.d)),(.sl (Expr.rows a0.body.args)),(.v (.int .i64 a0.body.at_)),(.v (.int .i64 a0.at_))]))).lt jl0))⟩,(List.forall_mem_cons.2 ⟨⟨jl0_1,(Gx.back (q10.ne q2 (some (AObj.box 99 [(.v (.string a0.name)),(.ow j0_1 (List.map C_s y3)),(.v (.int .i64 a0.budget)),(.v (.int .i64 a0.body.kind)),(.v (.string a0.body.name)),(.v (.int .i64 a0.body.n)),(.v (.int .i64 a0.body.d)),(.sl (Expr.rows a0.body.args)),(.v (.int .i64 a0.body.at_)),(.v (.int .i64 a0.at_))]))) (((hP.setp (hF.lt jl1_900) (some (AObj.box 155 (qa.cl q y1.2)))).setp ((hF.set (by simp) (some (AObj.box 155 (qa.cl q y1.2)))).lt jl0_1) (some (tkO 9 1 (List.length y3)))).setp (((hF.set (by simp) (some (AObj.box 155 (qa.cl q y1.2)))).set (by simp) (some (tkO 9 1 (List.length y3)))).lt jl0) (some (AObj.box 99 [(.v (.string a0.name)),(.ow j0_1 (List.map C_s y3)),(.v (.int .i64 a0.budget)),(.v (.int .i64 a0.body.kind)),(.v (.string a0.body.name)),(.v (.int .i64 a0.body.n)),(.v (.int .i64 a0.body.d)),(.sl (Expr.rows a0.body.args)),(.v (.int .i64 a0.body.at_)),(.v (.int .i64 a0.at_))]))) ((((hF.set (by simp) (some (AObj.box 155 (qa.cl q y1.2)))).set (by simp) (some (tkO 9 1 (List.length y3)))).set (by simp) (some (AObj.box 99 [(.v (.string a0.name)),(.ow j0_1 (List.map C_s y3)),(.v (.int .i64 a0.budget)),(.v (.int .i64 a0.body.kind)),(.v (.string a0.body.name)),(.v (.int .i64 a0.body.n)),(.v (.int .i64 a0.body.d)),(.sl (Expr.rows a0.body.args)),(.v (.int .i64 a0.body.at_)),(.v (.int .i64 a0.at_))]))).lt jl0_1))⟩,(List.forall_mem_cons.2 ⟨⟨jl1_900,(Gx.back ((q9.ne q4 (some (tkO 9 1 (List.length y3)))).ne N0__1_900 (some (AObj.box 99 [(.v (.string a0.name)),(.ow j0_1 (List.map C_s y3)),(.v (.int .i64 a0.budget)),(.v (.int .i64 a0.body.kind)),(.v (.string a0.body.name)),(.v (.int .i64 a0.body.n)),(.v (.int .i64 a0.body.d)),(.sl (Expr.rows a0.body.args)),(.v (.int .i64 a0.body.at_)),(.v (.int .i64 a0.at_))]))) (((hP.setp (hF.lt jl1_900) (some (AObj.box 155 (qa.cl q y1.2)))).setp ((hF.set (by simp) (some (AObj.box 155 (qa.cl q y1.2)))).lt jl0_1) (some (tkO 9 1 (List.length y3)))).setp (((hF.set (by simp) (some (AObj.box 155 (qa.cl q y1.2)))).set (by simp) (some (tkO 9 1 (List.length y3)))).lt jl0) (some (AObj.box 99 [(.v (.string a0.name)),(.ow j0_1 (List.map C_s y3)),(.v (.int .i64 a0.budget)),(.v (.int .i64 a0.body.kind)),(.v (.string a0.body.name)),(.v (.int .i64 a0.body.n)),(.v (.int .i64 a0.body.d)),(.sl (Expr.rows a0.body.args)),(.v (.int .i64 a0.body.at_)),(.v (.int .i64 a0.at_))]))) ((((hF.set (by simp) (some (AObj.box 155 (qa.cl q y1.2)))).set (by simp) (some (tkO 9 1 (List.length y3)))).set (by simp) (some (AObj.box 99 [(.v (.string a0.name)),(.ow j0_1 (List.map C_s y3)),(.v (.int .i64 a0.budget)),(.v (.int .i64 a0.body.kind)),(.v (.string a0.body.name)),(.v (.int .i64 a0.body.n)),(.v (.int .i64 a0.body.d)),(.sl (Expr.rows a0.body.args)),(.v (.int .i64 a0.body.at_)),(.v (.int .i64 a0.at_))]))).lt jl1_900))⟩,(fun x hx=>absurd hx (by simp))⟩)⟩)⟩);exact qU (fun h=>absurd rfl h) (xr (rs:= #[]) q13) ⟨_,hn9,(List.forall_mem_cons.2 ⟨⟨jl0,(ClO.bx (ClL.cons (Cn.cl (.v _) _) (ClL.cons (Cl.ow jl0_1 (Cn.cl (Cn.rows (fun _=>CnL.cons (.v _) CnL.nil) _) _)) (ClL.cons (Cn.cl (.v _) _) (ClL.cons (Cn.cl (.v _) _) (ClL.cons (Cn.cl (.v _) _) (ClL.cons (Cn.cl (.v _) _) (ClL.cons (Cn.cl (.v _) _) (ClL.cons (Cn.cl (Expr.cnr _) _) (ClL.cons (Cn.cl (.v _) _) (ClL.cons (Cn.cl (.v _) _) ClL.nil)))))))))))⟩,(List.forall_mem_cons.2 ⟨⟨jl0_1,ClO.tk⟩,(List.forall_mem_cons.2 ⟨⟨jl1_900,(ClO.bx (ClL.cons (Cn.cl (Cn.rows qd.cn _) _) (ClL.cons (Cn.cl (.v _) _) (ClL.cons (Cn.cl (.v _) _) (ClL.cons (Cn.cl (.v _) _) (ClL.cons (Cn.cl (.v _) _) (ClL.cons hq.c5 (ClL.cons hq.c6 (ClL.cons hq.c7 (ClL.cons hq.c8 ClL.nil))))))))))⟩,(fun x hx=>absurd hx (by simp))⟩)⟩)⟩),he10▸(((hP.setp (hF.lt jl1_900) (some (AObj.box 155 (qa.cl q y1.2)))).setp ((hF.set (by simp) (some (AObj.box 155 (qa.cl q y1.2)))).lt jl0_1) (some (tkO 9 1 (List.length y3)))).setp (((hF.set (by simp) (some (AObj.box 155 (qa.cl q y1.2)))).set (by simp) (some (tkO 9 1 (List.length y3)))).lt jl0) (some (AObj.box 99 [(.v (.string a0.name)),(.ow j0_1 (List.map C_s y3)),(.v (.int .i64 a0.budget)),(.v (.int .i64 a0.body.kind)),(.v (.string a0.body.name)),(.v (.int .i64 a0.body.n)),(.v (.int .i64 a0.body.d)),(.sl (Expr.rows a0.body.args)),(.v (.int .i64 a0.body.at_)),(.v (.int .i64 a0.at_))]))),_,(.refl _),(.tu CnL.nil),hK⟩
end Go.Proofs.Ytohmmfimedgccaa.E
end
