import Derived.KernelRfl
import Derived.Test.YtohmmfimedgccaaRows
import Derived.WalkKit
import Derived.ProofKit
import Derived.OpenShut
import Derived.ShutString
import Derived.ChangeOld
import Derived.Below
import Derived.SizedLaws
import Derived.Test.YtohmmfimedgccaaQS5
/- SyntaxPlaces: a program's text, one token of it cut, doubled or put in another's place, is refused no sooner than there. PART 7 OF 7: LK LL LM G75 LN G36 LO G76 LP G33 LQ G32 LR G7 LS OP RowSyntaxPlaces -/
section
namespace Go.Proofs.Ytohmmfimedgccaa.E
set_option linter.unusedVariables false
set_option linter.unusedSimpArgs false
variable {X:Cx} {r r':qa} {Q Q':W→Prop} {m:Nat}
theorem wNode:(⟨#[110,111,100,101]⟩:ByteArray)=bs Zq:=rfl
theorem wInput:(⟨#[105,110,112,117,116]⟩:ByteArray)=bs Zx:=rfl
theorem wFlow:(⟨#[102,108,111,119]⟩:ByteArray)=bs QI:=rfl
theorem wOutput:(⟨#[111,117,116,112,117,116]⟩:ByteArray)=bs ZJ:=rfl
theorem Ds_k {k:List UInt8}{D:W}(h:Ds (k::D)):∃d D',D=d++D'∧Dc k d∧Ds D':=by
 generalize he:k::D=x at h;cases h with
 |nil=>cases he
 |cons h1 h2=>cases he;exact⟨_,_,rfl,h1,h2⟩
theorem Dc_k {k:List UInt8}{d:W}(h:Dc k d):k=Zq∨k=Zx∨k=QI∨k=ZJ:=by
 cases h with
 |node=>exact .inl rfl
 |input=>exact .inr (.inl rfl)
 |flow=>exact .inr (.inr (.inl rfl))
 |output=>exact .inr (.inr (.inr rfl))
theorem can_e {s:List UInt8}(h:zf r (bs s)=some (true,r'))(e:r.e=0):r'.e=0:=by
 unfold zf B_syntax_reader_can at h;cases hb:r_is r (bs s)with
 |none=>rw[hb]at h;cases h
 | some b =>
  rw[hb]at h;cases b with
  |false=>cases h
  |true=>cases h;exact e
theorem parse_st (hX:X.ok)(hC:Ds X.C)(a0:ByteArray)(hlex:m_Lex a0=some (X.l,0,0))(hen:X.en=((ByteArray.size a0:Nat):Int)):
  ∃p a e,Zt a0=some (p,a,e)∧0≤a∧a≤X.en∧(e=1→X.T≤a):=by
 have hl:=hX.hl;have h0:St X Ds (qa.mk X.l ((ByteArray.size a0:Nat):Int) 0 0 0 (Program.mk [] [] [] [])):=by
  by_cases hk:X.k=0
  ·exact .inl (.inl {l:=rfl,en:=hen.symm,pos:=Int.le_refl _,e:=rfl,lo:=by rw[hk];exact Int.le_refl _,hi:=by show(0:Int)≤_;omega})
  ·exact .inr ⟨X.C,hC,{l:=rfl,en:=hen.symm,pos:=Int.le_refl _,e:=rfl,hi:=by show(0:Int)<_;omega,D:=rfl}⟩
 obtain⟨w,hw,hz⟩:=JS (f:=qV zf zp ZZ Jq Ye qZ ZG)
  (fun v=>St X Ds v.2.1∧0≤v.1∧v.1≤v.2.1.pos+1∧(v.2.1.e=0→v.1≤v.2.1.pos)∧(v.2.2.1.length:Int)≤v.1∧(v.2.2.2.1.length:Int)≤v.1∧(v.2.2.2.2.1.length:Int)≤v.1∧(v.2.2.2.2.2.length:Int)≤v.1)
  (fun v=>2*(5000 - v.2.1.pos).toNat+(if v.2.1.e=0 then 1 else 0))
  (fun w=>St X Ds w.1)
  (by
   rintro⟨n,r,no,inp,fl,ou⟩ ⟨h,n0,n1,n2,l1,l2,l3,l4⟩
   simp only at h n0 n1 n2 l1 l2 l3 l4;have hr:=h.in.pos;have hin:=h.in.l;have hhi:=(h.hi hX).1;by_cases e0:r.e=0
   ·by_cases hp:r.pos<(r.l.length:Int)
    ·rw [hin] at hp;have n3 := n2 e0;obtain ⟨t, t1, t2, t3, t4, t5⟩ := QV hX h;obtain ⟨r1, f1, f2, f3⟩ : ∃ r1, (if (((((decide (t.text = (⟨#[110, 111, 100, 101]⟩ : ByteArray))) || (decide (t.text = (⟨#[105, 110, 112, 117, 116]⟩ : ByteArray)))) || (decide (t.text = (⟨#[102, 108, 111, 119]⟩ : ByteArray)))) || (decide (t.text = (⟨#[111, 117, 116, 112, 117, 116]⟩ : ByteArray)))) && (decide (n = (40 : Int)))) then
       (zp r t.at_ (8:Int)).bind fun y42=>some ((qa.mk y42.2.l y42.2.end_ y42.2.pos y42.2.at_ y42.2.e (Program.mk no inp fl ou)),no,inp,fl,ou)
       else some ((qa.mk r.l r.end_ r.pos r.at_ r.e (Program.mk no inp fl ou)),no,inp,fl,ou):Option (qa×(List Node)×(List Input)×(List Flow)×(List Output)))=some (wp r1 (Program.mk no inp fl ou),no,inp,fl,ou)∧r1.pos=r.pos∧St X (fun D=>Ds D∧∃w D',D=w::D') r1:=by
      by_cases hb:(((((decide (t.text=(⟨#[110,111,100,101]⟩:ByteArray)))||(decide (t.text=(⟨#[105,110,112,117,116]⟩:ByteArray))))||(decide (t.text=(⟨#[102,108,111,119]⟩:ByteArray))))||(decide (t.text=(⟨#[111,117,116,112,117,116]⟩:ByteArray))))&&(decide (n=(40:Int))))=true
      ·obtain⟨r1,k1,k2,k3,_⟩:=JD hX h (a:=t.at_) (c:=8) t2 (by decide) (fun h=>by cases h);exact⟨r1,by rw[if_pos hb,k1];rfl,k3,.inl k2⟩
      ·exact⟨r,by rw[if_neg hb],rfl,t5.mono fun D ⟨h1,w,D',h2,_⟩=>⟨h1,w,D',h2⟩⟩
     have step:∃r2 a b c d,qV zf zp ZZ Jq Ye qZ ZG (n,r,no,inp,fl,ou)=some (.inl (IntKind.i64.wrap (n+1),wp r2 (Program.mk a b c d),a,b,c,d))∧St X Ds r2∧(a.length:Int)≤n+1∧(b.length:Int)≤n+1∧(c.length:Int)≤n+1∧(d.length:Int)≤n+1∧(r.pos+1≤r2.pos∨r2.pos=r.pos∧r2.e≠0):=by
      have hcond:((decide (r.e=(0:Int)))&&(decide (r.pos<((List.length r.l:Nat):Int))))=true:=by rw[hin,decide_eq_true e0,decide_eq_true hp];rfl
      have g1:=f3.p (Program.mk no inp fl ou);obtain⟨b,r2,c1,c2,c3⟩:=zL hX g1 Zq;unfold qV;dsimp only;simp only[hcond,if_true,t1,Option.bind_some,f1];simp only[wNode,wInput,wFlow,wOutput];have c1:zf (qa.mk r1.l r1.end_ r1.pos r1.at_ r1.e (Program.mk no inp fl ou)) (bs Zq)=some (b,r2):=c1;simp only[c1,Option.bind_some];cases b with
      | true =>
       obtain⟨ea,pa,_,sa⟩:=c2 rfl;obtain⟨r3,k1,k2,k3,k4⟩:=node_st hX (sa.p (Program.mk no inp fl ou)) (show r2.e=0 from can_e c1 ea) (by show no.length≤4000;omega) (fun D hD=>Ds_k hD.1);have k2':r2.pos≤r3.pos:=k2;have k4':r3.p.nodes.length=no.length+1:=k4;have pa':r2.pos=r1.pos+1:=pa;exact⟨r3,r3.p.nodes,inp,fl,ou,by simp only[if_true,k1,Option.bind_some],k3,by omega,by omega,by omega,by omega,.inl (by omega)⟩
      | false =>
       obtain⟨rfl,sa⟩:=c3 rfl;simp only[Bool.false_eq_true,if_false];obtain⟨b,r2,c1,c2,c3⟩:=zL hX sa Zx;simp only[c1,Option.bind_some];cases b with
       | true =>
        obtain⟨ea,pa,_,sb⟩:=c2 rfl;obtain⟨r3,k1,k2,k3,k4⟩:=input_st hX (sb.p (Program.mk no inp fl ou)) (show r2.e=0 from can_e c1 ea) (by show inp.length≤4000;omega) (fun D hD=>Ds_k hD.1.1);have k2':r2.pos≤r3.pos:=k2;have k4':r3.p.inputs.length=inp.length+1:=k4;have pa':r2.pos=r1.pos+1:=pa;exact⟨r3,no,r3.p.inputs,fl,ou,by simp only[if_true,k1,Option.bind_some],k3,by omega,by omega,by omega,by omega,.inl (by omega)⟩
       | false =>
        obtain⟨rfl,sb⟩:=c3 rfl;simp only[Bool.false_eq_true,if_false];obtain⟨b,r2,c1,c2,c3⟩:=zL hX sb QI;simp only[c1,Option.bind_some];cases b with
        | true =>
         obtain⟨ea,pa,_,sc⟩:=c2 rfl;obtain⟨r3,k1,k2,k3,k4⟩:=flow_st hX (sc.p (Program.mk no inp fl ou)) (show r2.e=0 from can_e c1 ea) (by show fl.length≤4000;omega) (fun D hD=>Ds_k hD.1.1.1);have k2':r2.pos≤r3.pos:=k2;have k4':r3.p.flows.length=fl.length+1:=k4;have pa':r2.pos=r1.pos+1:=pa;exact⟨r3,no,inp,r3.p.flows,ou,by simp only[if_true,k1,Option.bind_some],k3,by omega,by omega,by omega,by omega,.inl (by omega)⟩
        | false =>
         obtain⟨rfl,sc⟩:=c3 rfl;simp only[Bool.false_eq_true,if_false];obtain⟨b,r2,c1,c2,c3⟩:=zL hX sc ZJ;simp only[c1,Option.bind_some];cases b with
         | true =>
          obtain⟨ea,pa,_,sd⟩:=c2 rfl;obtain⟨r3,k1,k2,k3,k4⟩:=output_st hX (sd.p (Program.mk no inp fl ou)) (show r2.e=0 from can_e c1 ea) (by show ou.length≤4000;omega) (fun D hD=>Ds_k hD.1.1.1.1);have k2':r2.pos≤r3.pos:=k2;have k4':r3.p.outputs.length=ou.length+1:=k4;have pa':r2.pos=r1.pos+1:=pa;exact⟨r3,no,inp,fl,r3.p.outputs,by simp only[if_true,k1,Option.bind_some],k3,by omega,by omega,by omega,by omega,.inl (by omega)⟩
         | false =>
          obtain⟨rfl,sd⟩:=c3 rfl;have hF:=sd.F (by
           rintro D ⟨⟨⟨⟨⟨hD,w,D',rfl⟩,h1⟩,h2⟩,h3⟩,h4⟩
           obtain⟨d,D2,_,hd,_⟩:=Ds_k hD;rcases Dc_k hd with rfl|rfl|rfl|rfl
           ·exact h1 rfl
           ·exact h2 rfl
           ·exact h3 rfl
           ·exact h4 rfl)
          obtain⟨r3,k1,k2,k3,k4⟩:=JD hX sd (a:=t.at_) (c:=1) t2 (by decide) (fun _=>⟨hF,fun hk=>t3 (by rw[←f2];exact hk)⟩);have k3':r3.pos=r1.pos:=k3;exact⟨r3,no,inp,fl,ou,by simp only[Bool.false_eq_true,if_false,k1,Option.bind_some],.inl k2,by omega,by omega,by omega,by omega,.inr ⟨by omega,k4⟩⟩
     obtain⟨r2,a,b,c,d,s1,s2,s3,s4,s5,s6,s7⟩:=step;have hhi2:=(s2.hi hX).1;refine .inl ⟨_,s1,?_,?_⟩
     ·have hw:IntKind.i64.wrap (n+1)=n+1:=zF (by omega) (by omega);simp only[hw];refine⟨s2.p _,by omega,?_,fun he=> ?_,s3,s4,s5,s6⟩
      ·rcases s7 with h|⟨h,_⟩<;>omega
      ·rcases s7 with h|⟨_,h⟩
       ·omega
       ·exact absurd he h
     ·simp only[e0,if_true];rcases s7 with h|⟨h,h2⟩
      ·split<;>omega
      ·rw[if_neg h2];omega
    ·refine .inr ⟨(wp r (Program.mk no inp fl ou),no,inp,fl,ou),?_,h.p _⟩;unfold qV;dsimp only;rw[decide_eq_false hp,Bool.and_false];rfl
   ·refine .inr ⟨(wp r (Program.mk no inp fl ou),no,inp,fl,ou),?_,h.p _⟩;unfold qV;dsimp only;rw[decide_eq_false e0,Bool.false_and];rfl)
  (v:=((0:Int),(qa.mk X.l ((ByteArray.size a0:Nat):Int) 0 0 0 (Program.mk [] [] [] [])),([]:List Node),([]:List Input),([]:List Flow),([]:List Output))) ⟨h0,by simp⟩
 unfold Zt B_syntax_Parse;rw[hlex];simp only[Option.bind_some,decide_true,Bool.not_true,Bool.false_eq_true,if_false,hw];obtain⟨r,no,inp,fl,ou⟩:=w;simp only at hz ⊢;by_cases e0:r.e=0
 ·rw[decide_eq_true e0];exact⟨_,_,_,rfl,Int.le_refl _,hX.hen.1,fun h=>by cases h⟩
 ·rw[decide_eq_false e0];rcases hz with(h|h)|⟨_,_,h⟩
  ·exact absurd h.e e0
  ·exact⟨_,_,_,rfl,h.at_.1,h.at_.2,h.far⟩
  ·exact absurd h.e e0
end Go.Proofs.Ytohmmfimedgccaa.E
end
section
namespace Go.Proofs.Ytohmmfimedgccaa.E
set_option linter.unusedVariables false
set_option linter.unusedSimpArgs false
set_option maxRecDepth 10000
theorem bs_of (s:ByteArray):s=bs s.data.toList:=by
 apply ByteArray.ext;simp[bs]
def Nw (s:ByteArray):Prop:=∃w,s=bs w∧Tk w∧NmW w∧w.length≤100
theorem v_word (s:ByteArray):∃b,YU s=some b∧(b=false→s∉qE):=by
 unfold YU B_ref03_Word Jz B_lex_Words;simp only[Option.bind_some];obtain⟨r,h1,h2⟩:=zn (f:=zY qE s) (fun i v=>v=(i:Int)∧∀(j:Nat) (hj:j<qE.length),j<i→qE[j]≠s) qE.length (fun r=>r=.inl true∨(r=.inr ()∧s∉qE)) (fun i v hi hv=>by
  obtain⟨rfl,hv⟩:=hv;unfold zY;simp only[dlt hi,if_true,zg hi,Option.bind_some];by_cases he:qE[i]=s
  ·rw[decide_eq_true he];exact .inr ⟨_,rfl,.inl rfl⟩
  ·rw[decide_eq_false he];refine .inl ⟨_,rfl,Zm hi (by unfold maxLen;decide),fun j hj hlt=> ?_⟩;by_cases hji:j=i
   ·subst hji;exact he
   ·exact hv j hj (by omega)) (fun v hv=>by
  obtain⟨rfl,hv⟩:=hv;unfold zY;simp only[dge,Bool.false_eq_true,if_false];refine⟨_,rfl,.inr ⟨rfl,fun hm=> ?_⟩⟩;obtain⟨j,hj,e⟩:=List.getElem_of_mem hm;exact hv j hj hj e) (v0:=(0:Int)) ⟨rfl,fun j _ h=>by omega⟩
 rw[h1];rcases h2 with rfl|⟨rfl,h2⟩
 ·exact⟨_,rfl,fun h=>by cases h⟩
 ·exact⟨_,rfl,fun _=>h2⟩
theorem YJ {s:ByteArray}(hs:s.size≤maxLen)(h:Qu s=some true):Nw s:=by
 unfold Qu B_ref03_Right at h;obtain⟨r,h1,h2⟩:=zn (f:=zP s Yn Ym) (fun i v=>v=(i:Int)∧∀(j:Nat) (b:UInt8),j<i→s.data.toList[j]? =some b→zM (b.toNat:Int)=true∧(j=0→97≤(b.toNat:Int)∧(b.toNat:Int)≤122)) s.size
   (fun r=>r=.inl false∨(r=.inr ()∧∀(j:Nat) (b:UInt8),j<s.size→s.data.toList[j]? =some b→zM (b.toNat:Int)=true∧(j=0→97≤(b.toNat:Int)∧(b.toNat:Int)≤122))) (fun i v hi hv=>by
  obtain⟨rfl,hv⟩:=hv;unfold zP;have hi':i<s.data.toList.length:=by rw[qqo];exact hi
  have hat:=List.getElem?_eq_getElem hi';have hb:Zo s (i:Int)=some ((s.data.toList[i].toNat:Nat):Int):=by
   unfold Zo;rw[if_pos (by omega),Int.toNat_natCast,hat];rfl
  simp only[dlt hi,if_true,hb,Option.bind_some,Ym,B_ref03_small,Yn,B_ref03_digit];have hw:=Zm hi hs;generalize hc:((s.data.toList[i].toNat:Nat):Int)=c;have hnext:zM c=true∧(i=0→97≤c∧c≤122)→∀(j:Nat) (b:UInt8),j<i+1→s.data.toList[j]? =some b→zM (b.toNat:Int)=true∧(j=0→97≤(b.toNat:Int)∧(b.toNat:Int)≤122):=fun hn j b hj hb2=>by
   by_cases hji:j<i
   ·exact hv j b hji hb2
   ·obtain rfl:j=i:=by omega
    rw[hat]at hb2;injection hb2 with hb2;rw[←hb2,hc];exact hn
  by_cases c1:97≤c∧c≤122
  ·have e1:(decide (97≤c)&&decide (c≤122))=true:=by rw[decide_eq_true c1.1,decide_eq_true c1.2];rfl
   rw[e1];exact .inl ⟨_,rfl,hw,hnext ⟨by unfold zM;rw[decide_eq_true c1.1,decide_eq_true c1.2];simp,fun _=>c1⟩⟩
  ·have e1:(decide (97≤c)&&decide (c≤122))=false:=by
    cases hb:(decide (97≤c)&&decide (c≤122))with
    |false=>rfl
    |true=>simp only[Bool.and_eq_true,decide_eq_true_eq]at hb;exact absurd hb c1
   rw[e1];by_cases i0:i=0
   ·subst i0;exact .inr ⟨_,rfl,.inl rfl⟩
   ·have e0:decide ((i:Int)=0)=false:=decide_eq_false (by omega);rw[e0];by_cases c2:48≤c∧c≤57
    ·have e2:(decide (48≤c)&&decide (c≤57))=true:=by rw[decide_eq_true c2.1,decide_eq_true c2.2];rfl
     rw[e2];exact .inl ⟨_,rfl,hw,hnext ⟨by unfold zM;rw[decide_eq_true c2.1,decide_eq_true c2.2];simp,fun h=>absurd h i0⟩⟩
    ·have e2:(decide (48≤c)&&decide (c≤57))=false:=by
      cases hb:(decide (48≤c)&&decide (c≤57))with
      |false=>rfl
      |true=>simp only[Bool.and_eq_true,decide_eq_true_eq]at hb;exact absurd hb c2
     rw[e2];by_cases c3:c=95
     ·rw[decide_eq_true c3];exact .inl ⟨_,rfl,hw,hnext ⟨by unfold zM;rw[decide_eq_true c3];simp,fun h=>absurd h i0⟩⟩
     ·rw[decide_eq_false c3];exact .inr ⟨_,rfl,.inl rfl⟩) (fun v hv=>by
  obtain⟨rfl,hv⟩:=hv;unfold zP;simp only[dge,Bool.false_eq_true,if_false];exact⟨_,rfl,.inr ⟨rfl,hv⟩⟩) (v0:=(0:Int)) ⟨rfl,fun j b hj=>by omega⟩
 rw[h1]at h;rcases h2 with rfl|⟨rfl,h2⟩
 ·cases h
 ·obtain⟨b,hb,hw⟩:=v_word s;simp only[Option.bind_some,hb]at h;by_cases hne:s=(⟨#[]⟩:ByteArray)
  ·rw[decide_eq_true hne]at h;cases h
  ·by_cases hsz:((ByteArray.size s:Nat):Int)≤100
   ·rw[decide_eq_false hne,decide_eq_true hsz]at h;cases b with
    |true=>cases h
    | false =>
     have e:=bs_of s;have hl:=qqo s;generalize s.data.toList=w at e hl h2;cases w with
     |nil=>exact absurd e hne
     | cons c u =>
      have hall:∀b∈c::u,zM (b.toNat:Int)=true:=fun b hb=>by
       obtain⟨j,hj,rfl⟩:=List.getElem_of_mem hb;exact(h2 j _ (by omega) (List.getElem?_eq_getElem hj)).1
      have hc:=(h2 0 c (by simp at hl;omega) rfl).2 rfl;exact⟨c::u,e,.nm c u hc hall,⟨by rw[Yo,if_pos hc],e▸hw rfl⟩,by omega⟩
   ·rw[decide_eq_false hsz]at h;simp at h
theorem Zy {α:Type}{xs:List α}(hlen:xs.length≤maxLen){f:Int→Option (Int⊕(Bool⊕Unit))}(Q:α→Prop)
  (step:∀i (hi:i<xs.length),f i=some (.inr (.inl false))∨(f i=some (.inl (IntKind.i64.wrap ((i:Int)+1)))∧Q xs[i])) (fin:f (xs.length:Int)=some (.inr (.inr ()))):∃r,qA f 0=some r∧(r=.inl false∨(r=.inr ()∧∀x∈xs,Q x)):=by
 refine zn (v0:=(0:Int)) (fun i v=>v=(i:Int)∧∀j (hj:j<xs.length),j<i→Q xs[j]) xs.length (fun r:Bool⊕Unit=>r=.inl false∨(r=.inr ()∧∀x∈xs,Q x)) (fun i v hi hv=> ?_) (fun v hv=> ?_) ⟨rfl,fun j _ h=>by omega⟩
 ·obtain⟨rfl,h2⟩:=hv;rcases step i hi with h|⟨h,hq⟩
  ·exact .inr ⟨_,h,.inl rfl⟩
  ·refine .inl ⟨_,h,Zm hi hlen,fun j hj hlt=> ?_⟩;by_cases hji:j=i
   ·subst hji;exact hq
   ·exact h2 j hj (by omega)
 ·obtain⟨rfl,h2⟩:=hv;refine⟨_,fin,.inr ⟨rfl,fun x hx=> ?_⟩⟩;obtain⟨j,hj,rfl⟩:=List.getElem_of_mem hx;exact h2 j hj hj
def R100 (n:Int):Prop:=0≤n∧n≤1000000000
inductive XE:Expr→Prop
 |nm {e:Expr}:Nw e.name→e.kind=1→XE e
 |call {e:Expr}:(∀x∈e.args,XE x)→Nw e.name→e.kind=2→1≤e.args.length→e.args.length≤6→XE e
 |op {e x:Expr}:e.args=[x]→XE x→(e.kind=3∨e.kind=4)→R100 e.n→XE e
 |sh {e x:Expr}:e.args=[x]→XE x→e.kind=5→R100 e.n→R100 e.d→XE e
 |fby {e x:Expr}:e.args=[x]→XE x→(e.kind=6∨e.kind=8)→ -1000000000≤e.n∧e.n≤1000000000→XE e
 |tail {e x:Expr}:e.args=[x]→XE x→e.kind=7→XE e
def qExpr (e:Expr)(r:Bool):Prop:=Sp_ref04_Expr e r∧(r=true→XE e)
noncomputable def YP:Expr→Option Bool:=pick qExpr
theorem y_expr:Sat_ref04_Expr YP:=fun _ _ h=>(QY h).1
theorem one_arg {l:List Expr}(h:l.length=1):∃x,l=[x]:=by
 cases l with
 |nil=>cases h
 | cons x l => cases l with
  |nil=>exact⟨x,rfl⟩
  |cons y l=>simp at h
theorem x_expr (e:Expr):e.ok→∃r,YP e=some r∧qExpr e r:=by
 induction e using Expr.induct with
 | h e ih =>
  intro hok;refine ZH ?_;obtain⟨r,h1,h2⟩:=Zy (xs:=e.args) hok.len (f:=Zh e YP) XE (fun i hi=>by
   unfold Zh;have hmem:=List.getElem_mem hi;obtain⟨r,h5,_,h6⟩:=ih _ hmem (hok.arg _ hmem);simp only[dlt hi,if_true,zg hi,Option.bind_some,h5];cases r with
   |false=>exact .inl rfl
   |true=>exact .inr ⟨rfl,h6 rfl⟩) (by
   unfold Zh;simp only[dge,Bool.false_eq_true,if_false])
  obtain⟨b,hb⟩:=Jd e.name hok.nm;have hnw:b=true→Nw e.name:=fun h=>YJ hok.nm (h▸hb);have hB:∃r,B_ref04_Expr Qu Zu YP e=some r∧(r=true→XE e):=by
   unfold B_ref04_Expr;rw[h1];rcases h2 with rfl|⟨rfl,hall⟩
   ·exact⟨false,rfl,fun h=>by cases h⟩
   ·simp only[Option.bind_some,hb,Yt];by_cases k1:e.kind=1
    ·simp only[k1,decide_true,if_true,Option.bind_some];refine⟨_,rfl,fun h=>.nm (hnw ?_) k1⟩;simp only[Bool.and_eq_true,decide_eq_true_eq]at h;exact h.1.1
    ·by_cases k2:e.kind=2
     ·simp only[k2,decide_true,if_true,Option.bind_some,Int.reduceEq,decide_false,Bool.false_eq_true,if_false];refine⟨_,rfl,fun h=> ?_⟩;simp only[Bool.and_eq_true,decide_eq_true_eq]at h;exact .call hall (hnw h.1.1.1) k2 (by omega) (by omega)
     ·simp only[decide_eq_false k1,decide_eq_false k2,Bool.false_eq_true,if_false,Option.bind_some];split
      ·exact⟨_,rfl,fun h=>by cases h⟩
      ·rename_i hc;have hlen:e.args.length=1:=by
        simp only[Bool.or_eq_true,Bool.not_eq_true',not_or,Bool.not_eq_false,decide_eq_true_eq]at hc;omega
       obtain⟨x,hx⟩:=one_arg hlen;have hX:=hall x (by rw[hx];exact List.mem_cons_self);by_cases k3:e.kind=3
       ·simp only[k3,decide_true,if_true,Option.bind_some];refine⟨_,rfl,fun h=> ?_⟩;simp only[Bool.and_eq_true,decide_eq_true_eq]at h;exact .op hx hX (.inl k3) ⟨by omega,by omega⟩
       by_cases k4:e.kind=4
       ·simp only[k4,decide_true,if_true,Option.bind_some,Int.reduceEq,decide_false,Bool.false_eq_true,if_false];refine⟨_,rfl,fun h=> ?_⟩;simp only[Bool.and_eq_true,decide_eq_true_eq]at h;exact .op hx hX (.inr k4) ⟨by omega,by omega⟩
       simp only[decide_eq_false k3,decide_eq_false k4,Bool.false_eq_true,if_false,Option.bind_some];by_cases k5:e.kind=5
       ·simp only[k5,decide_true,if_true];split
        ·rename_i hn;simp only[Option.bind_some];refine⟨_,rfl,fun h=> ?_⟩;simp only[Bool.and_eq_true,decide_eq_true_eq]at h hn;exact .sh hx hX k5 ⟨by omega,by omega⟩ ⟨by omega,by omega⟩
        ·rename_i hn;simp only[Option.bind_some];exact⟨_,rfl,fun h=>by simp only[Bool.and_eq_true,decide_eq_true_eq]at h;exact absurd h.2 (by simp)⟩
       by_cases k6:e.kind=6
       ·simp only[k6,Int.reduceEq,decide_false,decide_true,Bool.false_eq_true,if_false,if_true,Option.bind_some];refine⟨_,rfl,fun h=> ?_⟩;simp only[Bool.and_eq_true,decide_eq_true_eq]at h;exact .fby hx hX (.inl k6) h
       by_cases k8:e.kind=8
       ·simp only[k8,Int.reduceEq,decide_false,decide_true,Bool.false_eq_true,if_false,if_true,Option.bind_some];refine⟨_,rfl,fun h=> ?_⟩;simp only[Bool.and_eq_true,decide_eq_true_eq]at h;exact .fby hx hX (.inr k8) h
       simp only[decide_eq_false k5,decide_eq_false k6,decide_eq_false k8,Bool.false_eq_true,if_false,Option.bind_some];refine⟨_,rfl,fun h=> ?_⟩;simp only[Bool.and_eq_true,decide_eq_true_eq]at h;exact .tail hx hX h.1
  obtain⟨r,hr,hf⟩:=hB;exact⟨r,W_ref04_Expr _ _ _ s_right zzc y_expr _ _ hr,hf⟩
inductive XB:Expr→Prop
 |par {e:Expr}:Nw e.name→e.kind=11→XB e
 |const {e:Expr}:e.kind=12→R100 e.n→XB e
 |ask {e x y z:Expr}:e.args=[x,y,z]→XB x→XB y→XB z→e.kind=13→e.name=bs [63]→XB e
 |op {e x y:Expr}:e.args=[x,y]→XB x→XB y→e.kind=13→e.name∈qW→XB e
def qBody (e:Expr)(r:Bool):Prop:=Sp_ref04_Body e r∧(r=true→XB e)
noncomputable def YQ:Expr→Option Bool:=pick qBody
theorem y_body:Sat_ref04_Body YQ:=fun _ _ h=>(QY h).1
theorem two_arg {l:List Expr}(h:l.length=2):∃x y,l=[x,y]:=by
 match l,h with
 |[x,y],_=>exact⟨x,y,rfl⟩
theorem three_arg {l:List Expr}(h:l.length=3):∃x y z,l=[x,y,z]:=by
 match l,h with
 |[x,y,z],_=>exact⟨x,y,z,rfl⟩
theorem x_body (e:Expr):e.ok→∃r,YQ e=some r∧qBody e r:=by
 induction e using Expr.induct with
 | h e ih =>
  intro hok;refine ZH ?_;obtain⟨r,h1,h2⟩:=Zy (xs:=e.args) hok.len (f:=Zj e YQ) XB (fun i hi=>by
   unfold Zj;have hmem:=List.getElem_mem hi;obtain⟨r,h5,_,h6⟩:=ih _ hmem (hok.arg _ hmem);simp only[dlt hi,if_true,zg hi,Option.bind_some,h5];cases r with
   |false=>exact .inl rfl
   |true=>exact .inr ⟨rfl,h6 rfl⟩) (by
   unfold Zj;simp only[dge,Bool.false_eq_true,if_false])
  obtain⟨b,hb⟩:=Jd e.name hok.nm;have hnw:b=true→Nw e.name:=fun h=>YJ hok.nm (h▸hb);obtain⟨q,hq,hq2⟩:=zn (f:=Zi e) (fun i v=>v=(i:Int)) qW.length (fun q=>(∃c,q=.inl c∧e.name∈qW∧(c=true→e.args.length=2))∨q=.inr ()) (fun i v hi hv=>by
   subst hv;unfold Zi;simp only[dlt hi,if_true,zg hi,Option.bind_some];by_cases he:qW[i]=e.name
   ·rw[decide_eq_true he];exact .inr ⟨_,rfl,.inl ⟨_,rfl,he▸List.getElem_mem hi,fun h=>by simp only[decide_eq_true_eq]at h;omega⟩⟩
   ·rw[decide_eq_false he];exact .inl ⟨_,rfl,Zm hi (by unfold maxLen;decide)⟩) (fun v hv=>by
   subst hv;unfold Zi;simp only[dge,Bool.false_eq_true,if_false];exact⟨_,rfl,.inr rfl⟩) (v0:=(0:Int)) rfl
  have hB:∃r,B_ref04_Body Qu Zu YQ e=some r∧(r=true→XB e):=by
   unfold B_ref04_Body;rw[h1];rcases h2 with rfl|⟨rfl,hall⟩
   ·exact⟨false,rfl,fun h=>by cases h⟩
   ·simp only[Option.bind_some,hb,Yt,hq];by_cases hd:e.d=0
    ·by_cases k11:e.kind=11
     ·simp only[hd,k11,decide_true,Bool.not_true,Bool.false_eq_true,if_false,if_true,Option.bind_some];refine⟨_,rfl,fun h=> ?_⟩;simp only[Bool.and_eq_true,decide_eq_true_eq]at h;exact .par (hnw h.1.1) k11
     ·by_cases k12:e.kind=12
      ·simp only[hd,k12,decide_true,Bool.not_true,Bool.false_eq_true,if_false,if_true,Int.reduceEq,decide_false,Option.bind_some];split
       ·simp only[Option.bind_some];refine⟨_,rfl,fun h=> ?_⟩;simp only[Bool.and_eq_true,decide_eq_true_eq]at h;exact .const k12 h.2
       ·simp only[Option.bind_some];refine⟨_,rfl,fun h=> ?_⟩;simp at h
      ·simp only[hd,decide_true,Bool.not_true,Bool.false_eq_true,if_false,decide_eq_false k11,decide_eq_false k12,Option.bind_some];by_cases k13:e.kind=13
       ·by_cases hn:e.n=0
        ·simp only[k13,hn,decide_true,Bool.not_true,Bool.or_self,Bool.false_eq_true,if_false];by_cases hq3:e.name=(⟨#[63]⟩:ByteArray)
         ·rw[decide_eq_true hq3];refine⟨_,rfl,fun h=> ?_⟩;simp only[decide_eq_true_eq]at h;obtain⟨x,y,z,hx⟩:=three_arg (l:=e.args) (by omega);exact .ask hx (hall x (by rw[hx];simp)) (hall y (by rw[hx];simp)) (hall z (by rw[hx];simp)) k13 hq3
         ·rw[decide_eq_false hq3];rcases hq2 with⟨c,rfl,hm,hc⟩|rfl
          ·refine⟨c,rfl,fun h=> ?_⟩;obtain⟨x,y,hx⟩:=two_arg (hc h);exact .op hx (hall x (by rw[hx];simp)) (hall y (by rw[hx];simp)) k13 hm
          ·exact⟨false,rfl,fun h=>by cases h⟩
        ·simp only[decide_eq_false hn,Bool.not_false,Bool.or_true,if_true];exact⟨false,rfl,fun h=>by cases h⟩
       ·simp only[decide_eq_false k13,Bool.not_false,Bool.true_or,if_true];exact⟨false,rfl,fun h=>by cases h⟩
    ·simp only[decide_eq_false hd,Bool.not_false,if_true];exact⟨_,rfl,fun h=>by cases h⟩
  obtain⟨r,hr,hf⟩:=hB;exact⟨r,W_ref04_Body _ _ _ s_right zzc y_body _ _ hr,hf⟩
structure XN (x:Node):Prop where
 name:Nw x.name
 params:1≤x.params.length∧x.params.length≤6∧∀s∈x.params,Nw s
 budget:R100 x.budget
 size:qN x.body≤100
 body:XB x.body
structure XF (x:Flow):Prop where
 size:qN x.e≤100
 e:XE x.e
 name:Nw x.name
structure XI (x:Input):Prop where
 name:Nw x.name
 period:R100 x.period
 phase:R100 x.phase
structure XO (x:Output):Prop where
 name:Nw x.name
 flow:Nw x.flow
 deadline:R100 x.deadline
structure XP (p:Program):Prop where
 all:p.nodes.length+p.inputs.length+p.flows.length+p.outputs.length≤40
 node:∀x∈p.nodes,XN x
 input:∀x∈p.inputs,XI x
 flow:∀x∈p.flows,XF x
 output:∀x∈p.outputs,XO x
noncomputable def q_read:=B_ref04_Right Qu Zu YA Ji YQ YP
theorem y_read:Sat_ref04_Right q_read:=W_ref04_Right _ _ _ _ _ _ s_right zzc s_size s_depth y_body y_expr
theorem x_read (p:Program)(hok:p.ok):∃r,q_read p=some r∧(r=true→XP p):=by
 have w:=hok.nodes.1;have w2:=hok.inputs.1;have w3:=hok.flows.1;have w4:=hok.outputs.1;obtain⟨r0,h0,g0⟩:=Zy (xs:=p.nodes) (mlB hok.nodes.1 (by omega)) (f:=QO p Qu YQ Ji YA Zu) XN (fun i hi=>by
  unfold QO;have hmem:=List.getElem_mem hi;have hx:=hok.nodes.2 _ hmem;obtain⟨b,hb⟩:=Jd _ (ml hx.name);obtain⟨sz,hsz,_,gsz⟩:=t_size _ hx.body 100 (by omega) (by omega);obtain⟨dp,hdp,_⟩:=t_depth _ hx.body 30 (by omega) (by omega);obtain⟨bd,hbd,_,gbd⟩:=x_body _ hx.body;obtain⟨q,hq,gq⟩:=Zy (xs:=p.nodes[i].params) (mlB hx.params.1 (by omega)) (f:=QN p.nodes[i] Qu) Nw (fun k hk=>by
   unfold QN;have hs:=ml (hx.params.2 _ (List.getElem_mem hk));obtain⟨c,hc⟩:=Jd _ hs;simp only[dlt hk,if_true,zg hk,Option.bind_some,hc];cases c
   ·exact .inl rfl
   ·exact .inr ⟨rfl,YJ hs hc⟩) (by
   unfold QN;simp only[dge,Bool.false_eq_true,if_false])
  obtain⟨s1,s2,s3⟩:=gsz (by simp);simp only at s1 s2 s3;simp only[dlt hi,if_true,zg hi,Option.bind_some,hb,Yt,hsz,hdp,hbd,hq];cases b with
  |false=>exact .inl (by simp)
  | true =>
   by_cases p1:((p.nodes[i].params.length:Nat):Int)<1
   ·exact .inl (by simp[p1])
   by_cases p2:(6:Int)<((p.nodes[i].params.length:Nat):Int)
   ·exact .inl (by simp[p1,p2])
   by_cases b1:1≤p.nodes[i].budget∧p.nodes[i].budget≤1000
   ·by_cases z1:100<sz
    ·exact .inl (by simp[p1,p2,b1,z1])
    by_cases d1:20<dp
    ·exact .inl (by simp[p1,p2,b1,z1,d1])
    cases bd with
    |false=>exact .inl (by simp[p1,p2,b1,z1,d1])
    | true =>
     rcases gq with rfl|⟨rfl,hall⟩
     ·exact .inl (by simp[p1,p2,b1,z1,d1])
     ·exact .inr ⟨by simp[p1,p2,b1,z1,d1],YJ (ml hx.name) hb,⟨by omega,by omega,hall⟩,⟨by omega,by omega⟩,by have:=s3 (by omega);omega,gbd rfl⟩
   ·refine .inl ?_;have:(decide (1≤p.nodes[i].budget)&&decide (p.nodes[i].budget≤1000))=false:=by simpa using b1
    simp[p1,p2,this]) (by
  unfold QO;simp only[dge,Bool.false_eq_true,if_false])
 obtain⟨r2,h2,g2⟩:=Zy (xs:=p.inputs) (mlB hok.inputs.1 (by omega)) (f:=QM p Qu Zu) XI (fun i hi=>by
  unfold QM;have hs:=ml (hok.inputs.2 _ (List.getElem_mem hi)).name;obtain⟨b,hb⟩:=Jd _ hs;simp only[dlt hi,if_true,zg hi,Option.bind_some,hb,Yt];cases b with
  |false=>exact .inl (by simp)
  | true =>
   by_cases b1:1≤p.inputs[i].period∧p.inputs[i].period≤1000
   ·by_cases b2:0≤p.inputs[i].phase∧p.inputs[i].phase≤1000
    ·exact .inr ⟨by simp[b1,b2],YJ hs hb,⟨by omega,by omega⟩,⟨by omega,by omega⟩⟩
    ·refine .inl ?_;have:(decide (0≤p.inputs[i].phase)&&decide (p.inputs[i].phase≤1000))=false:=by simpa using b2
     simp[b1,this]
   ·refine .inl ?_;have:(decide (1≤p.inputs[i].period)&&decide (p.inputs[i].period≤1000))=false:=by simpa using b1
    simp[this]) (by
  unfold QM;simp only[dge,Bool.false_eq_true,if_false])
 obtain⟨r3,h3,g3⟩:=Zy (xs:=p.flows) (mlB hok.flows.1 (by omega)) (f:=QL p Qu Ji YP YA) XF (fun i hi=>by
  unfold QL;have hx:=hok.flows.2 _ (List.getElem_mem hi);obtain⟨b,hb⟩:=Jd _ (ml hx.name);obtain⟨sz,hsz,_,gsz⟩:=t_size _ hx.e 100 (by omega) (by omega);obtain⟨dp,hdp,_⟩:=t_depth _ hx.e 30 (by omega) (by omega);obtain⟨bd,hbd,_,gbd⟩:=x_expr _ hx.e;obtain⟨s1,s2,s3⟩:=gsz (by simp);simp only at s1 s2 s3;simp only[dlt hi,if_true,zg hi,Option.bind_some,hb,hsz,hdp,hbd];cases b with
  |false=>exact .inl (by simp)
  | true =>
   by_cases z1:100<sz
   ·exact .inl (by simp[z1])
   by_cases d1:20<dp
   ·exact .inl (by simp[z1,d1])
   cases bd with
   |false=>exact .inl (by simp[z1,d1])
   |true=>exact .inr ⟨by simp[z1,d1],by have:=s3 (by omega);omega,gbd rfl,YJ (ml hx.name) hb⟩) (by
  unfold QL;simp only[dge,Bool.false_eq_true,if_false])
 obtain⟨r4,h4,g4⟩:=Zy (xs:=p.outputs) (mlB hok.outputs.1 (by omega)) (f:=QK p Qu Zu) XO (fun i hi=>by
  unfold QK;have hx:=hok.outputs.2 _ (List.getElem_mem hi);obtain⟨b,hb⟩:=Jd _ (ml hx.name);obtain⟨c,hc⟩:=Jd _ (ml hx.flow);simp only[dlt hi,if_true,zg hi,Option.bind_some,hb,hc,Yt];cases b with
  |false=>exact .inl (by simp)
  | true =>
   cases c with
   |false=>exact .inl (by simp)
   | true =>
    by_cases b1:1≤p.outputs[i].deadline∧p.outputs[i].deadline≤1000
    ·exact .inr ⟨by simp[b1],YJ (ml hx.name) hb,YJ (ml hx.flow) hc,⟨by omega,by omega⟩⟩
    ·refine .inl ?_;have:(decide (1≤p.outputs[i].deadline)&&decide (p.outputs[i].deadline≤1000))=false:=by simpa using b1
     simp[this]) (by
  unfold QK;simp only[dge,Bool.false_eq_true,if_false])
 unfold q_read B_ref04_Right;rw[zF (n:=(p.nodes.length:Int)+p.inputs.length) (by omega) (by omega),zF (n:=(p.nodes.length:Int)+p.inputs.length+p.flows.length) (by omega) (by omega),zF (n:=(p.nodes.length:Int)+p.inputs.length+p.flows.length+p.outputs.length) (by omega) (by omega)];by_cases hc:(40:Int)<(p.nodes.length:Int)+p.inputs.length+p.flows.length+p.outputs.length
 ·rw[if_pos (by simpa using hc)];exact⟨false,rfl,fun h=>by cases h⟩
 ·rw[if_neg (by simpa using hc),h0];rcases g0 with rfl|⟨rfl,g0⟩
  ·exact⟨false,rfl,fun h=>by cases h⟩
  simp only[Option.bind_some];rw[h2];rcases g2 with rfl|⟨rfl,g2⟩
  ·exact⟨false,rfl,fun h=>by cases h⟩
  simp only[Option.bind_some];rw[h3];rcases g3 with rfl|⟨rfl,g3⟩
  ·exact⟨false,rfl,fun h=>by cases h⟩
  simp only[Option.bind_some];rw[h4];rcases g4 with rfl|⟨rfl,g4⟩
  ·exact⟨false,rfl,fun h=>by cases h⟩
  exact⟨true,rfl,fun _=>⟨by omega,g0,g2,g3,g4⟩⟩
end Go.Proofs.Ytohmmfimedgccaa.E
end
section
namespace Go.Proofs.Ytohmmfimedgccaa.E
set_option maxRecDepth 100000
set_option maxHeartbeats 4000000
set_option linter.unusedVariables false
set_option linter.unusedSimpArgs false
noncomputable def B_ref04_Digits (f0:Int→Option ByteArray)(a0:Int):Option ByteArray:=
 if(decide (a0<(0:Int)))then
  (f0 (IntKind.i64.wrap (0 - a0))).bind fun y2=>
  (qw (⟨#[45]⟩:ByteArray) y2).bind fun y4=>
  some y4
 else
  if(decide ((9:Int)<a0))then
   (f0 (IntKind.i64.wrap (Int.tdiv a0 (10:Int)))).bind fun y8=>
   (qw y8 (qqp ([(IntKind.u8.wrap (IntKind.i64.wrap ((48:Int)+(Int.tmod a0 (10:Int)))))]))).bind fun y10=>
   some y10
  else
   some (qqp ([(IntKind.u8.wrap (IntKind.i64.wrap ((48:Int)+(Int.tmod a0 (10:Int)))))]))
theorem W_ref04_Digits (f0)(S0:Sat_ref04_Digits f0):Sat_ref04_Digits (B_ref04_Digits f0):=by
 intro a0 r h σ K hK;refine zB Try.func75 rfl rfl (by kernel_rfl) ?_;unfold B_ref04_Digits at h;have hP:=Pre.refl σ;have E0:qu [(.v (.int .i64 a0))] 0=(.v (.int .i64 a0)):=rfl;have TT:=cj5 Expr.rlen T_2 T_5 T_89 T_9;refine qe (w_x Expr.rlen ?_);refine qg (qk (qe (w_x (cj2 E0 TT) ?_)));refine qg (qe ?_);rcases qj h with⟨hb1,h⟩|⟨hb1,h⟩
 ·refine xt hb1 (qe ?_);obtain⟨y2,h3,h⟩:=qb h;obtain⟨y4,h5,h⟩:=qb h;have q1:=cj4 E0 (qi h5).1 (qi h5).2 TT;refine w_x q1 ?_;refine S0 _ _ h3 _ _ ?_;refine w_y q1 ?_;refine qg (qo (ze ?_));obtain rfl:=qc h;exact qq (fun _=>rfl) (xr (rs:= #[.tmp 2]) TT) hP (.refl _) (.v _) hK
 ·refine xf hb1 (qm (qg (qe ?_)));have R6:(⟨[UInt8.ofNat (Int.toNat (IntKind.u8.wrap (IntKind.i64.wrap ((48:Int)+(Int.tmod a0 (10:Int))))))].toArray⟩:ByteArray)=qqp ([(IntKind.u8.wrap (IntKind.i64.wrap ((48:Int)+(Int.tmod a0 (10:Int)))))]):=rfl;refine w_x (cj3 E0 R6 TT) ?_;refine qg (qk (qe (w_x (cj2 E0 TT) ?_)));refine qg (qe ?_);rcases qj h with⟨hb7,h⟩|⟨hb7,h⟩
  ·refine xt hb7 (qe ?_);obtain⟨y8,h9,h⟩:=qb h;obtain⟨y10,h11,h⟩:=qb h;have q2:=cj4 E0 (qi h11).1 (qi h11).2 TT;refine w_x q2 ?_;refine S0 _ _ h9 _ _ ?_;refine w_y q2 ?_;refine qg (qo (ze ?_));obtain rfl:=qc h;exact qq (fun _=>rfl) (xr (rs:= #[.tmp 2]) TT) hP (.refl _) (.v _) hK
  ·refine xf hb7 (qm (qg (qe (w_x Expr.rlen ?_))));refine qg (qo ?_);obtain rfl:=qc h;exact qq (fun _=>rfl) (xr (rs:= #[.tmp 2]) TT) hP (.refl _) (.v _) hK
end Go.Proofs.Ytohmmfimedgccaa.E
end
section
namespace Go.Proofs.Ytohmmfimedgccaa.E
set_option linter.unusedVariables false
set_option linter.unusedSimpArgs false
def okA (t:List UInt8):List Pc→Prop
 |[]=>True
 |(b,w)::ps=>(∀c∈b,blk c=true)∧Tk w∧fol w (text t ps)∧okA t ps
theorem Yf {t:List UInt8}:∀{ps:List Pc},okp t ps↔okA t ps∧∀c∈t,blk c=true
 |[]=>by simp[okp,okA]
 | (b, w) :: ps => by
  rw[okp,okA,Yf (ps:=ps)];constructor
  ·rintro⟨h1,h2,h3,h4,h5⟩;exact⟨⟨h1,h2,h3,h4⟩,h5⟩
  ·rintro⟨⟨h1,h2,h3,h4⟩,h5⟩;exact⟨h1,h2,h3,h4,h5⟩
theorem qv {t:List UInt8}:∀(A B:List Pc),text t (A++B)=text (text t B) A
 |[],B=>rfl
 |(b,w)::A,B=>by rw[List.cons_append,text,text,qv A B]
theorem qD:∀(t:List UInt8) (A:List Pc),text t A=text [] A++t
 |t,[]=>rfl
 |t,(b,w)::A=>by rw[text,text,qD t A];simp
theorem zD {t:List UInt8}:∀{A B:List Pc},okA t (A++B)↔okA (text t B) A∧okA t B
 |[],B=>by simp[okA]
 | (b, w) :: A, B => by
  rw[List.cons_append,okA,okA,qv,zD (A:=A)];constructor
  ·rintro⟨h1,h2,h3,h4,h5⟩;exact⟨⟨h1,h2,h3,h4⟩,h5⟩
  ·rintro⟨⟨h1,h2,h3,h4⟩,h5⟩;exact⟨h1,h2,h3,h4,h5⟩
def Sf (t:List UInt8):Prop:=∀c,t.head? =some c→zM (c.toNat:Int)=false
theorem zW {c:UInt8}{t:List UInt8}(h:zM (c.toNat:Int)=false):Sf (c::t):=fun d hd=>by cases hd;exact h
theorem ZT {w t:List UInt8}(h:kd w≠3)(ht:Sf t):fol w t:=fun c hc=>.inr (.inl ⟨h,ht c hc⟩)
theorem qL {w t:List UInt8}{c:UInt8}(h:blk c=true):fol w (c::t):=fun d hd=>by cases hd;exact .inl h
theorem fol_sg {w t:List UInt8}(h:kd w=3)(hs:(SG2.all fun s=>decide (s.take 1≠w.take 1)||decide (w.length≠1))=true):fol w t:=fun c _=>.inr (.inr ⟨h,fun s hs' e=>by
 have:=List.all_eq_true.1 hs s hs';rw[Bool.or_eq_true,decide_eq_true_eq,decide_eq_true_eq]at this;have h2:s.length=2:=by
  have h2:(SG2.all fun s=>decide (s.length=2))=true:=by decide
  exact of_decide_eq_true (List.all_eq_true.1 h2 s hs')
 rw[e,List.length_append,List.length_singleton]at h2;have h1:w.length=1:=by omega
 rcases this with h|h
 ·exact h (by rw[e,List.take_append_of_le_length (by omega)])
 ·exact h h1⟩)
structure Fg (ps:List Pc)(g:W):Prop where
 hd:∃w r,ps=([],w)::r
 tk:ps.map (·.2)=g
 ok:∀t,Sf t→okA t ps
def sp:List Pc→List Pc
 |[]=>[]
 |(b,w)::r=>(32::b,w)::r
theorem zC {ps:List Pc}{g:W}(h:Fg ps g)(t:List UInt8):text t (sp ps)=32::text t ps:=by
 obtain⟨w,r,rfl⟩:=h.hd;rfl
theorem qqc (ps:List Pc):(sp ps).map (·.2)=ps.map (·.2):=by
 cases ps with
 |nil=>rfl
 |cons p r=>rfl
theorem sp_ok {ps:List Pc}{t:List UInt8}(h:okA t ps):okA t (sp ps):=by
 cases ps with
 |nil=>exact h
 | cons p r =>
  obtain⟨b,w⟩:=p;obtain⟨h1,h2⟩:=h;refine⟨fun c hc=> ?_,h2⟩;rcases List.mem_cons.1 hc with rfl|hc
  ·rfl
  ·exact h1 c hc
theorem b32:∀c∈([32]:List UInt8),blk c=true:=fun c hc=>by rw[List.mem_singleton.1 hc];rfl
theorem b0:∀c∈([]:List UInt8),blk c=true:=fun c hc=>by cases hc
theorem ok1 {b w t:List UInt8}{ps:List Pc}(hb:∀c∈b,blk c=true)(hw:Tk w)(hf:fol w (text t ps))(h:okA t ps):okA t ((b,w)::ps):=⟨hb,hw,hf,h⟩
theorem fg1 {w:List UInt8}(h:Tk w)(hk:kd w≠3):Fg [([],w)] [w]:=⟨⟨w,[],rfl⟩,rfl,fun t ht=>ok1 b0 h (ZT hk ht) trivial⟩
theorem Yg {s:ByteArray}(h:Nw s):∃w,s=bs w∧Tk w∧NmW w∧w.length≤100∧Fg [([],w)] [w]:=by
 obtain⟨w,h1,h2,h3,h4⟩:=h;exact⟨w,h1,h2,h3,h4,fg1 h2 (by rw[h3.1];decide)⟩
def Dg (w:List UInt8):Prop:=w≠[]∧∀b∈w,YD (b.toNat:Int)=true
theorem Dg.tk {w:List UInt8}(h:Dg w):Tk w:=by
 cases w with
 |nil=>exact absurd rfl h.1
 |cons c u=>exact .nu c u h.2
theorem Dg.kd {w:List UInt8}(h:Dg w):kd w=2:=by
 cases w with
 |nil=>exact absurd rfl h.1
 | cons c u =>
  have:=qqT.1 (h.2 c List.mem_cons_self);rw[Yo,if_neg (by omega),if_pos this]
theorem Dg.hd {w:List UInt8}(h:Dg w):∃c u,w=c::u∧c≠94:=by
 cases w with
 |nil=>exact absurd rfl h.1
 | cons c u =>
  refine⟨c,u,rfl,?_⟩
  rintro rfl
  exact absurd (h.2 94 List.mem_cons_self) (by decide)
theorem Dg.fg {w:List UInt8}(h:Dg w):Fg [([],w)] [w]:=fg1 h.tk (by rw[h.kd];decide)
def pDig (n:Int)(r:ByteArray):Prop:=Sp_ref04_Digits n r∧(0≤n→n≤2000000000→∃w,r=bs w∧Dg w∧(w.length:Int)≤n+1)∧(n<0→ -2000000000≤n→∃w,r=bs (45::w)∧Dg w∧(w.length:Int)≤ -n+1)
noncomputable def QZ:Int→Option ByteArray:=pick pDig
theorem y_dig:Sat_ref04_Digits QZ:=fun _ _ h=>(QY h).1
theorem last_dig {n:Int}(h:0≤n)(h2:n≤2000000000):∃c:UInt8,qqp [IntKind.u8.wrap (IntKind.i64.wrap (48+Int.tmod n 10))]=bs [c]∧YD (c.toNat:Int)=true:=by
 have e:Int.tmod n 10=n % 10:=Int.tmod_eq_emod_of_nonneg h;have e1:IntKind.i64.wrap (48+Int.tmod n 10)=48+n % 10:=by rw[e];exact zF (by omega) (by omega)
 have e2:IntKind.u8.wrap (48+n % 10)=48+n % 10:=by
  unfold IntKind.wrap IntKind.bits;simp[IntKind.signed,IntKind.bits];omega
 rw[e1,e2];refine⟨UInt8.ofNat (48+n % 10).toNat,rfl,?_⟩;have:(UInt8.ofNat (48+n % 10).toNat).toNat=(48+n % 10).toNat:=by
  rw[UInt8.toNat_ofNat'];omega
 rw[qqT,this];omega
theorem t_dig0:∀(k:Nat) (n:Int),0≤n→n≤2000000000→n.toNat<k→∃r,QZ n=some r∧pDig n r:=by
 intro k;induction k with
 |zero=>intro n _ _ h;omega
 | succ k ih =>
  intro n h0 h1 hk;refine ZH ?_;obtain⟨c,hc1,hc2⟩:=last_dig h0 h1;by_cases h9:9<n
  ·have e:Int.tdiv n 10=n / 10:=Int.tdiv_eq_ediv_of_nonneg h0;have e1:IntKind.i64.wrap (Int.tdiv n 10)=n / 10:=by rw[e];exact zF (by omega) (by omega)
   obtain⟨r,h2,_,h3,_⟩:=ih (n / 10) (by omega) (by omega) (by omega);obtain⟨w,rfl,hw,hl⟩:=h3 (by omega) (by omega);have hB:B_ref04_Digits QZ n=some (bs (w++[c])):=by
    unfold B_ref04_Digits;rw[decide_eq_false (by omega),decide_eq_true h9,e1,h2,hc1];simp only[Bool.false_eq_true,if_false,if_true,Option.bind_some];rw[qt _ _ (by simp;omega)];rfl
   refine⟨_,W_ref04_Digits _ y_dig _ _ hB,fun _ _=>⟨w++[c],rfl,⟨by simp,fun b hb=> ?_⟩,by simp;omega⟩,fun h=>by omega⟩;rcases List.mem_append.1 hb with h|h
   ·exact hw.2 b h
   ·rw[List.mem_singleton.1 h];exact hc2
  ·have hB:B_ref04_Digits QZ n=some (bs [c]):=by
    unfold B_ref04_Digits;rw[decide_eq_false (by omega),decide_eq_false h9,hc1];rfl
   refine⟨_,W_ref04_Digits _ y_dig _ _ hB,fun _ _=>⟨[c],rfl,⟨by simp,fun b hb=>by rw[List.mem_singleton.1 hb];exact hc2⟩,by simp;omega⟩,fun h=>by omega⟩
theorem YZ {n:Int}(h:R100 n):∃w,QZ n=some (bs w)∧Dg w∧w.length≤1000000001:=by
 unfold R100 at h;obtain⟨r,h1,_,h2,_⟩:=t_dig0 _ n h.1 (by omega) (Nat.lt_succ_self _);obtain⟨w,rfl,h3,h4⟩:=h2 h.1 (by omega);exact⟨w,h1,h3,by omega⟩
theorem t_digm {n:Int}(h: -1000000000≤n∧n≤1000000000):∃w ps,QZ n=some (bs (text [] ps))∧Dg w∧(ps=[([],w)]∨ps=[([],[45]),([],w)])∧(text [] ps).length≤1000000002:=by
 by_cases h0:0≤n
 ·obtain⟨w,h1,h2,h3⟩:=YZ (n:=n) ⟨h0,h.2⟩;exact⟨w,[([],w)],by rw[h1];simp[text],h2,.inl rfl,by simp[text];omega⟩
 ·obtain⟨w,h1,h2,h3⟩:=YZ (n:=0 - n) ⟨by omega,by omega⟩;have hB:B_ref04_Digits QZ n=some (bs (45::w)):=by
   unfold B_ref04_Digits;rw[decide_eq_true (by omega),zF (n:=0 - n) (by omega) (by omega),h1];simp only[if_true,Option.bind_some];rw[show(⟨#[45]⟩:ByteArray)=bs [45] from rfl,qt _ _ (by simp;omega)];rfl
  have hl:(w.length:Int)≤0 - n+1:=by
   obtain⟨r,k1,_,k2,_⟩:=t_dig0 _ (0 - n) (by omega) (by omega) (Nat.lt_succ_self _);rw[h1]at k1;obtain rfl:=Option.some.inj k1;obtain⟨w',e,_,k3⟩:=k2 (by omega) (by omega);rw[YE.1 e];exact k3
  obtain⟨r,k1,_,_,k2⟩:=ZH (P:=pDig) (a:=n) ⟨_,W_ref04_Digits _ y_dig _ _ hB,fun h=>absurd h h0,fun _ _=>⟨w,rfl,h2,by omega⟩⟩;obtain⟨w',rfl,k3,k4⟩:=k2 (by omega) (by omega);exact⟨w',[([],[45]),([],w')],by rw[show QZ n=pick pDig n from rfl,k1];simp[text],k3,.inr rfl,by simp[text];omega⟩
end Go.Proofs.Ytohmmfimedgccaa.E
end
section
namespace Go.Proofs.Ytohmmfimedgccaa.E
set_option maxRecDepth 100000
set_option maxHeartbeats 4000000
set_option linter.unusedVariables false
set_option linter.unusedSimpArgs false
noncomputable def Zf (a0:Expr)(f0:Expr→Option ByteArray):(ByteArray×Int)→Option ((ByteArray×Int)⊕ByteArray)
 | (v8, v9) =>
  if(decide (v9<((List.length a0.args:Nat):Int)))then
   ((if(decide ((0:Int)<v9))then
    (qw v8 (⟨#[44,32]⟩:ByteArray)).bind fun y20=>
    some y20
   else
    some v8:Option ByteArray).bind fun v18=>
   (qS a0.args v9).bind fun y22=>
   (f0 y22).bind fun y24=>
   (qw v18 y24).bind fun y26=>
   some y26:Option ByteArray).bind fun v15=>
   some (.inl (v15,(IntKind.i64.wrap (v9+(1:Int)))))
  else
   some (.inr v8)
noncomputable def B_ref04_Text (f0:Expr→Option ByteArray)(f1:Int→Option ByteArray)(a0:Expr):Option ByteArray:=
 if(decide (a0.kind=(1:Int)))then
  some a0.name
 else
  if(decide (a0.kind=(2:Int)))then
   (qw a0.name (⟨#[40]⟩:ByteArray)).bind fun y3=>
   (qA (Zf a0 f0) (y3,(0:Int)):Option ByteArray).bind fun v7=>
   (qw v7 (⟨#[41]⟩:ByteArray)).bind fun y30=>
   some y30
  else
   (qS a0.args (0:Int)).bind fun y32=>
   (f0 y32).bind fun y35=>
   (if(decide (a0.kind=(6:Int)))then
    (f1 a0.n).bind fun y40=>
    (qw y40 (⟨#[32,102,98,121,32]⟩:ByteArray)).bind fun y42=>
    (qw y42 y35).bind fun y44=>
    some (.inl y44)
   else
    if(decide (a0.kind=(8:Int)))then
     (f1 a0.n).bind fun y47=>
     (qw y47 (⟨#[32,58,58,32]⟩:ByteArray)).bind fun y49=>
     (qw y49 y35).bind fun y51=>
     some (.inl y51)
    else
     if(decide (a0.kind=(7:Int)))then
      (qw (⟨#[116,97,105,108,32]⟩:ByteArray) y35).bind fun y54=>
      some (.inl y54)
     else
      some (.inr ()):Option (ByteArray⊕Unit)).bind fun x=>match x with
   | .inl r=>some r
   | .inr _ =>
    (if((decide ((6:Int)≤y32.kind))&&(decide (y32.kind≤(8:Int))))then
     (qw (⟨#[40]⟩:ByteArray) y35).bind fun y61=>
     (qw y61 (⟨#[41]⟩:ByteArray)).bind fun y63=>
     some y63
    else
     some y35:Option ByteArray).bind fun v59=>
    if(decide (a0.kind=(5:Int)))then
     (qw v59 (⟨#[32,126,62,32]⟩:ByteArray)).bind fun y66=>
     (f1 a0.n).bind fun y68=>
     (qw y66 y68).bind fun y70=>
     (qw y70 (⟨#[47]⟩:ByteArray)).bind fun y72=>
     (f1 a0.d).bind fun y74=>
     (qw y72 y74).bind fun y76=>
     some y76
    else
     (qS ([(⟨#[]⟩:ByteArray),(⟨#[]⟩:ByteArray),(⟨#[]⟩:ByteArray),(⟨#[32,42,94,32]⟩:ByteArray),(⟨#[32,47,94,32]⟩:ByteArray)]:List ByteArray) a0.kind).bind fun y78=>
     (qw v59 y78).bind fun y80=>
     (f1 a0.n).bind fun y82=>
     (qw y80 y82).bind fun y84=>
     some y84
theorem W_ref04_Text (f0 f1)(S0:Sat_ref04_Text f0)(S1:Sat_ref04_Digits f1):Sat_ref04_Text (B_ref04_Text f0 f1):=by
 intro a0 r h σ K hK;refine zB Try.func36 rfl rfl (by kernel_rfl) ?_;unfold B_ref04_Text at h;have hP:=Pre.refl σ;have E0:qu [(.ag (Expr.cl a0))] 0=(.ag (Expr.cl a0)):=rfl;have TT:=cj8 Expr.cle Expr.rlen T_157 T_2 T_3 T_37 T_39 T_9;refine qh (fun e s=>∃i1:Nat,Bx σ s i1 39 (Expr.cl a0)∧eP e 1 i1∧Pre σ s) ?_ ?_
 ·refine w_x (cj2 E0 TT) ?_;exact qf ⟨σ.length,(Bx.new hP _ _),(xv (cj2 E0 TT)),(hP.app _)⟩
 rintro e s ⟨i1,X1,E1,hP⟩
 refine qk (qe (w_x (cj3 E1 X1.get TT) ?_));refine qg (qe ?_);rcases qj h with⟨hb1,h⟩|⟨hb1,h⟩
 ·refine xt hb1 (qe (w_x (cj3 E1 X1.get TT) ?_));refine qg (qo (ze ?_));obtain rfl:=qc h;exact qq (fun _=>rfl) (xr (rs:= #[.tmp 2]) TT) hP (.refl _) (.v _) hK
 ·refine xf hb1 (qm (qg (qk (qe (w_x (cj3 E1 X1.get TT) ?_)))));refine qg (qe ?_);rcases qj h with⟨hb2,h⟩|⟨hb2,h⟩
  ·refine xt hb2 (qe ?_);obtain⟨y3,h4,h⟩:=qb h;refine w_x (cj5 E1 X1.get (qi h4).1 (qi h4).2 TT) ?_;refine qg (qk (qe (w_x Expr.rlen ?_)));refine qg ?_;obtain⟨x5,h6,h⟩:=qb h;refine qh (fun e s=>∃v7,v7=x5∧eT e 3 v7∧Pre σ s) ?_ ?_
   ·refine qn (qX h6 (fun v e s=>∃v8 v9,(v8,v9)=v∧Bx σ s i1 39 (Expr.cl a0)∧eP e 1 i1∧eT e 3 v8∧eI e 4 v9∧Pre σ s) ⟨_,WkE.refl _,_,_,rfl,X1,E1,(xv TT),(xv TT),hP⟩ ?_)
    rintro v x10 e s hf11 ⟨v8,v9,rfl,X1,E1,E3,E4,hP⟩
    unfold Zf at hf11;(try dsimp only at hf11);refine qk (qe (w_x (cj4 E1 E4 X1.get TT) ?_));refine qg (qe ?_);rcases qj hf11 with⟨hb12,hf11⟩|⟨hb12,hf11⟩
    ·refine xt hb12 (qm (qg ?_));obtain⟨x13,h14,hf11⟩:=qb hf11;refine qh (fun e s=>∃v15,v15=x13∧Bx σ s i1 39 (Expr.cl a0)∧eP e 1 i1∧eT e 3 v15∧eI e 4 v9∧Pre σ s) ?_ ?_
     ·refine qn (qk (qe (w_x (cj2 E4 TT) ?_)));refine qg ?_;obtain⟨x16,h17,h14⟩:=qb h14;refine qh (fun e s=>∃v18,v18=x16∧Bx σ s i1 39 (Expr.cl a0)∧eP e 1 i1∧eT e 3 v18∧eI e 4 v9∧Pre σ s) ?_ ?_
      ·rcases qj h17 with⟨hb19,h17⟩|⟨hb19,h17⟩
       ·refine xt hb19 ?_;obtain⟨y20,h21,h17⟩:=qb h17;have q1:=cj4 E3 (qi h21).1 (qi h21).2 TT;refine w_x q1 ?_;obtain rfl:=qc h17;exact qf ⟨_,rfl,X1,E1,(xv q1),E4,hP⟩
       ·refine xf hb19 (qm ?_);obtain rfl:=qc h17;exact qf ⟨_,rfl,X1,E1,E3,E4,hP⟩
      rintro e s ⟨v18,rfl,X1,E1,E3,E4,hP⟩
      (try dsimp only at h14);obtain⟨y22,h23,h14⟩:=qb h14;obtain⟨y24,h25,h14⟩:=qb h14;obtain⟨y26,h27,h14⟩:=qb h14;have R28:(Expr.rows a0.args)[(v9).toNat]? =some (Expr.cl y22):=Expr.rget (qp h23).2;have q2:=cj9 E1 E3 E4 X1.get R28 (qp h23).1 (qi h27).1 (qi h27).2 TT;refine w_x q2 ?_;refine S0 _ _ h25 _ _ ?_;refine w_y q2 ?_;refine zc ?_;obtain rfl:=qc h14;exact qf ⟨_,rfl,X1,E1,(xv q2),E4,hP⟩
     rintro e s ⟨v15,rfl,X1,E1,E3,E4,hP⟩
     (try dsimp only at hf11);refine w_x (cj2 E4 TT) ?_;obtain rfl:=qc hf11;exact zK rfl ⟨_,_,rfl,X1,E1,E3,(xv (cj2 E4 TT)),hP⟩
    ·refine xf hb12 (qz (qT ?_));obtain rfl:=qc hf11;refine zo rfl fun hr29=> ?_;obtain rfl:=hr29;exact qG (qf ⟨_,rfl,E3,hP⟩)
   rintro e s ⟨v7,rfl,E3,hP⟩
   (try dsimp only at h);refine qe ?_;obtain⟨y30,h31,h⟩:=qb h;refine w_x (cj4 E3 (qi h31).1 (qi h31).2 TT) ?_;refine qg (qo (ze ?_));obtain rfl:=qc h;exact qq (fun _=>rfl) (xr (rs:= #[.tmp 2]) TT) hP (.refl _) (.v _) hK
  ·refine xf hb2 (qm (qg ?_));obtain⟨y32,h33,h⟩:=qb h;refine qh (fun e s=>∃i5:Nat,Bx σ s i1 39 (Expr.cl a0)∧Bx σ s i5 39 (Expr.cl y32)∧eP e 1 i1∧eP e 5 i5∧Pre σ s) ?_ ?_
   ·have R34:(Expr.rows a0.args)[((0:Int)).toNat]? =some (Expr.cl y32):=Expr.rget (qp h33).2;have q3:=cj5 E1 X1.g3 R34 (qp h33).1 TT;refine w_x q3 ?_;exact qf ⟨s.length,(X1.app _),(Bx.new hP _ _),E1,(xv q3),(hP.app _)⟩
   rintro e s ⟨i5,X1,X5,E1,E5,hP⟩
   refine qe ?_;obtain⟨y35,h36,h⟩:=qb h;refine w_x (cj3 E5 X5.get TT) ?_;refine S0 _ _ h36 _ _ ?_;refine w_y (cj3 E5 X5.get TT) ?_;refine qg (qk (qe (w_x (cj3 E1 X1.get TT) ?_)));refine qg ?_;obtain⟨x37,h38,h⟩:=qb h;refine qh (fun e s=>.inr ()=x37∧Bx σ s i1 39 (Expr.cl a0)∧Bx σ s i5 39 (Expr.cl y32)∧eP e 1 i1∧eP e 5 i5∧eT e 6 y35∧Pre σ s) ?_ ?_
   ·refine qn (qe (w_x TT ?_));refine qg ?_;rcases qj h38 with⟨hb39,h38⟩|⟨hb39,h38⟩
    ·refine xt hb39 (qe ?_);obtain⟨y40,h41,h38⟩:=qb h38;obtain⟨y42,h43,h38⟩:=qb h38;obtain⟨y44,h45,h38⟩:=qb h38;have q4:=cj7 E1 X1.get (qi h43).1 (qi h43).2 (qi h45).1 (qi h45).2 TT;refine w_x q4 ?_;refine S1 _ _ h41 _ _ ?_;refine w_y q4 ?_;refine qg (qo (qx ?_));obtain rfl:=qc h38;refine qO ?_;(try dsimp only at h);obtain rfl:=qc h;exact qq (fun _=>rfl) (xr (rs:= #[.tmp 2]) TT) hP (.refl _) (.v _) hK
    ·refine xf hb39 (qe (w_x TT ?_));refine qg ?_;rcases qj h38 with⟨hb46,h38⟩|⟨hb46,h38⟩
     ·refine xt hb46 (qe ?_);obtain⟨y47,h48,h38⟩:=qb h38;obtain⟨y49,h50,h38⟩:=qb h38;obtain⟨y51,h52,h38⟩:=qb h38;have q5:=cj7 E1 X1.get (qi h50).1 (qi h50).2 (qi h52).1 (qi h52).2 TT;refine w_x q5 ?_;refine S1 _ _ h48 _ _ ?_;refine w_y q5 ?_;refine qg (qo (qx ?_));obtain rfl:=qc h38;refine qO ?_;(try dsimp only at h);obtain rfl:=qc h;exact qq (fun _=>rfl) (xr (rs:= #[.tmp 2]) TT) hP (.refl _) (.v _) hK
     ·refine xf hb46 (qe (w_x TT ?_));refine qg ?_;rcases qj h38 with⟨hb53,h38⟩|⟨hb53,h38⟩
      ·refine xt hb53 (qe ?_);obtain⟨y54,h55,h38⟩:=qb h38;refine w_x (cj3 (qi h55).1 (qi h55).2 TT) ?_;refine qg (qo (qx ?_));obtain rfl:=qc h38;refine qO ?_;(try dsimp only at h);obtain rfl:=qc h;exact qq (fun _=>rfl) (xr (rs:= #[.tmp 2]) TT) hP (.refl _) (.v _) hK
      ·refine xf hb53 (qm (zc ?_));obtain rfl:=qc h38;exact qf ⟨rfl,X1,X5,E1,E5,(xv TT),hP⟩
   rintro e s ⟨rfl,X1,X5,E1,E5,E6,hP⟩
   (try dsimp only at h);refine qk (qh (fun e s=>Bx σ s i1 39 (Expr.cl a0)∧eP e 1 i1∧eT e 6 y35∧eB e 74 ((decide ((6:Int)≤y32.kind))&&(decide (y32.kind≤(8:Int))))∧Pre σ s) ?_ ?_)
   ·cases hb56:(decide ((6:Int)≤y32.kind))
    ·refine w_x (cj4 E5 X5.get hb56 TT) ?_;exact qf ⟨X1,E1,E6,(xv (cj4 E5 X5.get hb56 TT)),hP⟩
    ·refine w_x (cj4 E5 X5.get hb56 TT) ?_;exact qf ⟨X1,E1,E6,(xv (cj4 E5 X5.get hb56 TT)),hP⟩
   rintro e s ⟨X1,E1,E6,E74,hP⟩
   obtain⟨x57,h58,h⟩:=qb h;refine qh (fun e s=>∃v59,v59=x57∧Bx σ s i1 39 (Expr.cl a0)∧eP e 1 i1∧eT e 6 v59∧Pre σ s) ?_ ?_
   ·rcases qj h58 with⟨hb60,h58⟩|⟨hb60,h58⟩
    ·refine xt (cj2 E74 hb60) ?_;obtain⟨y61,h62,h58⟩:=qb h58;obtain⟨y63,h64,h58⟩:=qb h58;have q6:=cj6 E6 (qi h62).1 (qi h62).2 (qi h64).1 (qi h64).2 TT;refine w_x q6 ?_;obtain rfl:=qc h58;exact qf ⟨_,rfl,X1,E1,(xv q6),hP⟩
    ·refine xf (cj2 E74 hb60) (qm ?_);obtain rfl:=qc h58;exact qf ⟨_,rfl,X1,E1,E6,hP⟩
   rintro e s ⟨v59,rfl,X1,E1,E6,hP⟩
   (try dsimp only at h);refine qk (qe (w_x (cj3 E1 X1.get TT) ?_));refine qg (qe ?_);rcases qj h with⟨hb65,h⟩|⟨hb65,h⟩
   ·refine xt hb65 ?_;obtain⟨y66,h67,h⟩:=qb h;obtain⟨y68,h69,h⟩:=qb h;obtain⟨y70,h71,h⟩:=qb h;obtain⟨y72,h73,h⟩:=qb h;obtain⟨y74,h75,h⟩:=qb h;obtain⟨y76,h77,h⟩:=qb h;refine qh (fun e s=>eT e 2 y76∧Pre σ s) ?_ ?_
    ·have q7:=ZD E1 E6 X1.get (qi h67).1 (qi h67).2 (qi h71).1 (qi h71).2 (qi h73).1 (qi h73).2 (qi h77).1 (qi h77).2 TT;refine w_xd 10 0 q7 ?_;refine S1 _ _ h69 _ _ ?_;refine QD q7 ?_;refine S1 _ _ h75 _ _ ?_;refine QD q7 ?_;refine Qn q7 ?_;exact qf ⟨(xv q7),hP⟩
    rintro e s ⟨E2,hP⟩
    refine qo (ze ?_);obtain rfl:=qc h;exact qq (fun _=>rfl) (xr (rs:= #[.tmp 2]) (cj2 E2 TT)) hP (.refl _) (.v _) hK
   ·refine xf hb65 (qm (qg ?_));obtain⟨y78,h79,h⟩:=qb h;obtain⟨y80,h81,h⟩:=qb h;obtain⟨y82,h83,h⟩:=qb h;obtain⟨y84,h85,h⟩:=qb h;refine qh (fun e s=>eT e 2 y84∧Pre σ s) ?_ ?_
    ·have R86:=arr_get (f:=fun x:ByteArray=>PV.v (.string x)) (cs:=[(.v (.string (⟨#[]⟩:ByteArray))),(.v (.string (⟨#[]⟩:ByteArray))),(.v (.string (⟨#[]⟩:ByteArray))),(.v (.string (⟨#[32,42,94,32]⟩:ByteArray))),(.v (.string (⟨#[32,47,94,32]⟩:ByteArray)))]) (k:=5) h79 rfl rfl;have q8:=cj9 E1 E6 X1.get R86 (qi h81).1 (qi h81).2 (qi h85).1 (qi h85).2 TT;refine w_xd 9 0 q8 ?_;refine S1 _ _ h83 _ _ ?_;refine QD q8 ?_;refine Qn q8 ?_;exact qf ⟨(xv q8),hP⟩
    rintro e s ⟨E2,hP⟩
    refine qo ?_;obtain rfl:=qc h;exact qq (fun _=>rfl) (xr (rs:= #[.tmp 2]) (cj2 E2 TT)) hP (.refl _) (.v _) hK
end Go.Proofs.Ytohmmfimedgccaa.E
end
section
namespace Go.Proofs.Ytohmmfimedgccaa.E
set_option linter.unusedVariables false
set_option linter.unusedSimpArgs false
theorem G2_app:∀{o o':W},G 2 o→G 2 o'→G 2 (o++o')
 |_,_,.nil,h=>h
 |_,_,.over h1 h2 h3,h=>.over h1 h2 (G2_app h3 h)
 |_,_,.shift h1 h2 h3,h=>.shift h1 h2 (G2_app h3 h)
theorem G3_app {l g:W}(h:G 3 l)(hg:G 0 g):G 3 (l++[44]::g):=by
 match l,h with
 |_,.one h=>exact .more h (.one hg)
 |_,.more h hl=>rw[List.append_assoc];exact .more h (G3_app hl hg)
termination_by l.length
decreasing_by simp;omega
def B3:Nat:=3000000000
structure TE (e:Expr)(r:ByteArray):Prop where
 ex:∃ps g,r=bs (text [] ps)∧Fg ps g∧G 0 g∧(¬(6≤e.kind∧e.kind≤8)→∃a o,g=a++o∧G 1 a∧G 2 o)∧(text [] ps).length+2≤B3*qN e
def pText (e:Expr)(r:ByteArray):Prop:=Sp_ref04_Text e r∧(XE e→qN e≤100→TE e r)
noncomputable def JN:Expr→Option ByteArray:=pick pText
theorem y_text:Sat_ref04_Text JN:=fun _ _ h=>(QY h).1
theorem Qh {w:List UInt8}(h:w∈SG):Tk w:=.sg w h
theorem sizeE_pos (e:Expr):1≤qN e:=by rw[qqe];omega
theorem fg_par {ps:List Pc}{g:W}(h:Fg ps g):Fg (([],[40])::(ps++[([],[41])])) ([40]::(g++[[41]])):=by
 refine⟨⟨_,_,rfl⟩,by simp[h.tk],fun t ht=>ok1 b0 (Qh (by decide)) (fol_sg (by decide) (by decide)) (zD.2 ⟨h.ok _ (zW (by decide)),ok1 b0 (Qh (by decide)) (fol_sg (by decide) (by decide)) trivial⟩)⟩
theorem fg_op {ps:List Pc}{g:W}(h:Fg ps g){k w:List UInt8}(hk:k∈SG)(hw:Dg w):Fg (ps++[([32],k),([32],w)]) (g++[k,w]):=by
 obtain⟨w0,r,e⟩:=h.hd;refine⟨⟨w0,r++[([32],k),([32],w)],by rw[e];rfl⟩,by simp[h.tk],fun t ht=>zD.2 ⟨h.ok _ (zW (by decide)),ok1 b32 (Qh hk) (qL rfl) (ok1 b32 hw.tk (ZT (by rw[hw.kd];decide) ht) trivial)⟩⟩
theorem fg_sh {ps:List Pc}{g:W}(h:Fg ps g){w d:List UInt8}(hw:Dg w)(hd:Dg d):Fg (ps++[([32],[126,62]),([32],w),([],[47]),([],d)]) (g++[[126,62],w,[47],d]):=by
 obtain⟨w0,r,e⟩:=h.hd;obtain⟨c,u,e2,hc⟩:=hd.hd;refine⟨⟨w0,r++[([32],[126,62]),([32],w),([],[47]),([],d)],by rw[e];rfl⟩,by simp[h.tk],fun t ht=>zD.2 ⟨h.ok _ (zW (by decide)),ok1 b32 (Qh (by decide)) (qL rfl) (ok1 b32 hw.tk (ZT (by rw[hw.kd];decide) (zW (by decide))) (ok1 b0 (Qh (by decide)) ?_ (ok1 b0 hd.tk (ZT (by rw[hd.kd];decide) ht) trivial)))⟩⟩;intro x hx;rw[show text t [([],d)]=d++t by simp[text],e2]at hx;cases hx;refine .inr (.inr ⟨by decide,fun s hs e3=> ?_⟩);have:((SG2.all fun s=>decide (s.take 1=[47]→s=[47,94])):Bool)=true:=by decide
 have:=of_decide_eq_true (List.all_eq_true.1 this s hs) (by rw[e3];rfl);rw[e3]at this;simp at this;exact hc this
theorem fg_wd {ps:List Pc}{g:W}(h:Fg ps g){w:List UInt8}(hw:Tk w):Fg (([],w)::sp ps) (w::g):=by
 refine⟨⟨_,_,rfl⟩,by simp[qqc,h.tk],fun t ht=>ok1 b0 hw (by rw[zC h];exact qL rfl) (sp_ok (h.ok t ht))⟩
theorem fg_num {ps pn:List Pc}{g:W}(h:Fg ps g){w k:List UInt8}(hw:Dg w)(hp:pn=[([],w)]∨pn=[([],[45]),([],w)])(hk:Tk k):Fg (pn++([32],k)::sp ps) (pn.map (·.2)++k::g):=by
 have hb:∀t,Sf t→okA t (([32],k)::sp ps):=fun t ht=>ok1 b32 hk (by rw[zC h];exact qL rfl) (sp_ok (h.ok t ht));rcases hp with rfl|rfl
 ·exact⟨⟨_,_,rfl⟩,by simp[qqc,h.tk],fun t ht=>ok1 b0 hw.tk (ZT (by rw[hw.kd];decide) (zW (by decide))) (hb t ht)⟩
 ·exact⟨⟨_,_,rfl⟩,by simp[qqc,h.tk],fun t ht=>ok1 b0 (Qh (by decide)) (fol_sg (by decide) (by decide)) (ok1 b0 hw.tk (ZT (by rw[hw.kd];decide) (zW (by decide))) (hb t ht))⟩
theorem fg_cm {l ps:List Pc}{gl g:W}(hl:Fg l gl)(h:Fg ps g):Fg (l++([],[44])::sp ps) (gl++[44]::g):=by
 obtain⟨w0,r,e⟩:=hl.hd;exact⟨⟨w0,r++([],[44])::sp ps,by rw[e];rfl⟩,by simp[qqc,h.tk,hl.tk],fun t ht=>zD.2 ⟨hl.ok _ (zW (by decide)),ok1 b0 (Qh (by decide)) (by rw[zC h];exact qL rfl) (sp_ok (h.ok t ht))⟩⟩
theorem fg_call {l:List Pc}{gl:W}(hl:Fg l gl){w:List UInt8}(hw:Tk w)(hk:kd w=1):Fg (([],w)::([],[40])::(l++[([],[41])])) (w::[40]::(gl++[[41]])):=
 ⟨⟨_,_,rfl⟩,by simp[hl.tk],fun t ht=>ok1 b0 hw (ZT (by rw[hk];decide) (zW (by decide))) ((fg_par hl).ok t ht)⟩
theorem x_text (e:Expr):XE e→qN e≤100→∃r,JN e=some r∧pText e r:=by
 induction e using Expr.induct with
 | h e ih =>
  intro hx hsz;refine ZH ?_;have hse:=qqe e;have hB:∃r,B_ref04_Text JN QZ e=some r∧TE e r:=by
   have hB3:B3=3000000000:=rfl;have arg:∀x,e.args=[x]→XE x→∃x' ps g,qS e.args 0=some x'∧JN x'=some (bs (text [] ps))∧Fg ps g∧G 0 g∧(¬(6≤x'.kind∧x'.kind≤8)→∃a o,g=a++o∧G 1 a∧G 2 o)∧(text [] ps).length+2+B3≤B3*qN e∧B3*qN e≤B3*100:=fun x hargs hX=>by
    have hs:qN e=qN x+1:=by rw[hse,hargs];simp[zT];omega
    obtain⟨r,k1,_,k2⟩:=ih x (by rw[hargs];exact List.mem_cons_self) hX (by omega);obtain⟨ps,g,rfl,f1,f2,f4,f3⟩:=(k2 hX (by omega)).ex;refine⟨x,ps,g,by rw[hargs];rfl,k1,f1,f2,f4,?_,Nat.mul_le_mul_left _ hsz⟩;rw[hs,Nat.mul_add];omega
   have tight:∀x,e.args=[x]→XE x→∃P gP,(∃x' r0,qS e.args 0=some x'∧JN x'=some r0∧(if((decide ((6:Int)≤x'.kind))&&(decide (x'.kind≤(8:Int))))then(qw (⟨#[40]⟩:ByteArray) r0).bind fun y61=>(qw y61 (⟨#[41]⟩:ByteArray)).bind fun y63=>some y63 else some r0:Option ByteArray)=some (bs (text [] P)))∧Fg P gP∧∃a o,gP=a++o∧G 1 a∧G 2 o∧(text [] P).length+B3≤B3*qN e∧B3*qN e≤B3*100:=fun x hargs hX=>by
    obtain⟨x',ps,g,u1,u2,f1,f2,f4,f3,f5⟩:=arg x hargs hX;by_cases hk:6≤x'.kind∧x'.kind≤8
    ·refine⟨([],[40])::(ps++[([],[41])]),[40]::(g++[[41]]),⟨x',_,u1,u2,?_⟩,fg_par f1,_,[],(List.append_nil _).symm,.paren f2,.nil,?_,f5⟩
     ·rw[decide_eq_true hk.1,decide_eq_true hk.2,w40,w41];simp only[Bool.and_self,if_true];rw[qt _ _ (by simp;omega)];simp only[Option.bind_some];rw[qt _ _ (by simp;omega)];simp only[Option.bind_some,text,qv,List.nil_append,List.append_nil];rw[qD [41] ps];simp
     ·simp only[text,qv,List.nil_append,List.append_nil];rw[qD [41] ps];simp;omega
    ·obtain⟨a,o,rfl,ga,go⟩:=f4 hk;refine⟨ps,a++o,⟨x',_,u1,u2,?_⟩,f1,a,o,rfl,ga,go,by omega,f5⟩;have:((decide ((6:Int)≤x'.kind))&&(decide (x'.kind≤(8:Int))))=false:=by
      cases hb:((decide ((6:Int)≤x'.kind))&&(decide (x'.kind≤(8:Int))))with
      |false=>rfl
      |true=>simp only[Bool.and_eq_true,decide_eq_true_eq]at hb;exact absurd hb hk
     rw[this];rfl
   unfold B_ref04_Text;cases hx with
   | nm hn hk =>
    obtain⟨w,e1,h1,h2,h3,h4⟩:=Yg hn;rw[decide_eq_true hk,if_pos rfl];refine⟨_,rfl,⟨[([],w)],[w],by rw[e1];simp[text],h4,?_,fun _=>⟨[w],[],rfl,.name h2,.nil⟩,by simp[text,B3];have:=sizeE_pos e;omega⟩⟩;rw[←List.append_nil [w]];exact .post (.name h2) .nil
   | call hall hn hk hl1 hl6 =>
    obtain⟨w,e1,h1,h2,h3,h4⟩:=Yg hn;rw[decide_eq_false (by rw[hk];decide),decide_eq_true hk,e1,w40,w41];simp only[Bool.false_eq_true,if_false,if_true];rw[qt _ _ (by simp;omega)];simp only[Option.bind_some];obtain⟨v,hv,L,g,hvL,hL,hg,hlen⟩:=zn (f:=Zf e JN) (fun i v=>v.2=(i:Int)∧(i=0→v.1=bs (w++[40]))∧(0<i→∃L g,v.1=bs (w++[40]++text [] L)∧Fg L g∧G 3 g∧(text [] L).length≤B3*zT (e.args.take i))) e.args.length
     (fun v=>∃L g,v=bs (w++[40]++text [] L)∧Fg L g∧G 3 g∧(text [] L).length≤B3*zT e.args) (fun i v hi hv=>by
      obtain⟨v,j⟩:=v;obtain⟨rfl,hv0,hv1⟩:=hv;simp only at hv0 hv1;have hmem:=List.getElem_mem hi;have hszi:=zzo hi;have hle:zT (e.args.take (i+1))≤zT e.args:=by
       have:=qqw (e.args.take (i+1)) (e.args.drop (i+1));rw[List.take_append_drop]at this;omega
      obtain⟨r,k1,_,k2⟩:=ih _ hmem (hall _ hmem) (by omega);obtain⟨ps,g,rfl,f1,f2,_,f3⟩:=(k2 (hall _ hmem) (by omega)).ex;left;unfold Zf;dsimp only;simp only[dlt hi,if_true,zg hi,Option.bind_some,k1,show(⟨#[44,32]⟩:ByteArray)=bs [44,32] from rfl];have hwi:=Zm hi (ml (by omega));have hB:B3*zT (e.args.take (i+1))≤B3*100:=Nat.mul_le_mul_left _ (by omega);rw[hszi,Nat.mul_add]at hB;have hB3:B3=3000000000:=rfl;by_cases i0:i=0
      ·subst i0;rw[hv0 rfl,decide_eq_false (by decide)];simp only[Bool.false_eq_true,if_false,Option.bind_some];rw[qt _ _ (by simp;omega)];refine⟨_,rfl,hwi,fun h=>absurd h (by omega),fun _=>⟨ps,g,rfl,f1,.one f2,?_⟩⟩;rw[hszi,Nat.mul_add];omega
      ·obtain⟨L,gl,rfl,m1,m2,m3⟩:=hv1 (by omega);rw[decide_eq_true (by omega)];simp only[if_true];rw[qt _ _ (by simp;omega)];simp only[Option.bind_some];rw[qt _ _ (by simp;omega)];refine⟨_,rfl,hwi,fun h=>absurd h (by omega),fun _=>⟨L++([],[44])::sp ps,gl++[44]::g,?_,fg_cm m1 f1,G3_app m2 f2,?_⟩⟩
       ·rw[qv,qD (text [] _) L];simp[text,zC f1]
       ·rw[hszi,Nat.mul_add,qv,qD (text [] _) L];simp[text,zC f1];omega) (fun v hv=>by
      obtain⟨v,j⟩:=v;obtain⟨rfl,_,hv1⟩:=hv;simp only at hv1;obtain⟨L,g,rfl,m1,m2,m3⟩:=hv1 (by omega);rw[List.take_length]at m3;refine⟨_,?_,L,g,rfl,m1,m2,m3⟩;unfold Zf;dsimp only;rw[dge];rfl) (v0:=(bs (w++[40]),(0:Int))) ⟨rfl,fun _=>rfl,fun h=>absurd h (by omega)⟩
    rw[hv,hvL];simp only[Option.bind_some];have hB:B3*zT e.args≤B3*100:=Nat.mul_le_mul_left _ (by omega);have hB3:B3=3000000000:=rfl;rw[qt _ _ (by simp;omega)];simp only[Option.bind_some];refine⟨_,rfl,⟨([],w)::([],[40])::(L++[([],[41])]),w::[40]::(g++[[41]]),?_,fg_call hL h1 h2.1,?_,fun _=>⟨_,[],by simp,.call h2 hg,.nil⟩,?_⟩⟩
    ·simp only[text,qv,List.nil_append,List.append_nil];rw[qD [41] L];simp
    ·rw[←List.append_nil (w::_)];exact .post (.call h2 hg) .nil
    ·simp only[text,qv,List.nil_append,List.append_nil];rw[qD [41] L,hse,Nat.mul_add];simp;omega
   | op hargs hX hk hn =>
    obtain⟨P,gP,t1,t2,a,o,rfl,ga,go,t3,t4⟩:=tight _ hargs hX;obtain⟨w,d1,d2,d3⟩:=YZ hn;obtain⟨k,hk1,hk2,hk3,hk4⟩:∃k:List UInt8,qS ([(⟨#[]⟩:ByteArray),(⟨#[]⟩:ByteArray),(⟨#[]⟩:ByteArray),(⟨#[32,42,94,32]⟩:ByteArray),(⟨#[32,47,94,32]⟩:ByteArray)]:List ByteArray) e.kind=some (bs (32::k++[32]))∧(k=[42,94]∨k=[47,94])∧k∈SG∧k.length=2:=by
     rcases hk with hk|hk
     ·exact⟨[42,94],by rw[hk];rfl,.inl rfl,by decide,rfl⟩
     ·exact⟨[47,94],by rw[hk];rfl,.inr rfl,by decide,rfl⟩
    have c1:¬e.kind=1:=by omega
    have c2:¬e.kind=2:=by omega
    have c6:¬e.kind=6:=by omega
    have c8:¬e.kind=8:=by omega
    have c7:¬e.kind=7:=by omega
    have c5:¬e.kind=5:=by omega
    obtain⟨x,r0,u1,u2,u3⟩:=t1;simp only[decide_eq_false c1,decide_eq_false c2,Bool.false_eq_true,if_false,u1,Option.bind_some,u2,decide_eq_false c6,decide_eq_false c8,decide_eq_false c7,u3,decide_eq_false c5,hk1,d1];rw[qt _ _ (by simp;omega)];simp only[Option.bind_some];rw[qt _ _ (by simp;omega)];simp only[Option.bind_some];refine⟨_,rfl,⟨P++[([32],k),([32],w)],(a++o)++[k,w],?_,fg_op t2 hk3 d2,?_,fun _=>⟨a,o++[k,w],by simp,ga,G2_app go (.over hk2 d2.kd .nil)⟩,?_⟩⟩
    ·rw[qv,qD (text [] _) P];simp[text]
    ·rw[List.append_assoc];exact .post ga (G2_app go (.over hk2 d2.kd .nil))
    ·rw[qv,qD (text [] _) P];simp[text];omega
   | sh hargs hX hk hn hd =>
    obtain⟨P,gP,t1,t2,a,o,rfl,ga,go,t3,t4⟩:=tight _ hargs hX;obtain⟨w,d1,d2,d3⟩:=YZ hn;obtain⟨d,f1,f2,f3⟩:=YZ hd;obtain⟨x,r0,u1,u2,u3⟩:=t1;rw[hk];simp only[Int.reduceEq,decide_false,Bool.false_eq_true,if_false,u1,Option.bind_some,u2,u3,decide_true,if_true,d1,f1,show(⟨#[32,126,62,32]⟩:ByteArray)=bs [32,126,62,32] from rfl,w47];rw[qt _ _ (by simp;omega)];simp only[Option.bind_some];rw[qt _ _ (by simp;omega)];simp only[Option.bind_some];rw[qt _ _ (by simp;omega)];simp only[Option.bind_some];rw[qt _ _ (by simp;omega)];simp only[Option.bind_some];refine⟨_,rfl,⟨P++[([32],[126,62]),([32],w),([],[47]),([],d)],(a++o)++[[126,62],w,[47],d],?_,fg_sh t2 d2 f2,?_,fun _=>⟨a,o++[[126,62],w,[47],d],by simp,ga,G2_app go (.shift d2.kd f2.kd .nil)⟩,?_⟩⟩
    ·rw[qv,qD (text [] _) P];simp[text]
    ·rw[List.append_assoc];exact .post ga (G2_app go (.shift d2.kd f2.kd .nil))
    ·rw[qv,qD (text [] _) P];simp[text];omega
   | fby hargs hX hk hn =>
    obtain⟨x,ps,g,u1,u2,f1,f2,f4,f3⟩:=arg _ hargs hX;obtain⟨w,pn,d1,d2,d3,d4⟩:=t_digm hn;have hG:∀k:List UInt8,(k=[102,98,121]∨k=[58,58])→G 0 (pn.map (·.2)++k::g):=fun k hk=>by
     rcases d3 with rfl|rfl
     ·exact .num d2.kd hk f2
     ·exact .neg d2.kd hk f2
    rcases hk with hk|hk
    ·rw[hk];simp only[Int.reduceEq,decide_false,Bool.false_eq_true,if_false,u1,Option.bind_some,u2,decide_true,if_true,d1,show(⟨#[32,102,98,121,32]⟩:ByteArray)=bs [32,102,98,121,32] from rfl];rw[qt _ _ (by simp;omega)];simp only[Option.bind_some];rw[qt _ _ (by simp;omega)];simp only[Option.bind_some];refine⟨_,rfl,⟨pn++([32],[102,98,121])::sp ps,_,?_,fg_num f1 d2 d3 (.nm 102 [98,121] (by decide) (by decide)),hG _ (.inl rfl),fun h=>absurd (by omega) h,?_⟩⟩
     ·rw[qv,qD (text [] _) pn];simp[text,zC f1]
     ·rw[qv,qD (text [] _) pn];simp[text,zC f1];omega
    ·rw[hk];simp only[Int.reduceEq,decide_false,Bool.false_eq_true,if_false,u1,Option.bind_some,u2,decide_true,if_true,d1,show(⟨#[32,58,58,32]⟩:ByteArray)=bs [32,58,58,32] from rfl];rw[qt _ _ (by simp;omega)];simp only[Option.bind_some];rw[qt _ _ (by simp;omega)];simp only[Option.bind_some];refine⟨_,rfl,⟨pn++([32],[58,58])::sp ps,_,?_,fg_num f1 d2 d3 (Qh (by decide)),hG _ (.inr rfl),fun h=>absurd (by omega) h,?_⟩⟩
     ·rw[qv,qD (text [] _) pn];simp[text,zC f1]
     ·rw[qv,qD (text [] _) pn];simp[text,zC f1];omega
   | tail hargs hX hk =>
    obtain⟨x,ps,g,u1,u2,f1,f2,f4,f3⟩:=arg _ hargs hX;rw[hk];simp only[Int.reduceEq,decide_false,Bool.false_eq_true,if_false,u1,Option.bind_some,u2,decide_true,if_true,show(⟨#[116,97,105,108,32]⟩:ByteArray)=bs [116,97,105,108,32] from rfl];rw[qt _ _ (by simp;omega)];simp only[Option.bind_some];refine⟨_,rfl,⟨([],[116,97,105,108])::sp ps,[116,97,105,108]::g,by simp[text,zC f1],fg_wd f1 (.nm 116 [97,105,108] (by decide) (by decide)),.tail f2,fun h=>absurd (by omega) h,?_⟩⟩;simp[text,zC f1];omega
  obtain⟨r,hr,ht⟩:=hB;exact⟨r,W_ref04_Text _ _ y_text y_dig _ _ hr,fun _ _=>ht⟩
end Go.Proofs.Ytohmmfimedgccaa.E
end
section
namespace Go.Proofs.Ytohmmfimedgccaa.E
set_option maxRecDepth 100000
set_option maxHeartbeats 4000000
set_option linter.unusedVariables false
set_option linter.unusedSimpArgs false
noncomputable def B_ref04_BodyText (f0:Int→Option ByteArray)(f1:Expr→Bool→Option ByteArray)(a0:Expr)(a1:Bool):Option ByteArray:=
 if(decide (a0.kind=(11:Int)))then
  some a0.name
 else
  if(decide (a0.kind=(12:Int)))then
   (f0 a0.n).bind fun y3=>
   some y3
  else
   (qS a0.args (0:Int)).bind fun y5=>
   (f1 y5 true).bind fun y7=>
   (qw y7 (⟨#[32]⟩:ByteArray)).bind fun y9=>
   (qw y9 a0.name).bind fun y11=>
   (qw y11 (⟨#[32]⟩:ByteArray)).bind fun y13=>
   (qS a0.args (1:Int)).bind fun y15=>
   (f1 y15 true).bind fun y17=>
   (qw y13 y17).bind fun y19=>
   (if(decide (((List.length a0.args:Nat):Int)=(3:Int)))then
    (qS a0.args (2:Int)).bind fun y27=>
    (f1 y27 true).bind fun y29=>
    (qw (⟨#[32,58,32]⟩:ByteArray) y29).bind fun y31=>
    (qw y19 y31).bind fun y33=>
    some y33
   else
    some y19:Option ByteArray).bind fun v25=>
   if a1 then
    (qw (⟨#[40]⟩:ByteArray) v25).bind fun y37=>
    (qw y37 (⟨#[41]⟩:ByteArray)).bind fun y39=>
    some y39
   else
    some v25
theorem W_ref04_BodyText (f0 f1)(S0:Sat_ref04_Digits f0)(S1:Sat_ref04_BodyText f1):Sat_ref04_BodyText (B_ref04_BodyText f0 f1):=by
 intro a0 a1 r h σ K hK;refine zB Try.func76 rfl rfl (by kernel_rfl) ?_;unfold B_ref04_BodyText at h;have hP:=Pre.refl σ;have E0:qu [(.ag (Expr.cl a0)),(.v (.bool a1))] 0=(.ag (Expr.cl a0)):=rfl;have E1:qu [(.ag (Expr.cl a0)),(.v (.bool a1))] 1=(.v (.bool a1)):=rfl;have TT:=cj8 Expr.cle Expr.rlen T_2 T_3 T_37 T_39 T_4 T_9;refine qh (fun e s=>∃i2:Nat,Bx σ s i2 39 (Expr.cl a0)∧eB e 1 a1∧eP e 2 i2∧Pre σ s) ?_ ?_
 ·refine w_x (cj2 E0 TT) ?_;exact qf ⟨σ.length,(Bx.new hP _ _),E1,(xv (cj2 E0 TT)),(hP.app _)⟩
 rintro e s ⟨i2,X2,E1,E2,hP⟩
 refine qk (qe (w_x (cj3 E2 X2.get TT) ?_));refine qg (qe ?_);rcases qj h with⟨hb1,h⟩|⟨hb1,h⟩
 ·refine xt hb1 (qe (w_x (cj3 E2 X2.get TT) ?_));refine qg (qo (ze ?_));obtain rfl:=qc h;exact qq (fun _=>rfl) (xr (rs:= #[.tmp 4]) TT) hP (.refl _) (.v _) hK
 ·refine xf hb1 (qm (qg (qk (qe (w_x (cj3 E2 X2.get TT) ?_)))));refine qg (qe ?_);rcases qj h with⟨hb2,h⟩|⟨hb2,h⟩
  ·refine xt hb2 (qe ?_);obtain⟨y3,h4,h⟩:=qb h;refine w_x (cj3 E2 X2.get TT) ?_;refine S0 _ _ h4 _ _ ?_;refine w_y (cj3 E2 X2.get TT) ?_;refine qg (qo (ze ?_));obtain rfl:=qc h;exact qq (fun _=>rfl) (xr (rs:= #[.tmp 4]) TT) hP (.refl _) (.v _) hK
  ·refine xf hb2 (qm (qg ?_));obtain⟨y5,h6,h⟩:=qb h;obtain⟨y7,h8,h⟩:=qb h;obtain⟨y9,h10,h⟩:=qb h;obtain⟨y11,h12,h⟩:=qb h;obtain⟨y13,h14,h⟩:=qb h;obtain⟨y15,h16,h⟩:=qb h;obtain⟨y17,h18,h⟩:=qb h;obtain⟨y19,h20,h⟩:=qb h;refine qh (fun e s=>Bx σ s i2 39 (Expr.cl a0)∧eB e 1 a1∧eP e 2 i2∧eT e 5 y19∧Pre σ s) ?_ ?_
   ·have R21:(Expr.rows a0.args)[((0:Int)).toNat]? =some (Expr.cl y5):=Expr.rget (qp h6).2;have R22:(Expr.rows a0.args)[((1:Int)).toNat]? =some (Expr.cl y15):=Expr.rget (qp h16).2;have q1:=cj15 E2 X2.get R21 (qp h6).1 (qi h10).1 (qi h10).2 (qi h12).1 (qi h12).2 (qi h14).1 (qi h14).2 R22 (qp h16).1 (qi h20).1 (qi h20).2 TT;refine w_xd 15 0 q1 ?_;refine S1 _ _ _ h8 _ _ ?_;refine QD q1 ?_;refine S1 _ _ _ h18 _ _ ?_;refine QD q1 ?_;refine Qn q1 ?_;exact qf ⟨X2,E1,E2,(xv q1),hP⟩
   rintro e s ⟨X2,E1,E2,E5,hP⟩
   refine qk (qe (w_x (cj3 E2 X2.get TT) ?_));refine qg ?_;obtain⟨x23,h24,h⟩:=qb h;refine qh (fun e s=>∃v25,v25=x23∧eB e 1 a1∧eT e 5 v25∧Pre σ s) ?_ ?_
   ·rcases qj h24 with⟨hb26,h24⟩|⟨hb26,h24⟩
    ·refine xt hb26 ?_;obtain⟨y27,h28,h24⟩:=qb h24;obtain⟨y29,h30,h24⟩:=qb h24;obtain⟨y31,h32,h24⟩:=qb h24;obtain⟨y33,h34,h24⟩:=qb h24;have R35:(Expr.rows a0.args)[((2:Int)).toNat]? =some (Expr.cl y27):=Expr.rget (qp h28).2;have q2:=cj10 E2 E5 X2.get R35 (qp h28).1 (qi h32).1 (qi h32).2 (qi h34).1 (qi h34).2 TT;refine w_x q2 ?_;refine S1 _ _ _ h30 _ _ ?_;refine w_y q2 ?_;obtain rfl:=qc h24;exact qf ⟨_,rfl,E1,(xv q2),hP⟩
    ·refine xf hb26 (qm ?_);obtain rfl:=qc h24;exact qf ⟨_,rfl,E1,E5,hP⟩
   rintro e s ⟨v25,rfl,E1,E5,hP⟩
   (try dsimp only at h);refine qk (qe (w_x (cj2 E1 TT) ?_));refine qg (qe ?_);rcases qj h with⟨hb36,h⟩|⟨hb36,h⟩
   ·refine xt hb36 (qe ?_);obtain⟨y37,h38,h⟩:=qb h;obtain⟨y39,h40,h⟩:=qb h;refine w_x (cj6 E5 (qi h38).1 (qi h38).2 (qi h40).1 (qi h40).2 TT) ?_;refine qg (qo (ze ?_));obtain rfl:=qc h;exact qq (fun _=>rfl) (xr (rs:= #[.tmp 4]) TT) hP (.refl _) (.v _) hK
   ·refine xf hb36 (qm (qg (qe (w_x (cj2 E5 TT) ?_))));refine qg (qo ?_);obtain rfl:=qc h;exact qq (fun _=>rfl) (xr (rs:= #[.tmp 4]) TT) hP (.refl _) (.v _) hK
end Go.Proofs.Ytohmmfimedgccaa.E
end
section
namespace Go.Proofs.Ytohmmfimedgccaa.E
set_option linter.unusedVariables false
set_option linter.unusedSimpArgs false
structure TB (e:Expr)(b:Bool)(r:ByteArray):Prop where
 ex:∃ps g,r=bs (text [] ps)∧Fg ps g∧H 0 g∧(b=true→H 3 g)∧(text [] ps).length+2≤B3*qN e
def pBT (x:Expr×Bool)(r:ByteArray):Prop:=Sp_ref04_BodyText x.1 x.2 r∧(XB x.1→qN x.1≤100→TB x.1 x.2 r)
noncomputable def Yk (e:Expr)(b:Bool):Option ByteArray:=pick pBT (e,b)
theorem y_btext:Sat_ref04_BodyText Yk:=fun _ _ _ h=>(QY h).1
theorem h03 {g:W}(h:H 3 g):H 0 g:=by
 have:=H.body h .n2 .n1 .c0 .q0;simpa using this
theorem h_op {a b:W}{k:List UInt8}(h1:H 3 a)(h2:H 3 b)(hk:bs k∈qW):H 0 (a++k::b):=by
 have e:k=[43]∨k=[45]∨k=[42]∨k=[47]∨k=[37]∨k=[60]∨k=[61,61]:=by
  rw[show qW=[bs [43],bs [45],bs [42],bs [47],bs [37],bs [60],bs [61,61]] from rfl]at hk;simpa [YE] using hk
 have m2:k∈FM→H 0 (a++k::b):=fun h=>by
  have:=H.body h1 (.m2 h h2 .n2) .n1 .c0 .q0;simpa using this
 have m1:k∈FS→H 0 (a++k::b):=fun h=>by
  have:=H.body h1 .n2 (.m1 h h2 .n2 .n1) .c0 .q0;simpa using this
 have c1:k=[60]∨k=[61,61]→H 0 (a++k::b):=fun h=>by
  have:=H.body h1 .n2 .n1 (.c1 h h2 .n2 .n1) .q0;simpa using this
 rcases e with rfl|rfl|rfl|rfl|rfl|rfl|rfl
 ·exact m1 (by decide)
 ·exact m1 (by decide)
 ·exact m2 (by decide)
 ·exact m2 (by decide)
 ·exact m2 (by decide)
 ·exact c1 (.inl rfl)
 ·exact c1 (.inr rfl)
theorem h_ask {a b c:W}(h1:H 3 a)(h2:H 3 b)(h3:H 3 c):H 0 (a++[63]::(b++[58]::c)):=by
 have:=H.body h1 .n2 .n1 .c0 (.q1 (h03 h2) (h03 h3));simpa using this
theorem op_sg {k:List UInt8}(hk:bs k∈qW):k∈SG∧k.length≤2:=by
 have e:k=[43]∨k=[45]∨k=[42]∨k=[47]∨k=[37]∨k=[60]∨k=[61,61]:=by
  rw[show qW=[bs [43],bs [45],bs [42],bs [47],bs [37],bs [60],bs [61,61]] from rfl]at hk;simpa [YE] using hk
 rcases e with rfl|rfl|rfl|rfl|rfl|rfl|rfl<;>decide
theorem fg_two {p q:List Pc}{a b:W}(hp:Fg p a)(hq:Fg q b){k:List UInt8}(hk:k∈SG):Fg (p++([32],k)::sp q) (a++k::b):=by
 obtain⟨w0,r,e⟩:=hp.hd;exact⟨⟨w0,r++([32],k)::sp q,by rw[e];rfl⟩,by simp[qqc,hp.tk,hq.tk],fun t ht=>zD.2 ⟨hp.ok _ (zW (by decide)),ok1 b32 (Qh hk) (by rw[zC hq];exact qL rfl) (sp_ok (hq.ok t ht))⟩⟩
theorem x_btext (e:Expr):∀b,XB e→qN e≤100→∃r,Yk e b=some r∧pBT (e,b) r:=by
 induction e using Expr.induct with
 | h e ih =>
  intro b hx hsz;refine ZH ?_;have hse:=qqe e;have hB3:B3=3000000000:=rfl;have hpos:B3≤B3*qN e:=by have:=Nat.mul_le_mul_left B3 (sizeE_pos e);omega
  have arg:∀x∈e.args,XB x→qN x≤100→∃ps g,Yk x true=some (bs (text [] ps))∧Fg ps g∧H 3 g∧(text [] ps).length+2≤B3*qN x:=fun x hm hX hs=>by
   obtain⟨r,k1,_,k2⟩:=ih x hm true hX hs;obtain⟨ps,g,rfl,f1,_,f2,f3⟩:=(k2 hX hs).ex;exact⟨ps,g,k1,f1,f2 rfl,f3⟩
  have fin:∀ps g,Fg ps g→H 0 g→(text [] ps).length+4≤B3*qN e→B3*qN e≤B3*100→∃r,(if b then(qw (⟨#[40]⟩:ByteArray) (bs (text [] ps))).bind fun y37=>(qw y37 (⟨#[41]⟩:ByteArray)).bind fun y39=>some y39 else some (bs (text [] ps)):Option ByteArray)=some r∧TB e b r:=fun ps g f1 f2 f3 f4=>by
   cases b with
   |false=>exact⟨_,rfl,ps,g,rfl,f1,f2,(fun h=>by cases h),by omega⟩
   | true =>
    rw[if_pos rfl,w40,w41,qt _ _ (by simp;omega)];simp only[Option.bind_some];rw[qt _ _ (by simp;omega)];refine⟨_,rfl,([],[40])::(ps++[([],[41])]),[40]::(g++[[41]]),?_,fg_par f1,h03 (.paren f2),fun _=>.paren f2,?_⟩
    ·simp only[text,qv,List.nil_append,List.append_nil];rw[qD [41] ps];simp
    ·simp only[text,qv,List.nil_append,List.append_nil];rw[qD [41] ps];simp;omega
  have hmax:B3*qN e≤B3*100:=Nat.mul_le_mul_left _ hsz;have hB:∃r,B_ref04_BodyText QZ Yk e b=some r∧TB e b r:=by
   unfold B_ref04_BodyText;cases hx with
   | par hn hk =>
    obtain⟨w,e1,h1,h2,h3,h4⟩:=Yg hn;rw[decide_eq_true hk,if_pos rfl];exact⟨_,rfl,[([],w)],[w],by rw[e1];simp[text],h4,h03 (.name h2),fun _=>.name h2,by simp[text];omega⟩
   | const hk hn =>
    obtain⟨w,d1,d2,d3⟩:=YZ hn;rw[hk];simp only[Int.reduceEq,decide_false,Bool.false_eq_true,if_false,decide_true,if_true,d1,Option.bind_some];exact⟨_,rfl,[([],w)],[w],by simp[text],d2.fg,h03 (.num d2.kd),fun _=>.num d2.kd,by simp[text];omega⟩
   | op hargs hx hy hk hn =>
    rename_i x y;have hs:qN e=1+(qN x+qN y):=by rw[hse,hargs];simp[zT]
    have hs2:B3*qN e=B3+(B3*qN x+B3*qN y):=by rw[hs,Nat.mul_add,Nat.mul_add];omega
    obtain⟨p1,g1,u1,f1,h1,l1⟩:=arg x (by rw[hargs];simp) hx (by omega);obtain⟨p2,g2,u2,f2,h2,l2⟩:=arg y (by rw[hargs];simp) hy (by omega);obtain⟨k,e1⟩:∃k,e.name=bs k:=⟨_,bs_of _⟩;rw[e1]at hn;obtain⟨hk1,hk2⟩:=op_sg hn;have a0:qS e.args 0=some x:=by rw[hargs];rfl
    have a1:qS e.args 1=some y:=by rw[hargs];rfl
    have a3:decide (((List.length e.args:Nat):Int)=(3:Int))=false:=decide_eq_false (by rw[hargs];simp);rw[hk];simp only[Int.reduceEq,decide_false,Bool.false_eq_true,if_false,a0,u1,Option.bind_some,a1,u2,a3,e1,show(⟨#[32]⟩:ByteArray)=bs [32] from rfl];rw[qt _ _ (by simp;omega)];simp only[Option.bind_some];rw[qt _ _ (by simp;omega)];simp only[Option.bind_some];rw[qt _ _ (by simp;omega)];simp only[Option.bind_some];rw[qt _ _ (by simp;omega)];simp only[Option.bind_some];have ht:text [] p1++[32]++k++[32]++text [] p2=text [] (p1++([32],k)::sp p2):=by
     rw[qv,qD (text [] _) p1];simp[text,zC f2]
    rw[ht];exact fin _ _ (fg_two f1 f2 hk1) (h_op h1 h2 hn) (by rw[←ht];simp;omega) hmax
   | ask hargs hx hy hz hk hn =>
    rename_i x y z;have hs:qN e=1+(qN x+(qN y+qN z)):=by rw[hse,hargs];simp[zT]
    have hs2:B3*qN e=B3+(B3*qN x+(B3*qN y+B3*qN z)):=by rw[hs,Nat.mul_add,Nat.mul_add,Nat.mul_add];omega
    obtain⟨p1,g1,u1,f1,h1,l1⟩:=arg x (by rw[hargs];simp) hx (by omega);obtain⟨p2,g2,u2,f2,h2,l2⟩:=arg y (by rw[hargs];simp) hy (by omega);obtain⟨p3,g3,u3,f3,h3,l3⟩:=arg z (by rw[hargs];simp) hz (by omega);have a0:qS e.args 0=some x:=by rw[hargs];rfl
    have a1:qS e.args 1=some y:=by rw[hargs];rfl
    have a2:qS e.args 2=some z:=by rw[hargs];rfl
    have a3:decide (((List.length e.args:Nat):Int)=(3:Int))=true:=decide_eq_true (by rw[hargs];simp);rw[hk];simp only[Int.reduceEq,decide_false,Bool.false_eq_true,if_false,a0,u1,Option.bind_some,a1,u2,a2,u3,a3,if_true,hn,show(⟨#[32]⟩:ByteArray)=bs [32] from rfl,show(⟨#[32,58,32]⟩:ByteArray)=bs [32,58,32] from rfl];rw[qt _ _ (by simp;omega)];simp only[Option.bind_some];rw[qt _ _ (by simp;omega)];simp only[Option.bind_some];rw[qt _ _ (by simp;omega)];simp only[Option.bind_some];rw[qt _ _ (by simp;omega)];simp only[Option.bind_some];rw[qt _ _ (by simp;omega)];simp only[Option.bind_some];rw[qt _ _ (by simp;omega)];simp only[Option.bind_some];have f23:=fg_two f2 f3 (k:=[58]) (by decide);have ht:text [] p1++[32]++[63]++[32]++text [] p2++([32,58,32]++text [] p3)=text [] (p1++([32],[63])::sp (p2++([32],[58])::sp p3)):=by
     rw[qv,qD (text [] _) p1];simp only[text,zC f23,qv];rw[qD ([32]++_) p2];simp[text,zC f3]
    rw[ht];exact fin _ _ (fg_two f1 f23 (by decide)) (h_ask h1 h2 h3) (by rw[←ht];simp;omega) hmax
  obtain⟨r,hr,ht⟩:=hB;exact⟨r,W_ref04_BodyText _ _ y_dig y_btext _ _ _ hr,fun _ _=>ht⟩
end Go.Proofs.Ytohmmfimedgccaa.E
end
section
namespace Go.Proofs.Ytohmmfimedgccaa.E
set_option maxRecDepth 100000
set_option maxHeartbeats 4000000
set_option linter.unusedVariables false
set_option linter.unusedSimpArgs false
noncomputable def QP (a0:Program)(f1:Int→Option ByteArray):(ByteArray×Int)→Option ((ByteArray×Int)⊕ByteArray)
 | (v122, v123) =>
  if(decide (v123<((List.length a0.outputs:Nat):Int)))then
   ((qS a0.outputs v123).bind fun y130=>
   (qw (⟨#[111,117,116,112,117,116,32]⟩:ByteArray) y130.name).bind fun y133=>
   (qw y133 (⟨#[32,61,32]⟩:ByteArray)).bind fun y135=>
   (qw y135 y130.flow).bind fun y137=>
   (qw y137 (⟨#[32,100,101,97,100,108,105,110,101,32]⟩:ByteArray)).bind fun y139=>
   (f1 y130.deadline).bind fun y141=>
   (qw y139 y141).bind fun y143=>
   (qw y143 (⟨#[59,10]⟩:ByteArray)).bind fun y145=>
   (qw v122 y145).bind fun y147=>
   some y147:Option ByteArray).bind fun v129=>
   some (.inl (v129,(IntKind.i64.wrap (v123+(1:Int)))))
  else
   some (.inr v122)
noncomputable def QQ (a0:Program)(f0:Expr→Option ByteArray):(ByteArray×Int)→Option ((ByteArray×Int)⊕ByteArray)
 | (v95, v96) =>
  if(decide (v96<((List.length a0.flows:Nat):Int)))then
   ((qS a0.flows v96).bind fun y103=>
   (qw (⟨#[102,108,111,119,32]⟩:ByteArray) y103.name).bind fun y105=>
   (qw y105 (⟨#[32,61,32]⟩:ByteArray)).bind fun y107=>
   (f0 y103.e).bind fun y109=>
   (qw y107 y109).bind fun y111=>
   (qw y111 (⟨#[59,10]⟩:ByteArray)).bind fun y113=>
   (qw v95 y113).bind fun y115=>
   some y115:Option ByteArray).bind fun v102=>
   some (.inl (v102,(IntKind.i64.wrap (v96+(1:Int)))))
  else
   some (.inr v95)
noncomputable def QR (a0:Program)(f1:Int→Option ByteArray):(ByteArray×Int)→Option ((ByteArray×Int)⊕ByteArray)
 | (v62, v63) =>
  if(decide (v63<((List.length a0.inputs:Nat):Int)))then
   ((qS a0.inputs v63).bind fun y70=>
   (qw (⟨#[105,110,112,117,116,32]⟩:ByteArray) y70.name).bind fun y73=>
   (qw y73 (⟨#[32,112,101,114,105,111,100,32]⟩:ByteArray)).bind fun y75=>
   (f1 y70.period).bind fun y77=>
   (qw y75 y77).bind fun y79=>
   (qw y79 (⟨#[32,112,104,97,115,101,32]⟩:ByteArray)).bind fun y81=>
   (f1 y70.phase).bind fun y83=>
   (qw y81 y83).bind fun y85=>
   (qw y85 (⟨#[59,10]⟩:ByteArray)).bind fun y87=>
   (qw v62 y87).bind fun y89=>
   some y89:Option ByteArray).bind fun v69=>
   some (.inl (v69,(IntKind.i64.wrap (v63+(1:Int)))))
  else
   some (.inr v62)
noncomputable def Qs (y12:Node):(ByteArray×Int)→Option ((ByteArray×Int)⊕ByteArray)
 | (v24, v25) =>
  if(decide (v25<((List.length y12.params:Nat):Int)))then
   ((if(decide ((0:Int)<v25))then
    (qw v24 (⟨#[44,32]⟩:ByteArray)).bind fun y36=>
    some y36
   else
    some v24:Option ByteArray).bind fun v34=>
   (qS y12.params v25).bind fun y38=>
   (qw v34 y38).bind fun y40=>
   some y40:Option ByteArray).bind fun v31=>
   some (.inl (v31,(IntKind.i64.wrap (v25+(1:Int)))))
  else
   some (.inr v24)
noncomputable def QS (a0:Program)(f2:Expr→Bool→Option ByteArray)(f1:Int→Option ByteArray):(ByteArray×Int)→Option ((ByteArray×Int)⊕ByteArray)
 | (v4, v5) =>
  if(decide (v5<((List.length a0.nodes:Nat):Int)))then
   ((qS a0.nodes v5).bind fun y12=>
   (qw (⟨#[110,111,100,101,32]⟩:ByteArray) y12.name).bind fun y15=>
   (qw y15 (⟨#[40]⟩:ByteArray)).bind fun y17=>
   (qw v4 y17).bind fun y19=>
   (qA (Qs y12) (y19,(0:Int)):Option ByteArray).bind fun v23=>
   (f1 y12.budget).bind fun y44=>
   (qw (⟨#[41,32,98,117,100,103,101,116,32]⟩:ByteArray) y44).bind fun y46=>
   (qw y46 (⟨#[32,123,32]⟩:ByteArray)).bind fun y48=>
   (f2 y12.body false).bind fun y50=>
   (qw y48 y50).bind fun y52=>
   (qw y52 (⟨#[32,125,10]⟩:ByteArray)).bind fun y54=>
   (qw v23 y54).bind fun y56=>
   some y56:Option ByteArray).bind fun v11=>
   some (.inl (v11,(IntKind.i64.wrap (v5+(1:Int)))))
  else
   some (.inr v4)
noncomputable def B_ref04_Print (f0:Expr→Option ByteArray)(f1:Int→Option ByteArray)(f2:Expr→Bool→Option ByteArray)(a0:Program):Option ByteArray:=
 (qA (QS a0 f2 f1) ((⟨#[]⟩:ByteArray),(0:Int)):Option ByteArray).bind fun v3=>
 (qA (QR a0 f1) (v3,(0:Int)):Option ByteArray).bind fun v61=>
 (qA (QQ a0 f0) (v61,(0:Int)):Option ByteArray).bind fun v94=>
 (qA (QP a0 f1) (v94,(0:Int)):Option ByteArray).bind fun v121=>
 some v121
theorem W_ref04_Print (f0 f1 f2)(S0:Sat_ref04_Text f0)(S1:Sat_ref04_Digits f1)(S2:Sat_ref04_BodyText f2):Sat_ref04_Print (B_ref04_Print f0 f1 f2):=by
 intro a0 r h σ K hK;refine zB Try.func33 rfl rfl (by kernel_rfl) ?_;unfold B_ref04_Print at h;have hP:=Pre.refl σ;have E0:qu [(.ag (Program.cl a0))] 0=(.ag (Program.cl a0)):=rfl;have TT:=cj3 Expr.rlen Flow.cle (Ya Input.cle Node.cle Output.cle Program.cle T_2 T_22 T_23 T_24 T_25 T_27 T_3 T_37 T_39 T_4 T_41 T_65 T_9 T_96 T_97 T_99);refine qh (fun e s=>∃i1:Nat,Bx σ s i1 27 (Program.cl a0)∧eP e 1 i1∧Pre σ s) ?_ ?_
 ·refine w_x (cj2 E0 TT) ?_;exact qf ⟨σ.length,(Bx.new hP _ _),(xv (cj2 E0 TT)),(hP.app _)⟩
 rintro e s ⟨i1,X1,E1,hP⟩
 refine qe (w_x Expr.rlen ?_);refine qg (qk (qe (w_x Expr.rlen ?_)));refine qg ?_;obtain⟨x1,h2,h⟩:=qb h;refine qh (fun e s=>∃v3,v3=x1∧Bx σ s i1 27 (Program.cl a0)∧eP e 1 i1∧eT e 3 v3∧Pre σ s) ?_ ?_
 ·refine qn (qX h2 (fun v e s=>∃v4 v5,(v4,v5)=v∧Bx σ s i1 27 (Program.cl a0)∧eP e 1 i1∧eT e 3 v4∧eI e 4 v5∧Pre σ s) ⟨_,WkE.refl _,_,_,rfl,X1,E1,(xv TT),(xv TT),hP⟩ ?_)
  rintro v x6 e s hf7 ⟨v4,v5,rfl,X1,E1,E3,E4,hP⟩
  unfold QS at hf7;(try dsimp only at hf7);refine qk (qe (w_x (cj4 E1 E4 X1.get TT) ?_));refine qg (qe ?_);rcases qj hf7 with⟨hb8,hf7⟩|⟨hb8,hf7⟩
  ·refine xt hb8 (qm (qg ?_));obtain⟨x9,h10,hf7⟩:=qb hf7;refine qh (fun e s=>∃v11,v11=x9∧Bx σ s i1 27 (Program.cl a0)∧eP e 1 i1∧eT e 3 v11∧eI e 4 v5∧Pre σ s) ?_ ?_
   ·refine qn ?_;obtain⟨y12,h13,h10⟩:=qb h10;refine qh (fun e s=>∃i5:Nat,Bx σ s i1 27 (Program.cl a0)∧Bx σ s i5 99 (Node.cl y12)∧eP e 1 i1∧eT e 3 v4∧eI e 4 v5∧eP e 5 i5∧Pre σ s) ?_ ?_
    ·have R14:=zw (f:=Node.cl) (qp h13).2;have q1:=cj6 E1 E4 X1.g3 R14 (qp h13).1 TT;refine w_x q1 ?_;exact qf ⟨s.length,(X1.app _),(Bx.new hP _ _),E1,E3,E4,(xv q1),(hP.app _)⟩
    rintro e s ⟨i5,X1,X5,E1,E3,E4,E5,hP⟩
    refine qe ?_;obtain⟨y15,h16,h10⟩:=qb h10;obtain⟨y17,h18,h10⟩:=qb h10;obtain⟨y19,h20,h10⟩:=qb h10;refine w_x (cj10 E3 E5 X5.get (qi h16).1 (qi h16).2 (qi h18).1 (qi h18).2 (qi h20).1 (qi h20).2 TT) ?_;refine qg (qk (qe (w_x Expr.rlen ?_)));refine qg ?_;obtain⟨x21,h22,h10⟩:=qb h10;refine qh (fun e s=>∃v23,v23=x21∧Bx σ s i1 27 (Program.cl a0)∧Bx σ s i5 99 (Node.cl y12)∧eP e 1 i1∧eT e 3 v23∧eI e 4 v5∧eP e 5 i5∧Pre σ s) ?_ ?_
    ·refine qn (qX h22 (fun v e s=>∃v24 v25,(v24,v25)=v∧Bx σ s i1 27 (Program.cl a0)∧Bx σ s i5 99 (Node.cl y12)∧eP e 1 i1∧eT e 3 v24∧eI e 4 v5∧eP e 5 i5∧eI e 6 v25∧Pre σ s) ⟨_,WkE.refl _,_,_,rfl,X1,X5,E1,(xv TT),E4,E5,(xv TT),hP⟩ ?_)
     rintro v x26 e s hf27 ⟨v24,v25,rfl,X1,X5,E1,E3,E4,E5,E6,hP⟩
     unfold Qs at hf27;(try dsimp only at hf27);refine qk (qe (w_x (cj4 E5 E6 X5.get TT) ?_));refine qg (qe ?_);rcases qj hf27 with⟨hb28,hf27⟩|⟨hb28,hf27⟩
     ·refine xt hb28 (qm (qg ?_));obtain⟨x29,h30,hf27⟩:=qb hf27;refine qh (fun e s=>∃v31,v31=x29∧Bx σ s i1 27 (Program.cl a0)∧Bx σ s i5 99 (Node.cl y12)∧eP e 1 i1∧eT e 3 v31∧eI e 4 v5∧eP e 5 i5∧eI e 6 v25∧Pre σ s) ?_ ?_
      ·refine qn (qk (qe (w_x (cj2 E6 TT) ?_)));refine qg ?_;obtain⟨x32,h33,h30⟩:=qb h30;refine qh (fun e s=>∃v34,v34=x32∧Bx σ s i1 27 (Program.cl a0)∧Bx σ s i5 99 (Node.cl y12)∧eP e 1 i1∧eT e 3 v34∧eI e 4 v5∧eP e 5 i5∧eI e 6 v25∧Pre σ s) ?_ ?_
       ·rcases qj h33 with⟨hb35,h33⟩|⟨hb35,h33⟩
        ·refine xt hb35 ?_;obtain⟨y36,h37,h33⟩:=qb h33;have q2:=cj4 E3 (qi h37).1 (qi h37).2 TT;refine w_x q2 ?_;obtain rfl:=qc h33;exact qf ⟨_,rfl,X1,X5,E1,(xv q2),E4,E5,E6,hP⟩
        ·refine xf hb35 (qm ?_);obtain rfl:=qc h33;exact qf ⟨_,rfl,X1,X5,E1,E3,E4,E5,E6,hP⟩
       rintro e s ⟨v34,rfl,X1,X5,E1,E3,E4,E5,E6,hP⟩
       (try dsimp only at h30);obtain⟨y38,h39,h30⟩:=qb h30;obtain⟨y40,h41,h30⟩:=qb h30;have R42:(List.map C_s y12.params)[(v25).toNat]? =some [(.v (.string y38))]:=zw (qp h39).2;have q3:=cj9 E3 E5 E6 X5.get R42 (qp h39).1 (qi h41).1 (qi h41).2 TT;refine w_x q3 ?_;refine zc ?_;obtain rfl:=qc h30;exact qf ⟨_,rfl,X1,X5,E1,(xv q3),E4,E5,E6,hP⟩
      rintro e s ⟨v31,rfl,X1,X5,E1,E3,E4,E5,E6,hP⟩
      (try dsimp only at hf27);refine w_x (cj2 E6 TT) ?_;obtain rfl:=qc hf27;exact zK rfl ⟨_,_,rfl,X1,X5,E1,E3,E4,E5,(xv (cj2 E6 TT)),hP⟩
     ·refine xf hb28 (qz (qT ?_));obtain rfl:=qc hf27;refine zo rfl fun hr43=> ?_;obtain rfl:=hr43;exact qG (qf ⟨_,rfl,X1,X5,E1,E3,E4,E5,hP⟩)
    rintro e s ⟨v23,rfl,X1,X5,E1,E3,E4,E5,hP⟩
    (try dsimp only at h10);obtain⟨y44,h45,h10⟩:=qb h10;obtain⟨y46,h47,h10⟩:=qb h10;obtain⟨y48,h49,h10⟩:=qb h10;obtain⟨y50,h51,h10⟩:=qb h10;obtain⟨y52,h53,h10⟩:=qb h10;obtain⟨y54,h55,h10⟩:=qb h10;obtain⟨y56,h57,h10⟩:=qb h10;have q4:=cj14 E3 E5 X5.get (qi h47).1 (qi h47).2 (qi h49).1 (qi h49).2 (qi h53).1 (qi h53).2 (qi h55).1 (qi h55).2 (qi h57).1 (qi h57).2 TT;refine w_xd 11 0 q4 ?_;refine S1 _ _ h45 _ _ ?_;refine QD q4 ?_;refine S2 _ _ _ h51 _ _ ?_;refine QD q4 ?_;refine Qn q4 ?_;refine zc ?_;obtain rfl:=qc h10;exact qf ⟨_,rfl,X1,E1,(xv q4),E4,hP⟩
   rintro e s ⟨v11,rfl,X1,E1,E3,E4,hP⟩
   (try dsimp only at hf7);refine w_x (cj2 E4 TT) ?_;obtain rfl:=qc hf7;exact zK rfl ⟨_,_,rfl,X1,E1,E3,(xv (cj2 E4 TT)),hP⟩
  ·refine xf hb8 (qz (qT ?_));obtain rfl:=qc hf7;refine zo rfl fun hr58=> ?_;obtain rfl:=hr58;exact qG (qf ⟨_,rfl,X1,E1,E3,hP⟩)
 rintro e s ⟨v3,rfl,X1,E1,E3,hP⟩
 (try dsimp only at h);refine qk (qe (w_x Expr.rlen ?_));refine qg ?_;obtain⟨x59,h60,h⟩:=qb h;refine qh (fun e s=>∃v61,v61=x59∧Bx σ s i1 27 (Program.cl a0)∧eP e 1 i1∧eT e 3 v61∧Pre σ s) ?_ ?_
 ·refine qn (qX h60 (fun v e s=>∃v62 v63,(v62,v63)=v∧Bx σ s i1 27 (Program.cl a0)∧eP e 1 i1∧eT e 3 v62∧eI e 7 v63∧Pre σ s) ⟨_,WkE.refl _,_,_,rfl,X1,E1,E3,(xv TT),hP⟩ ?_)
  rintro v x64 e s hf65 ⟨v62,v63,rfl,X1,E1,E3,E7,hP⟩
  unfold QR at hf65;(try dsimp only at hf65);refine qk (qe (w_x (cj4 E1 E7 X1.get TT) ?_));refine qg (qe ?_);rcases qj hf65 with⟨hb66,hf65⟩|⟨hb66,hf65⟩
  ·refine xt hb66 (qm (qg ?_));obtain⟨x67,h68,hf65⟩:=qb hf65;refine qh (fun e s=>∃v69,v69=x67∧Bx σ s i1 27 (Program.cl a0)∧eP e 1 i1∧eT e 3 v69∧eI e 7 v63∧Pre σ s) ?_ ?_
   ·refine qn ?_;obtain⟨y70,h71,h68⟩:=qb h68;refine qh (fun e s=>∃i8:Nat,Bx σ s i1 27 (Program.cl a0)∧Bx σ s i8 96 (Input.cl y70)∧eP e 1 i1∧eT e 3 v62∧eI e 7 v63∧eP e 8 i8∧Pre σ s) ?_ ?_
    ·have R72:=zw (f:=Input.cl) (qp h71).2;have q5:=cj6 E1 E7 X1.g3 R72 (qp h71).1 TT;refine w_x q5 ?_;exact qf ⟨s.length,(X1.app _),(Bx.new hP _ _),E1,E3,E7,(xv q5),(hP.app _)⟩
    rintro e s ⟨i8,X1,X8,E1,E3,E7,E8,hP⟩
    obtain⟨y73,h74,h68⟩:=qb h68;obtain⟨y75,h76,h68⟩:=qb h68;obtain⟨y77,h78,h68⟩:=qb h68;obtain⟨y79,h80,h68⟩:=qb h68;obtain⟨y81,h82,h68⟩:=qb h68;obtain⟨y83,h84,h68⟩:=qb h68;obtain⟨y85,h86,h68⟩:=qb h68;obtain⟨y87,h88,h68⟩:=qb h68;obtain⟨y89,h90,h68⟩:=qb h68;have q6:=cj18 E3 E8 X8.get (qi h74).1 (qi h74).2 (qi h76).1 (qi h76).2 (qi h80).1 (qi h80).2 (qi h82).1 (qi h82).2 (qi h86).1 (qi h86).2 (qi h88).1 (qi h88).2 (qi h90).1 (qi h90).2 TT;refine w_xd 15 0 q6 ?_;refine S1 _ _ h78 _ _ ?_;refine QD q6 ?_;refine S1 _ _ h84 _ _ ?_;refine QD q6 ?_;refine Qn q6 ?_;refine zc ?_;obtain rfl:=qc h68;exact qf ⟨_,rfl,X1,E1,(xv q6),E7,hP⟩
   rintro e s ⟨v69,rfl,X1,E1,E3,E7,hP⟩
   (try dsimp only at hf65);refine w_x (cj2 E7 TT) ?_;obtain rfl:=qc hf65;exact zK rfl ⟨_,_,rfl,X1,E1,E3,(xv (cj2 E7 TT)),hP⟩
  ·refine xf hb66 (qz (qT ?_));obtain rfl:=qc hf65;refine zo rfl fun hr91=> ?_;obtain rfl:=hr91;exact qG (qf ⟨_,rfl,X1,E1,E3,hP⟩)
 rintro e s ⟨v61,rfl,X1,E1,E3,hP⟩
 (try dsimp only at h);refine qk (qe (w_x Expr.rlen ?_));refine qg ?_;obtain⟨x92,h93,h⟩:=qb h;refine qh (fun e s=>∃v94,v94=x92∧Bx σ s i1 27 (Program.cl a0)∧eP e 1 i1∧eT e 3 v94∧Pre σ s) ?_ ?_
 ·refine qn (qX h93 (fun v e s=>∃v95 v96,(v95,v96)=v∧Bx σ s i1 27 (Program.cl a0)∧eP e 1 i1∧eT e 3 v95∧eI e 9 v96∧Pre σ s) ⟨_,WkE.refl _,_,_,rfl,X1,E1,E3,(xv TT),hP⟩ ?_)
  rintro v x97 e s hf98 ⟨v95,v96,rfl,X1,E1,E3,E9,hP⟩
  unfold QQ at hf98;(try dsimp only at hf98);refine qk (qe (w_x (cj4 E1 E9 X1.get TT) ?_));refine qg (qe ?_);rcases qj hf98 with⟨hb99,hf98⟩|⟨hb99,hf98⟩
  ·refine xt hb99 (qm (qg ?_));obtain⟨x100,h101,hf98⟩:=qb hf98;refine qh (fun e s=>∃v102,v102=x100∧Bx σ s i1 27 (Program.cl a0)∧eP e 1 i1∧eT e 3 v102∧eI e 9 v96∧Pre σ s) ?_ ?_
   ·refine qn ?_;obtain⟨y103,h104,h101⟩:=qb h101;obtain⟨y105,h106,h101⟩:=qb h101;obtain⟨y107,h108,h101⟩:=qb h101;obtain⟨y109,h110,h101⟩:=qb h101;obtain⟨y111,h112,h101⟩:=qb h101;obtain⟨y113,h114,h101⟩:=qb h101;obtain⟨y115,h116,h101⟩:=qb h101;have R117:=zw (f:=Flow.cl) (qp h104).2;have q7:=cj17 E1 E3 E9 X1.get R117 (qp h104).1 (qi h106).1 (qi h106).2 (qi h108).1 (qi h108).2 (qi h112).1 (qi h112).2 (qi h114).1 (qi h114).2 (qi h116).1 (qi h116).2 TT;refine w_xd 18 0 q7 ?_;refine S0 _ _ h110 _ _ ?_;refine QD q7 ?_;refine Qn q7 ?_;refine zc ?_;obtain rfl:=qc h101;exact qf ⟨_,rfl,X1,E1,(xv q7),E9,hP⟩
   rintro e s ⟨v102,rfl,X1,E1,E3,E9,hP⟩
   (try dsimp only at hf98);refine w_x (cj2 E9 TT) ?_;obtain rfl:=qc hf98;exact zK rfl ⟨_,_,rfl,X1,E1,E3,(xv (cj2 E9 TT)),hP⟩
  ·refine xf hb99 (qz (qT ?_));obtain rfl:=qc hf98;refine zo rfl fun hr118=> ?_;obtain rfl:=hr118;exact qG (qf ⟨_,rfl,X1,E1,E3,hP⟩)
 rintro e s ⟨v94,rfl,X1,E1,E3,hP⟩
 (try dsimp only at h);refine qk (qe (w_x Expr.rlen ?_));refine qg ?_;obtain⟨x119,h120,h⟩:=qb h;refine qh (fun e s=>∃v121,v121=x119∧eT e 3 v121∧Pre σ s) ?_ ?_
 ·refine qn (qX h120 (fun v e s=>∃v122 v123,(v122,v123)=v∧Bx σ s i1 27 (Program.cl a0)∧eP e 1 i1∧eT e 3 v122∧eI e 10 v123∧Pre σ s) ⟨_,WkE.refl _,_,_,rfl,X1,E1,E3,(xv TT),hP⟩ ?_)
  rintro v x124 e s hf125 ⟨v122,v123,rfl,X1,E1,E3,E10,hP⟩
  unfold QP at hf125;(try dsimp only at hf125);refine qk (qe (w_x (cj4 E1 E10 X1.get TT) ?_));refine qg (qe ?_);rcases qj hf125 with⟨hb126,hf125⟩|⟨hb126,hf125⟩
  ·refine xt hb126 (qm (qg ?_));obtain⟨x127,h128,hf125⟩:=qb hf125;refine qh (fun e s=>∃v129,v129=x127∧Bx σ s i1 27 (Program.cl a0)∧eP e 1 i1∧eT e 3 v129∧eI e 10 v123∧Pre σ s) ?_ ?_
   ·refine qn ?_;obtain⟨y130,h131,h128⟩:=qb h128;refine qh (fun e s=>∃i11:Nat,Bx σ s i1 27 (Program.cl a0)∧Bx σ s i11 65 (Output.cl y130)∧eP e 1 i1∧eT e 3 v122∧eI e 10 v123∧eP e 11 i11∧Pre σ s) ?_ ?_
    ·have R132:=zw (f:=Output.cl) (qp h131).2;have q8:=cj6 E1 E10 X1.g3 R132 (qp h131).1 TT;refine w_x q8 ?_;exact qf ⟨s.length,(X1.app _),(Bx.new hP _ _),E1,E3,E10,(xv q8),(hP.app _)⟩
    rintro e s ⟨i11,X1,X11,E1,E3,E10,E11,hP⟩
    obtain⟨y133,h134,h128⟩:=qb h128;obtain⟨y135,h136,h128⟩:=qb h128;obtain⟨y137,h138,h128⟩:=qb h128;obtain⟨y139,h140,h128⟩:=qb h128;obtain⟨y141,h142,h128⟩:=qb h128;obtain⟨y143,h144,h128⟩:=qb h128;obtain⟨y145,h146,h128⟩:=qb h128;obtain⟨y147,h148,h128⟩:=qb h128;have q9:=cj18 E3 E11 X11.get (qi h134).1 (qi h134).2 (qi h136).1 (qi h136).2 (qi h138).1 (qi h138).2 (qi h140).1 (qi h140).2 (qi h144).1 (qi h144).2 (qi h146).1 (qi h146).2 (qi h148).1 (qi h148).2 TT;refine w_xd 14 0 q9 ?_;refine S1 _ _ h142 _ _ ?_;refine QD q9 ?_;refine Qn q9 ?_;refine zc ?_;obtain rfl:=qc h128;exact qf ⟨_,rfl,X1,E1,(xv q9),E10,hP⟩
   rintro e s ⟨v129,rfl,X1,E1,E3,E10,hP⟩
   (try dsimp only at hf125);refine w_x (cj2 E10 TT) ?_;obtain rfl:=qc hf125;exact zK rfl ⟨_,_,rfl,X1,E1,E3,(xv (cj2 E10 TT)),hP⟩
  ·refine xf hb126 (qz (qT ?_));obtain rfl:=qc hf125;refine zo rfl fun hr149=> ?_;obtain rfl:=hr149;exact qG (qf ⟨_,rfl,E3,hP⟩)
 rintro e s ⟨v121,rfl,E3,hP⟩
 (try dsimp only at h);refine qe (w_x (cj2 E3 TT) ?_);refine qg (qo ?_);obtain rfl:=qc h;exact qq (fun _=>rfl) (xr (rs:= #[.tmp 2]) TT) hP (.refl _) (.v _) hK
end Go.Proofs.Ytohmmfimedgccaa.E
end
section
namespace Go.Proofs.Ytohmmfimedgccaa.E
set_option linter.unusedVariables false
set_option linter.unusedSimpArgs false
theorem text_head {t t':List UInt8}(h:t.head? =t'.head?):∀ps:List Pc,(text t ps).head? =(text t' ps).head?
 |[]=>h
 |([],[])::ps=>by simpa [text] using text_head h ps
 |([],c::u)::ps=>rfl
 |(c::u,w)::ps=>rfl
theorem qqk {w t t':List UInt8}(h:t.head? =t'.head?)(hf:fol w t):fol w t':=fun c hc=>hf c (h.trans hc)
theorem okA_head {t t':List UInt8}(h:t.head? =t'.head?):∀{ps:List Pc},okA t ps→okA t' ps
 |[],_=>trivial
 |(b,w)::ps,⟨h1,h2,h3,h4⟩=>⟨h1,h2,qqk (text_head h ps) h3,okA_head h h4⟩
theorem Ds_app {k:List UInt8}{d:W}(h:Dc k d):∀{a:W},Ds a→Ds (a++k::d)
 |_,.nil=>by have:=Ds.cons h .nil;simpa using this
 |_,.cons h1 h2=>by have:=Ds.cons h1 (Ds_app h h2);simpa using this
def LD:Nat:=1000000000000
def PT (n:Nat)(v:ByteArray):Prop:=∃tl ps,v=bs (text tl ps)∧okp tl ps∧Ds (ps.map (·.2))∧((tl=[]∧ps=[])∨tl=[10])∧(text tl ps).length≤n*LD
def PD (f:List UInt8):Prop:=∃d k dd,f=text [10] d∧okA [10] d∧d.map (·.2)=k::dd∧Dc k dd∧f.length≤LD
theorem b10:∀c∈([10]:List UInt8),blk c=true:=fun c hc=>by rw[List.mem_singleton.1 hc];rfl
theorem PT.add {n:Nat}{v:ByteArray}{f:List UInt8}(h:PT n v)(hn:n<40)(hf:PD f):∃r,qw v (bs f)=some r∧PT (n+1) r:=by
 obtain⟨tl,ps,rfl,hok,hD,ht,hl⟩:=h;obtain⟨d,k,dd,rfl,hd,htk,hdc,hlen⟩:=hf;have hLD:LD=1000000000000:=rfl;rw[hLD]at hl hlen;rw[qt _ _ (by omega)];obtain⟨hA,hb⟩:=Yf.1 hok;cases d with
 |nil=>cases htk
 | cons p r =>
  obtain⟨b,w⟩:=p;obtain⟨h1,h2,h3,h4⟩:=hd;have e:text tl ps++text [10] ((b,w)::r)=text [10] (ps++(tl++b,w)::r):=by
   rw[qv,qD tl,qD (text [10] ((tl++b,w)::r))];simp[text]
  refine⟨_,rfl,[10],ps++(tl++b,w)::r,by rw[e],Yf.2 ⟨zD.2 ⟨?_,fun c hc=> ?_,h2,h3,h4⟩,b10⟩,?_,.inr rfl,?_⟩
  ·rcases ht with⟨_,rfl⟩|rfl
   ·trivial
   ·refine okA_head (t:=[10]) ?_ hA;rfl
  ·rcases List.mem_append.1 hc with h|h
   ·exact hb c h
   ·exact h1 c h
  ·rw[List.map_append];simp only[List.map_cons]at htk ⊢;rw[htk];exact Ds_app hdc hD
  ·rw[←e,List.length_append,hLD];omega
theorem R100.dg {n:Int}(h:R100 n):∃w,QZ n=some (bs w)∧Dg w∧w.length≤1000000001:=YZ h
theorem dg_fol {w t:List UInt8}(h:Dg w)(ht:Sf t):fol w t:=ZT (by rw[h.kd];decide) ht
theorem nw_fol {w t:List UInt8}(h:NmW w)(ht:Sf t):fol w t:=ZT (by rw[h.1];decide) ht
theorem d_input {w n k:List UInt8}(t1:Tk w)(h1:NmW w)(l1:w.length≤100)(h2:Dg n)(l2:n.length≤1000000001)(h3:Dg k)(l3:k.length≤1000000001):
  PD (Zx++[32]++w++([32]++JB++[32])++n++([32]++ZS++[32])++k++[59,10]):=by
 refine⟨[([],Zx),([32],w),([32],JB),([32],n),([32],ZS),([32],k),([],[59])],Zx,_,by simp[text],?_,rfl,.input h1 h2.kd h3.kd,by simp[LD];omega⟩;exact ok1 b0 (.nm 105 _ (by decide) (by decide)) (qL rfl) (ok1 b32 t1 (qL rfl) (ok1 b32 (.nm 112 _ (by decide) (by decide)) (qL rfl) (ok1 b32 h2.tk (qL rfl) (ok1 b32 (.nm 112 _ (by decide) (by decide)) (qL rfl) (ok1 b32 h3.tk (dg_fol h3 (zW (by decide))) (ok1 b0 (Qh (by decide)) (qL rfl) trivial))))))
theorem d_output {w v n:List UInt8}(t1:Tk w)(h1:NmW w)(l1:w.length≤100)(t2:Tk v)(h2:NmW v)(l2:v.length≤100)(h3:Dg n)(l3:n.length≤1000000001):
  PD (ZJ++[32]++w++[32,61,32]++v++([32]++zQ++[32])++n++[59,10]):=by
 refine⟨[([],ZJ),([32],w),([32],[61]),([32],v),([32],zQ),([32],n),([],[59])],ZJ,_,by simp[text],?_,rfl,.output h1 h2 h3.kd,by simp[LD];omega⟩;exact ok1 b0 (.nm 111 _ (by decide) (by decide)) (qL rfl) (ok1 b32 t1 (qL rfl) (ok1 b32 (Qh (by decide)) (qL rfl) (ok1 b32 t2 (qL rfl) (ok1 b32 (.nm 100 _ (by decide) (by decide)) (qL rfl) (ok1 b32 h3.tk (dg_fol h3 (zW (by decide))) (ok1 b0 (Qh (by decide)) (qL rfl) trivial))))))
theorem d_flow {w:List UInt8}{ps:List Pc}{g:W}(t1:Tk w)(h1:NmW w)(l1:w.length≤100)(h2:Fg ps g)(h3:G 0 g)(l2:(text [] ps).length≤B3*100):
  PD (QI++[32]++w++[32,61,32]++text [] ps++[59,10]):=by
 refine⟨([],QI)::([32],w)::([32],[61])::(sp ps++[([],[59])]),QI,_,?_,?_,?_,.flow h1 h3,by simp[LD,B3]at l2 ⊢;omega⟩
 ·simp only[text,qv,zC h2];rw[qD (([]:List UInt8)++_) ps];simp
 ·refine ok1 b0 (.nm 102 _ (by decide) (by decide)) (qL rfl) (ok1 b32 t1 (qL rfl) (ok1 b32 (Qh (by decide)) (by rw[qv,zC h2];exact qL rfl) (zD.2 ⟨sp_ok (h2.ok _ (zW (by decide))),ok1 b0 (Qh (by decide)) (qL rfl) trivial⟩)))
 ·simp[qqc,h2.tk]
theorem d_node {w n:List UInt8}{L ps:List Pc}{gl g:W}(t1:Tk w)(h1:NmW w)(l1:w.length≤100)(hL:Fg L gl)(hgl:PLs gl)(lL:(text [] L).length≤1000)(h2:Dg n)(l2:n.length≤1000000001)(hp:Fg ps g)(hg:H 0 g)(l3:(text [] ps).length≤B3*100):
  PD (Zq++[32]++w++[40]++text [] L++([41,32]++ZK++[32]++n++[32,123,32]++text [] ps++[32,125,10])):=by
 refine⟨([],Zq)::([32],w)::([],[40])::(L++([],[41])::([32],ZK)::([32],n)::([32],[123])::(sp ps++[([32],[125])])),Zq,_,?_,?_,?_,.node h1 hgl h2.kd hg,by simp[LD,B3]at l3 ⊢;omega⟩
 ·simp only[text,qv,zC hp];rw[qD (([32]:List UInt8)++_) ps,qD (([]:List UInt8)++_) L];simp
 ·refine ok1 b0 (.nm 110 _ (by decide) (by decide)) (qL rfl) (ok1 b32 t1 (nw_fol h1 (zW (by decide))) (ok1 b0 (Qh (by decide)) (fol_sg (by decide) (by decide)) (zD.2 ⟨hL.ok _ (zW (by decide)),ok1 b0 (Qh (by decide)) (qL rfl) (ok1 b32 (.nm 98 _ (by decide) (by decide)) (qL rfl) (ok1 b32 h2.tk (qL rfl) (ok1 b32 (Qh (by decide)) (by rw[qv,zC hp];exact qL rfl) (zD.2 ⟨sp_ok (hp.ok _ (zW (by decide))),ok1 b32 (Qh (by decide)) (qL rfl) trivial⟩))))⟩)))
 ·simp[qqc,hp.tk,hL.tk]
theorem qqQ {α:Type}{xs:List α}{f:ByteArray×Int→Option ((ByteArray×Int)⊕ByteArray)}{n0:Nat}{v0:ByteArray}(h0:PT n0 v0)(hn:n0+xs.length≤40)
  (step:∀i (hi:i<xs.length) v,PT (n0+i) v→∃r,f (v,(i:Int))=some (.inl (r,IntKind.i64.wrap ((i:Int)+1)))∧PT (n0+i+1) r) (fin:∀v,f (v,(xs.length:Int))=some (.inr v)):∃r,qA f (v0,(0:Int))=some r∧PT (n0+xs.length) r:=by
 refine zn (fun i v=>v.2=(i:Int)∧PT (n0+i) v.1) xs.length (fun r=>PT (n0+xs.length) r) (fun i v hi hv=> ?_) (fun v hv=> ?_) ⟨rfl,h0⟩
 ·obtain⟨v,j⟩:=v;obtain⟨rfl,hv⟩:=hv;obtain⟨r,h1,h2⟩:=step i hi v hv;exact .inl ⟨_,h1,Zm hi (ml (by omega)),h2⟩
 ·obtain⟨v,j⟩:=v;obtain⟨rfl,hv⟩:=hv;exact⟨_,fin v,hv⟩
theorem PLs_app {l:W}{w:List UInt8}(h:PLs l)(hw:NmW w):PLs (l++[44]::[w]):=by
 induction h with
 |one h=>exact .more h (.one hw)
 |more h _ ih=>exact .more h ih
theorem t_pars (x:Node)(hx:XN x)(u:List UInt8)(hu:u.length≤50000000000000):∃L g,qA (Qs x) (bs u,(0:Int))=some (bs (u++text [] L))∧Fg L g∧PLs g∧(text [] L).length≤1000:=by
 obtain⟨hp1,hp6,hall⟩:=hx.params;obtain⟨v,hv,L,g,rfl,hL,hg,hlen⟩:=zn (f:=Qs x) (fun i v=>v.2=(i:Int)∧(i=0→v.1=bs u)∧(0<i→∃L g,v.1=bs (u++text [] L)∧Fg L g∧PLs g∧(text [] L).length≤102*i)) x.params.length
  (fun v=>∃L g,v=bs (u++text [] L)∧Fg L g∧PLs g∧(text [] L).length≤1000) (fun i v hi hv=>by
   obtain⟨v,j⟩:=v;obtain⟨rfl,hv0,hv1⟩:=hv;simp only at hv0 hv1;obtain⟨w,e1,h1,h2,h3,h4⟩:=Yg (hall _ (List.getElem_mem hi));left;unfold Qs;dsimp only;simp only[dlt hi,if_true,zg hi,Option.bind_some,show(⟨#[44,32]⟩:ByteArray)=bs [44,32] from rfl,e1];have hwi:=Zm hi (ml (by omega));by_cases i0:i=0
   ·subst i0;rw[hv0 rfl,decide_eq_false (by decide)];simp only[Bool.false_eq_true,if_false,Option.bind_some];rw[qt _ _ (by omega)];exact⟨_,rfl,hwi,fun h=>absurd h (by omega),fun _=>⟨[([],w)],[w],by simp[text],h4,.one h2,by simp[text];omega⟩⟩
   ·obtain⟨L,gl,rfl,m1,m2,m3⟩:=hv1 (by omega);rw[decide_eq_true (by omega)];simp only[if_true];rw[qt _ _ (by simp;omega)];simp only[Option.bind_some];rw[qt _ _ (by simp;omega)];refine⟨_,rfl,hwi,fun h=>absurd h (by omega),fun _=>⟨L++([],[44])::sp [([],w)],gl++[44]::[w],?_,fg_cm m1 h4,PLs_app m2 h2,?_⟩⟩
    ·rw[qv,qD (text [] _) L];simp[text,sp]
    ·rw[qv,qD (text [] _) L];simp[text,sp];omega) (fun v hv=>by
   obtain⟨v,j⟩:=v;obtain⟨rfl,_,hv1⟩:=hv;simp only at hv1;obtain⟨L,g,rfl,m1,m2,m3⟩:=hv1 (by omega);refine⟨_,?_,L,g,rfl,m1,m2,by omega⟩;unfold Qs;dsimp only;rw[dge];rfl) (v0:=(bs u,(0:Int))) ⟨rfl,fun _=>rfl,fun h=>absurd h (by omega)⟩
 exact⟨L,g,hv,hL,hg,hlen⟩
noncomputable def qqO:=B_ref04_Print JN QZ Yk
theorem y_print:Sat_ref04_Print qqO:=W_ref04_Print _ _ _ y_text y_dig y_btext
theorem t_print (p:Program)(hp:XP p):∃tl ps,qqO p=some (bs (text tl ps))∧okp tl ps∧Ds (ps.map (·.2)):=by
 have hall:=hp.all;have hLD:LD=1000000000000:=rfl;have hB3:B3=3000000000:=rfl;have h0:PT 0 (bs []):=⟨[],[],rfl,(fun c hc=>by cases hc),.nil,.inl ⟨rfl,rfl⟩,by simp[text]⟩;obtain⟨r0,i0,t0⟩:=qqQ (f:=QS p Yk QZ) (xs:=p.nodes) h0 (by omega) (fun i hi v hv=>by
  have hx:=hp.node _ (List.getElem_mem hi);obtain⟨w,e1,h1,h2,h3,h4⟩:=Yg hx.name;obtain⟨n,d1,d2,d3⟩:=hx.budget.dg;obtain⟨r,b1,_,b2⟩:=x_btext _ false hx.body hx.size;obtain⟨ps,g,rfl,f1,f2,_,f3⟩:=(b2 hx.body hx.size).ex;simp only at f3;have hm:B3*qN p.nodes[i].body≤B3*100:=Nat.mul_le_mul_left _ hx.size;obtain⟨tl,qs,rfl,_,_,_,hl⟩:=id hv;rw[hLD]at hl;obtain⟨L,gl,p1,p2,p3,p4⟩:=t_pars _ hx (text tl qs++(Zq++[32]++w++[40])) (by simp;omega);obtain⟨z,z1,z2⟩:=hv.add (by omega) (d_node h1 h2 h3 p2 p3 p4 d2 d3 f1 f2 (by omega));refine⟨z,?_,z2⟩;unfold QS;dsimp only;simp only[dlt hi,if_true,zg hi,Option.bind_some,e1,show(⟨#[110,111,100,101,32]⟩:ByteArray)=bs (Zq++[32]) from rfl,show(⟨#[40]⟩:ByteArray)=bs [40] from rfl,show(⟨#[41,32,98,117,100,103,101,116,32]⟩:ByteArray)=bs ([41,32]++ZK++[32]) from rfl,show(⟨#[32,123,32]⟩:ByteArray)=bs [32,123,32] from rfl,show(⟨#[32,125,10]⟩:ByteArray)=bs [32,125,10] from rfl,d1,b1];rw[qt (Zq++[32]) _ (by simp;omega)];simp only[Option.bind_some];rw[qt _ _ (by simp;omega)];simp only[Option.bind_some];rw[qt _ _ (by simp;omega)];simp only[Option.bind_some,p1];rw[qt _ _ (by simp;omega)];simp only[Option.bind_some];rw[qt _ _ (by simp;omega)];simp only[Option.bind_some];rw[qt _ _ (by simp;omega)];simp only[Option.bind_some];rw[qt _ _ (by simp;omega)];simp only[Option.bind_some];rw[qt _ _ (by simp;omega)];rw[qt _ _ (by simp;omega)]at z1;rw[←Option.some.inj z1];simp) (fun v=>by
  unfold QS;dsimp only;rw[dge];rfl)
 obtain⟨r2,i2,t2⟩:=qqQ (f:=QR p QZ) (xs:=p.inputs) t0 (by omega) (fun i hi v hv=>by
  have hx:=hp.input _ (List.getElem_mem hi);obtain⟨w,e1,h1,h2,h3,h4⟩:=Yg hx.name;obtain⟨n,d1,d2,d3⟩:=hx.period.dg;obtain⟨k,c1,c2,c3⟩:=hx.phase.dg;obtain⟨z,z1,z2⟩:=hv.add (by omega) (d_input h1 h2 h3 d2 d3 c2 c3);refine⟨z,?_,z2⟩;unfold QR;dsimp only;simp only[dlt hi,if_true,zg hi,Option.bind_some,e1,show(⟨#[105,110,112,117,116,32]⟩:ByteArray)=bs (Zx++[32]) from rfl,show(⟨#[32,112,101,114,105,111,100,32]⟩:ByteArray)=bs ([32]++JB++[32]) from rfl,show(⟨#[32,112,104,97,115,101,32]⟩:ByteArray)=bs ([32]++ZS++[32]) from rfl,show(⟨#[59,10]⟩:ByteArray)=bs [59,10] from rfl,d1,c1];rw[qt _ _ (by simp;omega)];simp only[Option.bind_some];rw[qt _ _ (by simp;omega)];simp only[Option.bind_some];rw[qt _ _ (by simp;omega)];simp only[Option.bind_some];rw[qt _ _ (by simp;omega)];simp only[Option.bind_some];rw[qt _ _ (by simp;omega)];simp only[Option.bind_some];rw[qt _ _ (by simp;omega)];simp only[Option.bind_some];rw[z1];rfl) (fun v=>by
  unfold QR;dsimp only;rw[dge];rfl)
 obtain⟨r3,i3,t3⟩:=qqQ (f:=QQ p JN) (xs:=p.flows) t2 (by omega) (fun i hi v hv=>by
  have hx:=hp.flow _ (List.getElem_mem hi);obtain⟨w,e1,h1,h2,h3,h4⟩:=Yg hx.name;obtain⟨r,b1,_,b2⟩:=x_text _ hx.e hx.size;obtain⟨ps,g,rfl,f1,f2,_,f3⟩:=(b2 hx.e hx.size).ex;try simp only at f3
  have hm:B3*qN p.flows[i].e≤B3*100:=Nat.mul_le_mul_left _ hx.size;obtain⟨z,z1,z2⟩:=hv.add (by omega) (d_flow h1 h2 h3 f1 f2 (by omega));refine⟨z,?_,z2⟩;unfold QQ;dsimp only;simp only[dlt hi,if_true,zg hi,Option.bind_some,e1,show(⟨#[102,108,111,119,32]⟩:ByteArray)=bs (QI++[32]) from rfl,show(⟨#[32,61,32]⟩:ByteArray)=bs [32,61,32] from rfl,show(⟨#[59,10]⟩:ByteArray)=bs [59,10] from rfl,b1];rw[qt _ _ (by simp;omega)];simp only[Option.bind_some];rw[qt _ _ (by simp;omega)];simp only[Option.bind_some];rw[qt _ _ (by simp;omega)];simp only[Option.bind_some];rw[qt _ _ (by simp;omega)];simp only[Option.bind_some];rw[z1];rfl) (fun v=>by
  unfold QQ;dsimp only;rw[dge];rfl)
 obtain⟨r4,i4,tl,ps,rfl,t4,t5,_,_⟩:=qqQ (f:=QP p QZ) (xs:=p.outputs) t3 (by omega) (fun i hi v hv=>by
  have hx:=hp.output _ (List.getElem_mem hi);obtain⟨w,e1,h1,h2,h3,h4⟩:=Yg hx.name;obtain⟨k,c1,c2,c3,c4,c5⟩:=Yg hx.flow;obtain⟨n,d1,d2,d3⟩:=hx.deadline.dg;obtain⟨z,z1,z2⟩:=hv.add (by omega) (d_output h1 h2 h3 c2 c3 c4 d2 d3);refine⟨z,?_,z2⟩;unfold QP;dsimp only;simp only[dlt hi,if_true,zg hi,Option.bind_some,e1,c1,show(⟨#[111,117,116,112,117,116,32]⟩:ByteArray)=bs (ZJ++[32]) from rfl,show(⟨#[32,61,32]⟩:ByteArray)=bs [32,61,32] from rfl,show(⟨#[32,100,101,97,100,108,105,110,101,32]⟩:ByteArray)=bs ([32]++zQ++[32]) from rfl,show(⟨#[59,10]⟩:ByteArray)=bs [59,10] from rfl,d1];rw[qt _ _ (by simp;omega)];simp only[Option.bind_some];rw[qt _ _ (by simp;omega)];simp only[Option.bind_some];rw[qt _ _ (by simp;omega)];simp only[Option.bind_some];rw[qt _ _ (by simp;omega)];simp only[Option.bind_some];rw[qt _ _ (by simp;omega)];simp only[Option.bind_some];rw[qt _ _ (by simp;omega)];simp only[Option.bind_some];rw[z1];rfl) (fun v=>by
  unfold QP;dsimp only;rw[dge];rfl)
 refine⟨tl,ps,?_,t4,t5⟩;unfold qqO B_ref04_Print;rw[show(⟨#[]⟩:ByteArray)=bs [] from rfl,i0];simp only[Option.bind_some,i2,i3,i4]
end Go.Proofs.Ytohmmfimedgccaa.E
end
section
namespace Go.Proofs.Ytohmmfimedgccaa.E
set_option maxRecDepth 100000
set_option maxHeartbeats 4000000
set_option linter.unusedVariables false
set_option linter.unusedSimpArgs false
noncomputable def B_law04_awake (f0:ByteArray→Option (Program×Int×Int)):Option Bool:=
 (f0 (⟨#[102,108,111,119,32,102,32,61,32,51,32,102,98,121,32,103,59]⟩:ByteArray)).bind fun y1=>
 (if((decide (y1.2.2=(0:Int)))&&(decide (((List.length y1.1.flows:Nat):Int)=(1:Int))))then
  (qS y1.1.flows (0:Int)).bind fun y3=>
  some (decide (y3.e.n=(3:Int)))
 else
  some false).bind fun w5=>
 some (((decide (y1.2.2=(0:Int)))&&(decide (((List.length y1.1.flows:Nat):Int)=(1:Int))))&&w5)
theorem W_law04_awake (f0)(S0:Sat_syntax_Parse f0):Sat_law04_awake (B_law04_awake f0):=by
 intro r h σ K hK;refine zB Try.func32 rfl rfl (by kernel_rfl) ?_;unfold B_law04_awake at h;have hP:=Pre.refl σ;have TT:=cj15 Expr.rlen Flow.cle Program.cle T_2 T_22 T_23 T_24 T_25 T_27 T_3 T_30 T_37 T_39 T_41 T_9;refine qe (w_x Expr.rlen ?_);refine qg ?_;obtain⟨y1,h2,h⟩:=qb h;refine qh (fun e s=>∃i1:Nat,Bx σ s i1 27 (Program.cl y1.1)∧eP e 1 i1∧eI e 3 y1.2.2∧Pre σ s) ?_ ?_
 ·refine w_x TT ?_;refine S0 _ _ h2 _ _ ?_;refine w_y TT ?_;exact qf ⟨σ.length,(Bx.new hP _ _),(xv TT),(xv TT),(hP.app _)⟩
 rintro e s ⟨i1,X1,E1,E3,hP⟩
 obtain⟨w5,h6,h⟩:=qb h;refine qh (fun e s=>eB e 0 (((decide (y1.2.2=(0:Int)))&&(decide (((List.length y1.1.flows:Nat):Int)=(1:Int))))&&w5)∧Pre σ s) ?_ ?_
 ·cases hb7:(decide (y1.2.2=(0:Int)))
  ·replace h6:=zx (by simp only[hb7,Bool.or_true,Bool.true_or,Bool.or_false,Bool.false_or,Bool.and_true,Bool.true_and,Bool.and_false,Bool.false_and,Bool.not_true,Bool.not_false,cond_true,cond_false]) h6;obtain rfl:=qc h6;refine w_x (cj5 E1 E3 X1.get hb7 TT) ?_;exact qf ⟨(xv (cj5 E1 E3 X1.get hb7 TT)),hP⟩
  ·cases hb8:(decide (((List.length y1.1.flows:Nat):Int)=(1:Int)))
   ·replace h6:=zx (by simp only[hb7,hb8,Bool.or_true,Bool.true_or,Bool.or_false,Bool.false_or,Bool.and_true,Bool.true_and,Bool.and_false,Bool.false_and,Bool.not_true,Bool.not_false,cond_true,cond_false]) h6;obtain rfl:=qc h6;refine w_x (cj6 E1 E3 X1.get hb7 hb8 TT) ?_;exact qf ⟨(xv (cj6 E1 E3 X1.get hb7 hb8 TT)),hP⟩
   ·replace h6:=qI (by simp only[hb7,hb8,Bool.or_true,Bool.true_or,Bool.or_false,Bool.false_or,Bool.and_true,Bool.true_and,Bool.and_false,Bool.false_and,Bool.not_true,Bool.not_false,cond_true,cond_false]) h6;obtain⟨y3,h4,h6⟩:=qb h6;obtain rfl:=qc h6;have R9:=zw (f:=Flow.cl) (qp h4).2;have q1:=cj8 E1 E3 X1.get hb7 hb8 R9 (qp h4).1 TT;refine w_x q1 ?_;exact qf ⟨(xv q1),hP⟩
 rintro e s ⟨E0,hP⟩
 refine qo ?_;obtain rfl:=qc h;exact qq (fun _=>rfl) (xr (rs:= #[.tmp 0]) (cj2 E0 TT)) hP (.refl _) (.v _) hK
end Go.Proofs.Ytohmmfimedgccaa.E
end
section
namespace Go.Proofs.Ytohmmfimedgccaa.E
set_option linter.unusedVariables false
set_option linter.unusedSimpArgs false
variable {L:List qd} {i:Nat} {P:Program} {t:qd}
abbrev rd (L:List qd)(i:Nat)(P:Program):qa:=⟨L,17,(i:Int),0,0,P⟩
theorem a_now (ht:L[i]? =some t):qZ (rd L i P)=some t:=by
 unfold qZ B_syntax_reader_now;obtain⟨hl,rfl⟩:=List.getElem?_eq_some_iff.1 ht;rw[decide_eq_false (by simp only;omega)];simp only[Bool.false_eq_true,if_false,zg hl];rfl
theorem a_inc (hi:i<1000):inc (rd L i P)=rd L (i+1) P:=by
 show qa.mk L 17 (IntKind.i64.wrap ((i:Int)+1)) 0 0 P=_;rw[Zm (n:=1000) hi (ml (by omega))]
theorem a_take (ht:L[i]? =some t)(hi:i<1000):YO (rd L i P)=some (t,rd L (i+1) P):=by
 rw[take_eq (a_now ht),a_inc hi]
theorem a_is (ht:L[i]? =some t)(hk:t.kind≠0)(w:List UInt8):r_is (rd L i P) (bs w)=some (decide (t.text=bs w)):=by
 unfold r_is B_syntax_reader_is;rw[a_now ht];simp[hk]
theorem a_can (ht:L[i]? =some t)(hi:i<1000)(hk:t.kind≠0){w:List UInt8}(hw:t.text=bs w):zf (rd L i P) (bs w)=some (true,rd L (i+1) P):=by
 unfold zf B_syntax_reader_can;rw[a_is ht hk,decide_eq_true hw];exact congrArg (fun x=>some (true,x)) (a_inc hi)
theorem ZF (ht:L[i]? =some t)(hk:t.kind≠0){w:List UInt8}(hw:t.text≠bs w):zf (rd L i P) (bs w)=some (false,rd L i P):=by
 unfold zf B_syntax_reader_can;rw[a_is ht hk,decide_eq_false hw];rfl
theorem a_must (ht:L[i]? =some t)(hi:i<1000)(hk:t.kind≠0){w:List UInt8}(hw:t.text=bs w):zA (rd L i P) (bs w)=some ((),rd L (i+1) P):=by
 unfold zA B_syntax_reader_must;rw[a_can ht hi hk hw];rfl
theorem a_name (ht:L[i]? =some t)(hi:i<1000)(hk:t.kind=1)(hw:t.text∉qE):QG (rd L i P)=some (t,rd L (i+1) P):=by
 obtain⟨b,c1,c2⟩:=cont_eq qE t.text (by decide);unfold QG B_syntax_reader_name Jz B_lex_Words;rw[a_take ht hi];simp only[Option.bind_some,hk,decide_true,Bool.not_true,Bool.false_eq_true,if_false,Bool.false_or,c1];cases b with
 |true=>exact absurd (c2.1 rfl) hw
 |false=>rfl
theorem a_num (ht:L[i]? =some t)(hi:i<1000)(hk:t.kind=2){lo h:Int}(h1:lo≤t.n)(h2:t.n≤h):Qi (rd L i P) lo h=some (t.n,rd L (i+1) P):=by
 unfold Qi B_syntax_reader_number;rw[a_take ht hi];simp only[Option.bind_some,hk,decide_true,Bool.not_true,Bool.false_eq_true,if_false];rw[decide_eq_false (by omega),decide_eq_false (by omega)];rfl
theorem a_made {e:Expr}{d:Int}(hd:r_dep e=some d)(h:d≤20):zJ (rd L i P) e=some (e,rd L i P):=by
 unfold zJ B_syntax_reader_made;simp only[decide_true,if_true,hd,Option.bind_some,Bool.true_and];rw[decide_eq_false (by omega)];rfl
theorem a_g (k:Nat){u:qd}(ht:L[i]? =some t)(hi:i<1000)(hk:t.kind=1)(hw:t.text∉qE)(h1:t.text≠bs [116,97,105,108])(h2:t.text≠bs [45])(h3:t.text≠bs [40])
  (hu:L[i+1]? =some u) (ku:u.kind≠0) (u1:u.text≠bs [40]) (u2:u.text≠bs [42,94]) (u3:u.text≠bs [47,94]) (u4:u.text≠bs [126,62]):rE (k+1) (rd L i P)=some (Expr.mk 1 t.text 0 0 [] t.at_,rd L (i+1) P):=by
 have kt:t.kind≠0:=by omega
 have hsm:Sm (Expr.mk 1 t.text 0 0 [] t.at_):=⟨by simp,fun x hx=>by cases hx⟩;obtain⟨d,hd,_,hd1,_⟩:=t_dep _ hsm;have hA:rA (rE k) (rd L i P)=some (Expr.mk 1 t.text 0 0 [] t.at_,rd L (i+1) P):=by
  unfold rA B_syntax_reader_atom;rw[w40,ZF ht kt h3];simp only[Option.bind_some,Bool.false_eq_true,if_false,a_name ht hi hk hw,ZF hu ku u1,Bool.not_false,if_true];rw[a_made hd (by rw[hd1 rfl];decide)];rfl
 have hP:rP (rE k) (rd L i P)=some (Expr.mk 1 t.text 0 0 [] t.at_,rd L (i+1) P):=by
  unfold rP B_syntax_reader_post;rw[hA];simp only[Option.bind_some];rw[Qp (r:=.inl (Expr.mk 1 t.text 0 0 [] t.at_,rd L (i+1) P)) (by
   unfold qP;dsimp only;simp only[decide_true,if_true,a_now hu,Option.bind_some,wov,wun,wsh,ZF hu ku u2,ZF hu ku u3,ZF hu ku u4,Bool.false_eq_true,if_false])]
  rfl
 show B_syntax_reader_expr qZ zf r_is zA Qi (rE k) zJ (rP (rE k)) (rd L i P)=_;unfold B_syntax_reader_expr;simp only[a_now ht,Option.bind_some,decide_true,Bool.not_true,Bool.false_eq_true,if_false,wtail,ZF ht kt h1,hk,w45,a_is ht kt,decide_eq_false h2,Int.reduceEq,decide_false,Bool.not_false,if_true,Bool.and_self,hP]
def wk:List Pc:=[([],QI),([32],[102]),([32],[61]),([32],[51]),([32],[102,98,121]),([32],[103]),([],[59])]
theorem wk_ok:okp [] wk:=Yf.2 ⟨ok1 b0 (.nm 102 _ (by decide) (by decide)) (qL rfl) (ok1 b32 (.nm 102 _ (by decide) (by decide)) (qL rfl) (ok1 b32 (Qh (by decide)) (qL rfl) (ok1 b32 (.nu 51 _ (by decide)) (qL rfl) (ok1 b32 (.nm 102 _ (by decide) (by decide)) (qL rfl) (ok1 b32 (.nm 103 _ (by decide) (by decide)) (ZT (by decide) (zW (by decide))) (ok1 b0 (Qh (by decide)) (fun c hc=>by cases hc) trivial)))))),b0⟩
theorem num3:JP (bs [51])=some (3,true):=by
 have hs:Qr (bs [51])=[51]:=rfl;unfold JP B_lex_number;have e1:zZ (bs [51]) (0,0)=some (.inl (3,1)):=by
  unfold zZ;dsimp only;rw[hs];rfl
 rw[ZL e1,Qp (r:=.inr 3) (by unfold zZ;dsimp only;rw[hs];rfl)];rfl
theorem nxt3:nxt [51]=(⟨2,bs [51],3,0⟩,0):=by
 unfold nxt;rw[if_pos (by decide),show nv [51]=(3,true) by unfold nv;rw[num3];rfl];rfl
theorem Jy {w:List UInt8}(h:kd w≠2):nxt w=(⟨kd w,bs w,0,0⟩,0):=by
 unfold nxt;rw[if_neg h]
theorem wk_N:okN wk:=by
 intro p hp;simp only[wk,List.mem_cons,List.not_mem_nil,or_false]at hp;rcases hp with rfl|rfl|rfl|rfl|rfl|rfl|rfl
 ·rw[Jy (by decide)]
 ·rw[Jy (by decide)]
 ·rw[Jy (by decide)]
 ·rw[nxt3]
 ·rw[Jy (by decide)]
 ·rw[Jy (by decide)]
 ·rw[Jy (by decide)]
theorem wk_toks:Qy 0 wk=[⟨1,bs QI,0,0⟩,⟨1,bs [102],0,5⟩,⟨3,bs [61],0,7⟩,⟨2,bs [51],3,9⟩,⟨1,bs [102,98,121],0,11⟩,⟨1,bs [103],0,15⟩,⟨3,bs [59],0,16⟩]:=by
 simp only[wk,Qy];rw[Jy (w:=QI) (by decide),Jy (w:=[102]) (by decide),Jy (w:=[61]) (by decide),nxt3,Jy (w:=[102,98,121]) (by decide),Jy (w:=[103]) (by decide),Jy (w:=[59]) (by decide)];rfl
theorem Ja {a b:List UInt8}(h:a≠b):bs a≠bs b:=fun e=>h (YE.1 e)
def wl:List qd:=[⟨1,bs QI,0,0⟩,⟨1,bs [102],0,5⟩,⟨3,bs [61],0,7⟩,⟨2,bs [51],3,9⟩,⟨1,bs [102,98,121],0,11⟩,⟨1,bs [103],0,15⟩,⟨3,bs [59],0,16⟩]
theorem w_expr:rE FU (rd wl 3 P)=some (Expr.mk 6 (bs []) 3 0 [Expr.mk 1 (bs [103]) 0 0 [] 15] 9,rd wl 6 P):=by
 have hg:=a_g (L:=wl) (i:=5) (P:=P) 3999 (t:=⟨1,bs [103],0,15⟩) (u:=⟨3,bs [59],0,16⟩) rfl (by decide) rfl (by simp[qE,bs]) (Ja (by decide)) (Ja (by decide)) (Ja (by decide)) rfl (by decide) (Ja (by decide)) (Ja (by decide)) (Ja (by decide)) (Ja (by decide));have hsm:Sm (Expr.mk 6 (bs []) 3 0 [Expr.mk 1 (bs [103]) 0 0 [] 15] 9):=sm1 ⟨by simp,fun x hx=>by cases hx⟩;obtain⟨d,hd,_,_,hd2⟩:=t_dep _ hsm;have t3:wl[3]? =some ⟨2,bs [51],3,9⟩:=rfl;have t4:wl[4]? =some ⟨1,bs [102,98,121],0,11⟩:=rfl;have c1:=ZF (P:=P) t3 (by decide) (w:=[116,97,105,108]) (Ja (by decide));have c2:=ZF (P:=P) t3 (by decide) (w:=[45]) (Ja (by decide));have c3:=a_num (P:=P) t3 (by decide) rfl (lo:=0) (h:=4611686018427387904) (by decide) (by decide);have c4:=ZF (P:=P) t4 (by decide) (w:=[58,58]) (Ja (by decide));have c5:=a_must (P:=P) t4 (by decide) (by decide) (w:=[102,98,121]) rfl;show B_syntax_reader_expr qZ zf r_is zA Qi (rE 4000) zJ (rP (rE 4000)) (rd wl 3 P)=_;unfold B_syntax_reader_expr;simp only[a_now t3,Option.bind_some,decide_true,Bool.not_true,Bool.false_eq_true,if_false,wtail,c1,w45,c2,c3,wcons,c4,wfby,c5,Bool.false_and];rw[hg];simp only[Option.bind_some];rw[show(⟨#[]⟩:ByteArray)=bs [] from rfl,zF (n:=1*3) (by omega) (by omega)];have hm:=a_made (L:=wl) (i:=6) (P:=P) hd (by rw[hd2 _ rfl rfl];decide);exact(congrArg (fun o=>o.bind fun y48=>some (y48.fst,y48.snd)) hm).trans rfl
theorem w_flow:ZZ (rd wl 1 P)=some ((),rd wl 7 (Program.mk P.nodes P.inputs (P.flows++[Flow.mk (bs [102]) (Expr.mk 6 (bs []) 3 0 [Expr.mk 1 (bs [103]) 0 0 [] 15] 9) 5]) P.outputs))∨1000<P.flows.length:=by
 by_cases hl:P.flows.length≤1000
 ·left;have happ:∀x,Ql 96 P.flows [x]=some (P.flows++[x]):=fun x=>by
   unfold Ql;rw[if_pos (by simp;omega)]
  have t1:wl[1]? =some ⟨1,bs [102],0,5⟩:=rfl;have t2:wl[2]? =some ⟨3,bs [61],0,7⟩:=rfl;have t6:wl[6]? =some ⟨3,bs [59],0,16⟩:=rfl;unfold ZZ B_syntax_reader_flow;have n1:QG (rd wl 1 P)=some (⟨1,bs [102],0,5⟩,rd wl 2 P):=a_name t1 (by decide) rfl (by simp[qE,bs]);have m2:zA (rd wl 2 P) (bs [61])=some ((),rd wl 3 P):=a_must t2 (by decide) (by decide) rfl;have m6:zA (rd wl 6 P) (bs [59])=some ((),rd wl 7 P):=a_must t6 (by decide) (by decide) rfl;simp only[n1,Option.bind_some,show(⟨#[61]⟩:ByteArray)=bs [61] from rfl,show(⟨#[59]⟩:ByteArray)=bs [59] from rfl,m2,w_expr,m6,happ]
 ·exact .inr (by omega)
theorem w_parse:Zt (bs (text [] wk))=some (Program.mk [] [] [Flow.mk (bs [102]) (Expr.mk 6 (bs []) 3 0 [Expr.mk 1 (bs [103]) 0 0 [] 15] 9) 5] [],0,0):=by
 obtain⟨r,h1,_,h2⟩:=t_Lex wk_ok;have hr:r=(wl,0,0):=by
  rcases h2 wk_N with⟨h,_⟩|⟨_,h⟩
  ·rw[h,wk_toks];rfl
  ·exact absurd h (by decide)
 subst hr;have t0:wl[0]? =some ⟨1,bs QI,0,0⟩:=rfl;have c1:=fun P=>ZF (P:=P) t0 (by decide) (w:=Zq) (Ja (by decide));have c2:=fun P=>ZF (P:=P) t0 (by decide) (w:=Zx) (Ja (by decide));have c3:=fun P=>a_can (P:=P) t0 (by decide) (by decide) (w:=QI) rfl;have c4:∀p,p=Program.mk [] [] [] []→ZZ (rd wl 1 p)=some ((),rd wl 7 (Program.mk [] [] [Flow.mk (bs [102]) (Expr.mk 6 (bs []) 3 0 [Expr.mk 1 (bs [103]) 0 0 [] 15] 9) 5] [])):=fun p hp=>by
  subst hp;rcases w_flow (P:=Program.mk [] [] [] [])with h|h
  ·exact h
  ·exact absurd h (by decide)
 unfold Zt B_syntax_Parse;rw[h1];simp only[Option.bind_some,decide_true,Bool.not_true,Bool.false_eq_true,if_false];rw[zE,show((text [] wk).length:Int)=17 from rfl];have s1:qV zf zp ZZ Jq Ye qZ ZG ((0:Int),rd wl 0 (Program.mk [] [] [] []),[],[],[],[])=some (.inl (1,rd wl 7 (Program.mk [] [] [Flow.mk (bs [102]) (Expr.mk 6 (bs []) 3 0 [Expr.mk 1 (bs [103]) 0 0 [] 15] 9) 5] []),[],[],[Flow.mk (bs [102]) (Expr.mk 6 (bs []) 3 0 [Expr.mk 1 (bs [103]) 0 0 [] 15] 9) 5],[])):=by
  unfold qV;dsimp only;rw[show(⟨#[110,111,100,101]⟩:ByteArray)=bs Zq from rfl,show(⟨#[105,110,112,117,116]⟩:ByteArray)=bs Zx from rfl,show(⟨#[102,108,111,119]⟩:ByteArray)=bs QI from rfl];rw[if_pos (by decide),a_now t0];simp only[Option.bind_some,Int.reduceEq,decide_false,Bool.and_false,Bool.false_eq_true,if_false,c1,c2,c3,if_true];rw[c4 _ rfl];rfl
 have s2:qV zf zp ZZ Jq Ye qZ ZG ((1:Int),rd wl 7 (Program.mk [] [] [Flow.mk (bs [102]) (Expr.mk 6 (bs []) 3 0 [Expr.mk 1 (bs [103]) 0 0 [] 15] 9) 5] []),[],[],[Flow.mk (bs [102]) (Expr.mk 6 (bs []) 3 0 [Expr.mk 1 (bs [103]) 0 0 [] 15] 9) 5],[])=some (.inr (rd wl 7 (Program.mk [] [] [Flow.mk (bs [102]) (Expr.mk 6 (bs []) 3 0 [Expr.mk 1 (bs [103]) 0 0 [] 15] 9) 5] []),[],[],[Flow.mk (bs [102]) (Expr.mk 6 (bs []) 3 0 [Expr.mk 1 (bs [103]) 0 0 [] 15] 9) 5],[])):=by
  unfold qV;dsimp only;rw[if_neg (by decide)]
 have hit:qA (qV zf zp ZZ Jq Ye qZ ZG) ((0:Int),qa.mk wl 17 0 0 0 (Program.mk [] [] [] []),([]:List Node),([]:List Input),([]:List Flow),([]:List Output))=some (rd wl 7 (Program.mk [] [] [Flow.mk (bs [102]) (Expr.mk 6 (bs []) 3 0 [Expr.mk 1 (bs [103]) 0 0 [] 15] 9) 5] []),[],[],[Flow.mk (bs [102]) (Expr.mk 6 (bs []) 3 0 [Expr.mk 1 (bs [103]) 0 0 [] 15] 9) 5],[]):=(ZL s1).trans (Qp s2);rw[hit];rfl
noncomputable def qqP:=B_law04_awake Zt
theorem y_awake:Sat_law04_awake qqP:=W_law04_awake _ z_rParse
theorem t_awake:qqP=some true:=by
 unfold qqP B_law04_awake;rw[show(⟨#[102,108,111,119,32,102,32,61,32,51,32,102,98,121,32,103,59]⟩:ByteArray)=bs (text [] wk) from rfl,w_parse];rfl
end Go.Proofs.Ytohmmfimedgccaa.E
end
section
namespace Go.Proofs.Ytohmmfimedgccaa.E
set_option maxRecDepth 100000
set_option maxHeartbeats 4000000
set_option linter.unusedVariables false
set_option linter.unusedSimpArgs false
noncomputable def B_law04_SyntaxPlaces (f0:Program→Option Bool)(f1:Option Bool)(f2:Program→Option ByteArray)(f3:ByteArray→Option ((List qd)×Int×Int))(f4:ByteArray→Option (Program×Int×Int))(a0:Program)(a1:Int)(a2:Int):Option Bool:=
 (f1).bind fun y1=>
 (if(!y1)then
  some false
 else
  (f0 a0).bind fun y3=>
  some (!y3)).bind fun w5=>
 if((!y1)||w5)then
  (f1).bind fun y9=>
  some y9
 else
  (f2 a0).bind fun y11=>
  (f3 y11).bind fun y13=>
  if(((decide ((2000:Int)<((ByteArray.size y11:Nat):Int)))||(!decide (y13.2.2=(0:Int))))||(decide (((List.length y13.1:Nat):Int)=(0:Int))))then
   some true
  else
   (remO (IntKind.i64.wrap a1) ((List.length y13.1:Nat):Int)).bind fun y18=>
   (qS y13.1 y18).bind fun y20=>
   (Zn y11 (0:Int) y20.at_).bind fun y23=>
   ((if(decide ((Int.tmod a2 (3:Int))=(0:Int)))then
    (Zn y11 (IntKind.i64.wrap (y20.at_+((ByteArray.size y20.text:Nat):Int))) ((ByteArray.size y11:Nat):Int)).bind fun y32=>
    (qw (⟨#[32]⟩:ByteArray) y32).bind fun y34=>
    (qw y23 y34).bind fun y36=>
    some y36
   else
    (if(decide ((Int.tmod a2 (3:Int))=(1:Int)))then
     (qw y20.text (⟨#[32]⟩:ByteArray)).bind fun y42=>
     (Zn y11 y20.at_ ((ByteArray.size y11:Nat):Int)).bind fun y44=>
     (qw y42 y44).bind fun y46=>
     (qw y23 y46).bind fun y48=>
     some y48
    else
     (Zn y11 (IntKind.i64.wrap (y20.at_+((ByteArray.size y20.text:Nat):Int))) ((ByteArray.size y11:Nat):Int)).bind fun y50=>
     (qw (⟨#[32,100,101,97,100,108,105,110,101,32]⟩:ByteArray) y50).bind fun y52=>
     (qw y23 y52).bind fun y54=>
     some y54:Option ByteArray).bind fun v40=>
    some v40:Option ByteArray).bind fun v30=>
   some v30:Option ByteArray).bind fun v27=>
   (f4 v27).bind fun y56=>
   if(decide (y56.2.2=(1:Int)))then
    some ((decide (y20.at_≤y56.2.1))||(decide (((ByteArray.size v27:Nat):Int)≤y56.2.1)))
   else
    some ((decide ((0:Int)≤y56.2.1))&&(decide (y56.2.1≤((ByteArray.size v27:Nat):Int))))
theorem W_law04_SyntaxPlaces (f0 f1 f2 f3 f4)(S0:Sat_ref04_Right f0)(S1:Sat_law04_awake f1)(S2:Sat_ref04_Print f2)(S3:Sat_lex_Lex f3)(S4:Sat_syntax_Parse f4):Sat_law04_SyntaxPlaces (B_law04_SyntaxPlaces f0 f1 f2 f3 f4):=by
 intro a0 a1 a2 r h σ K hK;refine zB Try.func7 rfl rfl (by kernel_rfl) ?_;unfold B_law04_SyntaxPlaces at h;have hP:=Pre.refl σ;have E0:qu [(.ag (Program.cl a0)),(.v (.int .u8 a1)),(.v (.int .u8 a2))] 0=(.ag (Program.cl a0)):=rfl;have E1:qu [(.ag (Program.cl a0)),(.v (.int .u8 a1)),(.v (.int .u8 a2))] 1=(.v (.int .u8 a1)):=rfl;have E2:qu [(.ag (Program.cl a0)),(.v (.int .u8 a1)),(.v (.int .u8 a2))] 2=(.v (.int .u8 a2)):=rfl;have TT:=cj15 Expr.rlen Program.cle T_2 T_22 T_23 T_24 T_25 T_27 T_3 T_30 T_5 T_81 T_85 T_9 qd.cle;refine qh (fun e s=>∃i3:Nat,Bx σ s i3 27 (Program.cl a0)∧e 1=(.v (.int .u8 a1))∧e 2=(.v (.int .u8 a2))∧eP e 3 i3∧Pre σ s) ?_ ?_
 ·refine w_x (cj2 E0 TT) ?_;exact qf ⟨σ.length,(Bx.new hP _ _),E1,E2,(xv (cj2 E0 TT)),(hP.app _)⟩
 rintro e s ⟨i3,X3,E1,E2,E3,hP⟩
 refine qk ?_;obtain⟨y1,h2,h⟩:=qb h;obtain⟨w5,h6,h⟩:=qb h;refine qh (fun e s=>Bx σ s i3 27 (Program.cl a0)∧e 1=(.v (.int .u8 a1))∧e 2=(.v (.int .u8 a2))∧eP e 3 i3∧eB e 23 ((!y1)||w5)∧Pre σ s) ?_ ?_
 ·cases hb7:(!y1)
  ·replace h6:=zx (by simp only[hb7,Bool.or_true,Bool.true_or,Bool.or_false,Bool.false_or,Bool.and_true,Bool.true_and,Bool.and_false,Bool.false_and,Bool.not_true,Bool.not_false,cond_true,cond_false]) h6;obtain⟨y3,h4,h6⟩:=qb h6;obtain rfl:=qc h6;have q1:=cj4 E3 X3.get hb7 TT;refine w_x q1 ?_;refine S1 _ h2 _ _ ?_;refine w_y q1 ?_;refine S0 _ _ h4 _ _ ?_;refine w_y q1 ?_;exact qf ⟨X3,E1,E2,E3,(xv q1),hP⟩
  ·replace h6:=qI (by simp only[hb7,Bool.or_true,Bool.true_or,Bool.or_false,Bool.false_or,Bool.and_true,Bool.true_and,Bool.and_false,Bool.false_and,Bool.not_true,Bool.not_false,cond_true,cond_false]) h6;obtain rfl:=qc h6;have q2:=cj4 E3 X3.get hb7 TT;refine w_x q2 ?_;refine S1 _ h2 _ _ ?_;refine w_y q2 ?_;exact qf ⟨X3,E1,E2,E3,(xv q2),hP⟩
 rintro e s ⟨X3,E1,E2,E3,E23,hP⟩
 refine qe ?_;rcases qj h with⟨hb8,h⟩|⟨hb8,h⟩
 ·refine xt (cj2 E23 hb8) (qe ?_);obtain⟨y9,h10,h⟩:=qb h;refine w_x Expr.rlen ?_;refine S1 _ h10 _ _ ?_;refine w_y Expr.rlen ?_;refine qg (qo (ze ?_));obtain rfl:=qc h;exact qq (fun _=>rfl) (xr (rs:= #[.tmp 6]) TT) hP (.refl _) (.v _) hK
 ·refine xf (cj2 E23 hb8) (qm (qg (qe ?_)));obtain⟨y11,h12,h⟩:=qb h;refine w_x (cj3 E3 X3.get TT) ?_;refine S2 _ _ h12 _ _ ?_;refine w_y (cj3 E3 X3.get TT) ?_;refine qg (qe ?_);obtain⟨y13,h14,h⟩:=qb h;refine w_x TT ?_;refine S3 _ _ h14 _ _ ?_;refine w_y TT ?_;refine qg (qk (qh (fun e s=>e 1=(.v (.int .u8 a1))∧e 2=(.v (.int .u8 a2))∧eT e 7 y11∧eS e 8 qd.cl y13.1∧eB e 44 (((decide ((2000:Int)<((ByteArray.size y11:Nat):Int)))||(!decide (y13.2.2=(0:Int))))||(decide (((List.length y13.1:Nat):Int)=(0:Int))))∧Pre σ s) ?_ ?_))
  ·cases hb15:(decide ((2000:Int)<((ByteArray.size y11:Nat):Int)))
   ·cases hb16:(!decide (y13.2.2=(0:Int)))
    ·have q3:=cj3 hb15 hb16 TT;refine w_x q3 ?_;exact qf ⟨E1,E2,(xv q3),(xv q3),(xv q3),hP⟩
    ·have q4:=cj3 hb15 hb16 TT;refine w_x q4 ?_;exact qf ⟨E1,E2,(xv q4),(xv q4),(xv q4),hP⟩
   ·refine w_x (cj2 hb15 TT) ?_;exact qf ⟨E1,E2,(xv (cj2 hb15 TT)),(xv (cj2 hb15 TT)),(xv (cj2 hb15 TT)),hP⟩
  rintro e s ⟨E1,E2,E7,E8,E44,hP⟩
  refine qe ?_;rcases qj h with⟨hb17,h⟩|⟨hb17,h⟩
  ·refine xt (cj2 E44 hb17) (qe (w_x Expr.rlen ?_));refine qg (qo (ze ?_));obtain rfl:=qc h;exact qq (fun _=>rfl) (xr (rs:= #[.tmp 6]) TT) hP (.refl _) (.v _) hK
  ·refine xf (cj2 E44 hb17) (qm (qg (qe ?_)));obtain⟨y18,h19,h⟩:=qb h;refine w_x (cj5 E1 E8 (eq_false (remO_some h19).1) (remO_some h19).2 TT) ?_;refine qg ?_;obtain⟨y20,h21,h⟩:=qb h;refine qh (fun e s=>∃i12:Nat,Bx σ s i12 85 (qd.cl y20)∧e 2=(.v (.int .u8 a2))∧eT e 7 y11∧eP e 12 i12∧Pre σ s) ?_ ?_
   ·have R22:=zw (f:=qd.cl) (qp h21).2;have q5:=cj4 E8 R22 (qp h21).1 TT;refine w_x q5 ?_;exact qf ⟨s.length,(Bx.new hP _ _),E2,E7,(xv q5),(hP.app _)⟩
   rintro e s ⟨i12,X12,E2,E7,E12,hP⟩
   refine qe ?_;obtain⟨y23,h24,h⟩:=qb h;refine w_x (cj6 E7 E12 X12.get (qH h24).1 (qH h24).2 TT) ?_;refine qg (qk (qe (w_x (cj2 E2 TT) ?_)));refine qg ?_;obtain⟨x25,h26,h⟩:=qb h;refine qh (fun e s=>∃v27,v27=x25∧Bx σ s i12 85 (qd.cl y20)∧eP e 12 i12∧eT e 13 v27∧Pre σ s) ?_ ?_
   ·refine qn (qe (w_x TT ?_));refine qg ?_;obtain⟨x28,h29,h26⟩:=qb h26;refine QE (fun e s=>∃v30,v30=x28∧Bx σ s i12 85 (qd.cl y20)∧eP e 12 i12∧eT e 13 v30∧Pre σ s) ?_ ?_
    ·rcases qj h29 with⟨hb31,h29⟩|⟨hb31,h29⟩
     ·refine xt hb31 ?_;obtain⟨y32,h33,h29⟩:=qb h29;obtain⟨y34,h35,h29⟩:=qb h29;obtain⟨y36,h37,h29⟩:=qb h29;have q6:=cj10 E7 E12 X12.get (qH h33).1 (qH h33).2 (qi h35).1 (qi h35).2 (qi h37).1 (qi h37).2 TT;refine w_x q6 ?_;obtain rfl:=qc h29;exact zr ⟨_,rfl,X12,E12,(xv q6),hP⟩
     ·refine xf hb31 (qe (w_x TT ?_));refine qg ?_;obtain⟨x38,h39,h29⟩:=qb h29;refine QE (fun e s=>∃v40,v40=x38∧Bx σ s i12 85 (qd.cl y20)∧eP e 12 i12∧eT e 13 v40∧Pre σ s) ?_ ?_
      ·rcases qj h39 with⟨hb41,h39⟩|⟨hb41,h39⟩
       ·refine xt hb41 ?_;obtain⟨y42,h43,h39⟩:=qb h39;obtain⟨y44,h45,h39⟩:=qb h39;obtain⟨y46,h47,h39⟩:=qb h39;obtain⟨y48,h49,h39⟩:=qb h39;have q7:=ZD E7 E12 X12.get (qi h43).1 (qi h43).2 (qH h45).1 (qH h45).2 (qi h47).1 (qi h47).2 (qi h49).1 (qi h49).2 TT;refine w_xp q7 ?_;obtain rfl:=qc h39;exact zr ⟨_,rfl,X12,E12,(xv q7),hP⟩
       ·refine xf hb41 ?_;obtain⟨y50,h51,h39⟩:=qb h39;obtain⟨y52,h53,h39⟩:=qb h39;obtain⟨y54,h55,h39⟩:=qb h39;have q8:=cj10 E7 E12 X12.get (qH h51).1 (qH h51).2 (qi h53).1 (qi h53).2 (qi h55).1 (qi h55).2 TT;refine w_x q8 ?_;obtain rfl:=qc h39;exact zr ⟨_,rfl,X12,E12,(xv q8),hP⟩
      rintro e s ⟨v40,rfl,X12,E12,E13,hP⟩
      (try dsimp only at h29);obtain rfl:=qc h29;exact zr ⟨_,rfl,X12,E12,E13,hP⟩
    rintro e s ⟨v30,rfl,X12,E12,E13,hP⟩
    (try dsimp only at h26);refine zc ?_;obtain rfl:=qc h26;exact qf ⟨_,rfl,X12,E12,E13,hP⟩
   rintro e s ⟨v27,rfl,X12,E12,E13,hP⟩
   (try dsimp only at h);obtain⟨y56,h57,h⟩:=qb h;refine qh (fun e s=>Bx σ s i12 85 (qd.cl y20)∧eP e 12 i12∧eT e 13 v27∧eI e 15 y56.2.1∧eI e 16 y56.2.2∧Pre σ s) ?_ ?_
   ·refine w_x (cj2 E13 TT) ?_;refine S4 _ _ h57 _ _ ?_;refine w_y (cj2 E13 TT) ?_;exact qf ⟨(X12.app _),E12,E13,(xv (cj2 E13 TT)),(xv (cj2 E13 TT)),(hP.app _)⟩
   rintro e s ⟨X12,E12,E13,E15,E16,hP⟩
   refine qk (qe (w_x (cj2 E16 TT) ?_));refine qg (qe ?_);rcases qj h with⟨hb58,h⟩|⟨hb58,h⟩
   ·refine xt hb58 (qh (fun e s=>eB e 6 ((decide (y20.at_≤y56.2.1))||(decide (((ByteArray.size v27:Nat):Int)≤y56.2.1)))∧Pre σ s) ?_ ?_)
    ·cases hb59:(decide (y20.at_≤y56.2.1))
     ·have q9:=cj6 E12 E13 E15 X12.get hb59 TT;refine w_x q9 ?_;exact qf ⟨(xv q9),hP⟩
     ·have q10:=cj6 E12 E13 E15 X12.get hb59 TT;refine w_x q10 ?_;exact qf ⟨(xv q10),hP⟩
    rintro e s ⟨E6,hP⟩
    refine qo (ze ?_);obtain rfl:=qc h;exact qq (fun _=>rfl) (xr (rs:= #[.tmp 6]) (cj2 E6 TT)) hP (.refl _) (.v _) hK
   ·refine xf hb58 (qm (qg (qh (fun e s=>eB e 6 ((decide ((0:Int)≤y56.2.1))&&(decide (y56.2.1≤((ByteArray.size v27:Nat):Int))))∧Pre σ s) ?_ ?_)))
    ·cases hb60:(decide ((0:Int)≤y56.2.1))
     ·refine w_x (cj4 E13 E15 hb60 TT) ?_;exact qf ⟨(xv (cj4 E13 E15 hb60 TT)),hP⟩
     ·refine w_x (cj4 E13 E15 hb60 TT) ?_;exact qf ⟨(xv (cj4 E13 E15 hb60 TT)),hP⟩
    rintro e s ⟨E6,hP⟩
    refine qo ?_;obtain rfl:=qc h;exact qq (fun _=>rfl) (xr (rs:= #[.tmp 6]) (cj2 E6 TT)) hP (.refl _) (.v _) hK
end Go.Proofs.Ytohmmfimedgccaa.E
end
section
namespace Go.Proofs.Ytohmmfimedgccaa.E
set_option linter.unusedVariables false
set_option linter.unusedSimpArgs false
theorem qqZ:∀(n:Nat) (A B:List Pc),Qy n (A++B)=Qy n A++Qy (n+(text [] A).length) B
 |n,[],B=>rfl
 | n, (b, w) :: A, B => by
  rw[List.cons_append,Qy,Qy,qqZ,List.cons_append];simp only[text,List.length_append,Nat.add_assoc]
theorem toks_at {tl:List UInt8}:∀(n:Nat) (ps:List Pc) (t:qd),t∈Qy n ps→((n+(hd tl ps).length:Nat):Int)≤t.at_∧t.at_≤((n+(text tl ps).length:Nat):Int)
 |n,[],t,h=>by cases h
 | n, (b, w) :: ps, t, h => by
  rw[Qy]at h;rcases List.mem_cons.1 h with rfl|h
  ·simp only[hd,text,List.length_append];omega
  ·have:=toks_at (tl:=tl) _ _ _ h;simp only[hd,text,List.length_append];omega
theorem toks_get:∀(n:Nat) (ps:List Pc) (j:Nat) (p:Pc),ps[j]? =some p→∃a,(Qy n ps)[j]? =some ⟨(nxt p.2).1.kind,bs p.2,(nxt p.2).1.n,a⟩
 |n,[],j,p,h=>by cases h
 | n, (b, w) :: ps, 0, p, h => by
  cases h;exact⟨_,rfl⟩
 |n,(b,w)::ps,j+1,p,h=>toks_get _ ps j p h
theorem tk_kd {w:List UInt8}(h:Tk w):kd w≠0:=by
 obtain⟨c,u,rfl,_⟩:=h.cons;rw[Yo];split
 ·decide
 ·split<;>decide
theorem okA_ch {t t':List UInt8}(h:∀w,fol w t→fol w t'):∀{ps:List Pc},okA t ps→okA t' ps
 |[],_=>trivial
 |[(b,w)],⟨h1,h2,h3,_⟩=>⟨h1,h2,h w h3,trivial⟩
 | (b, w) :: (b1, w1) :: ps, ⟨h1, h2, h3, h4⟩ => by
  refine⟨h1,h2,qqk ?_ h3,okA_ch h h4⟩;obtain⟨c,u,rfl,_⟩:=h4.2.1.cons;cases b1<;>rfl
theorem okA_tk {t:List UInt8}:∀{ps:List Pc},okA t ps→∀p∈ps,Tk p.2
 |[],_,p,h=>by cases h
 | (b, w) :: ps, ⟨_, h2, _, h4⟩, p, h => by
  rcases List.mem_cons.1 h with rfl|h
  ·exact h2
  ·exact okA_tk h4 p h
theorem okN_app {A B:List Pc}:okN (A++B)↔okN A∧okN B:=
 ⟨fun h=>⟨fun p hp=>h p (List.mem_append.2 (.inl hp)),fun p hp=>h p (List.mem_append.2 (.inr hp))⟩,fun⟨h1,h2⟩ p hp=>(List.mem_append.1 hp).elim (h1 p) (h2 p)⟩
theorem bl_ahead {tl u:List UInt8}(hu:∀c∈u,blk c=true){C:List Pc}(h:okp tl C)(hN:okN C):∃tl' C',u++text tl C=text tl' C'∧okp tl' C'∧okN C'∧u.length≤(hd tl' C').length:=by
 cases C with
 |nil=>exact⟨u++tl,[],rfl,(fun c hc=>(List.mem_append.1 hc).elim (hu c) (h c)),hN,by simp[hd]⟩
 | cons p r =>
  obtain⟨b,w⟩:=p;obtain⟨h1,h2⟩:=h;refine⟨tl,(u++b,w)::r,by simp[text],⟨fun c hc=>(List.mem_append.1 hc).elim (hu c) (h1 c),h2⟩,fun p hp=> ?_,by simp[hd]⟩;rcases List.mem_cons.1 hp with rfl|hp
  ·exact hN (b,w) List.mem_cons_self
  ·exact hN p (List.mem_cons_of_mem _ hp)
theorem pc_split:∀(ps:List Pc) (k:Nat),k<ps.length→∃A b w C,ps=A++(b,w)::C∧A.length=k
 |[],k,h=>by cases h
 |(b,w)::ps,0,_=>⟨[],b,w,ps,rfl,rfl⟩
 | p :: ps, k + 1, h => by
  obtain⟨A,b,w,C,rfl,rfl⟩:=pc_split ps k (by simpa using h);exact⟨p::A,b,w,C,rfl,rfl⟩
theorem zzk {tl tl' b w:List UInt8}{A C D:List Pc}(hok:okp tl (A++(b,w)::C))(hN:okN A)(hD:Ds ((A++(b,w)::C).map (·.2)))(h1:okp tl' D)(h2:okN D)(h3:b.length≤(hd tl' D).length)(h4:∀x,fol x (text tl ((b,w)::C))→fol x (text tl' D)):
  ∃p a e,Zt (bs (text [] A++text tl' D))=some (p,a,e)∧0≤a∧a≤(((text [] A++text tl' D).length:Nat):Int)∧(e=1→(((text [] A).length+b.length:Nat):Int)≤a):=by
 have e1:text [] A++text tl' D=text tl' (A++D):=by rw[qv,qD (text tl' D) A]
 obtain⟨hA,_⟩:=Yf.1 hok;obtain⟨hA1,_⟩:=zD.1 hA;obtain⟨hD1,hD2⟩:=Yf.1 h1;have hok':okp tl' (A++D):=Yf.2 ⟨zD.2 ⟨okA_ch h4 hA1,hD1⟩,hD2⟩;have hhd:(hd tl' D).length≤(text tl' D).length:=by rw[text_hd];simp
 rw[e1];have hlen:(text tl' (A++D)).length=(text [] A).length+(text tl' D).length:=by rw[←e1,List.length_append]
 obtain⟨r,k1,_,k2⟩:=t_Lex hok';rcases k2 (okN_app.2 ⟨hN,h2⟩)with⟨rfl,hl⟩|⟨rfl,_⟩
 ·have hp:=pcs_len hok';have hX:Cx.ok ⟨Qy 0 (A++D),((text tl' (A++D)).length:Int),A.length,(((text [] A).length+b.length:Nat):Int),(A++(b,w)::C).map (·.2)⟩:=by
   refine⟨by show(Qy 0 (A++D)).length≤4000;rw[Zs];omega,fun t ht=> ?_,⟨by show(0:Int)≤((text tl' (A++D)).length:Int);omega,by show(((text [] A).length+b.length:Nat):Int)≤((text tl' (A++D)).length:Int);omega⟩,⟨by show A.length≤(Qy 0 (A++D)).length;rw[Zs];simp,by simp⟩,fun j t hj ht=> ?_,fun j x hj hx=> ?_⟩
   ·have:=toks_at (tl:=tl') 0 _ t ht;show 0≤t.at_∧t.at_≤((text tl' (A++D)).length:Int);omega
   ·simp only at ht hj ⊢;rw[qqZ,List.getElem?_append_right (by rw[Zs];exact hj)]at ht;have:=toks_at (tl:=tl') _ _ t (List.mem_of_getElem? ht);omega
   ·simp only at hj hx ⊢;rw[List.map_append,List.getElem?_append_left (by simpa using hj),List.getElem?_map]at hx;obtain⟨p,hp,rfl⟩:=Option.map_eq_some_iff.1 hx;obtain⟨a,ha⟩:=toks_get 0 (A++D) j p (by rw[List.getElem?_append_left hj];exact hp);have hm:=List.mem_of_getElem? hp;have hk:=nxt_kd (hN p hm);exact⟨_,ha,rfl,hk,by show(nxt p.2).1.kind≠0;rw[hk];exact tk_kd (okA_tk hA1 p hm)⟩
  obtain⟨p,a,e,h5,h6,h7,h8⟩:=parse_st hX hD (bs (text tl' (A++D))) k1 (by rw[zE]);exact⟨p,a,e,h5,h6,h7,h8⟩
 ·refine⟨Program.mk [] [] [] [],0,8,?_,Int.le_refl _,by omega,fun h=>by cases h⟩;unfold Zt B_syntax_Parse;rw[k1];rfl
noncomputable def m_law:=B_law04_SyntaxPlaces q_read qqP qqO m_Lex Zt
theorem s_law:Sat_law04_SyntaxPlaces m_law:=W_law04_SyntaxPlaces _ _ _ _ _ y_read y_awake y_print s_Lex z_rParse
theorem v_law (a0:Program)(h0:a0.ok)(a1:Int)(h1:U8 a1)(a2:Int)(h2:U8 a2):m_law a0 a1 a2=some true:=by
 unfold m_law B_law04_SyntaxPlaces;obtain⟨r,hr,hx⟩:=x_read a0 h0;rw[t_awake];simp only[Option.bind_some,Bool.not_true,Bool.false_eq_true,if_false,hr,Bool.false_or];cases r with
 |false=>rfl
 | true =>
  obtain⟨tl,ps,hp,hok,hD⟩:=t_print a0 (hx rfl);obtain⟨q,k1,k2,_⟩:=t_Lex hok;simp only[Bool.not_true,Bool.false_eq_true,if_false,hp,Option.bind_some,k1];split
  ·rfl
  ·rename_i hc;simp only[Bool.or_eq_true,decide_eq_true_eq,not_or,Bool.not_eq_true',decide_eq_false_iff_not,Decidable.not_not,zE]at hc;obtain⟨⟨hc1,hc2⟩,hc3⟩:=hc;obtain⟨hN,hl⟩:=k2 hc2;rw[hl,Zs]at hc3;rw[hl,Zs];unfold U8 at h1 h2;have hm:=Int.tmod_eq_emod_of_nonneg (b:=(ps.length:Int)) h1.1;have hm1:=Int.emod_nonneg a1 (b:=(ps.length:Int)) hc3;have hm2:=Int.emod_lt_of_pos a1 (b:=(ps.length:Int)) (by omega);obtain⟨k,hk,hk2⟩:∃k:Nat,remO (IntKind.i64.wrap a1) (ps.length:Int)=some (k:Int)∧k<ps.length:=by
    unfold remO;rw[if_neg hc3,zF (by omega) (by omega),hm];exact⟨(a1 % (ps.length:Int)).toNat,by rw[Int.toNat_of_nonneg hm1],by omega⟩
   obtain⟨A,b,w,C,rfl,rfl⟩:=pc_split ps k hk2;obtain⟨hNA,hNC⟩:=okN_app.1 hN;have hNC':okN C:=fun p hp=>hNC p (List.mem_cons_of_mem _ hp);have hNw:(nxt w).2=0:=hNC (b,w) List.mem_cons_self;obtain⟨hA,hbt⟩:=Yf.1 hok;obtain⟨hA1,hb,hw,hf,hC⟩:=zD.1 hA;have hCp:okp tl C:=Yf.2 ⟨hC,hbt⟩;have e1:text tl (A++(b,w)::C)=text [] A++(b++(w++text tl C)):=by rw[qv,qD _ A];rfl
   rw[hk];simp only[Option.bind_some];rw[show qS (Qy 0 (A++(b,w)::C)) (A.length:Int)=some ⟨(nxt w).1.kind,bs w,(nxt w).1.n,(((text [] A).length+b.length:Nat):Int)⟩ by
    unfold qS;rw[if_pos (by omega),Int.toNat_natCast,qqZ,List.getElem?_append_right (by rw[Zs];omega),Zs,Nat.sub_self,Qy];simp]
   simp only[Option.bind_some];have hlen:(text tl (A++(b,w)::C)).length=(text [] A).length+(b.length+(w.length+(text tl C).length)):=by rw[e1];simp
   have t1:Zn (bs (text tl (A++(b,w)::C))) 0 (((text [] A).length+b.length:Nat):Int)=some (bs (text [] A++b)):=by
    have:=JX (text tl (A++(b,w)::C)) 0 ((text [] A).length+b.length) (by omega) (by omega);rw[List.drop_zero,e1,show text [] A++(b++(w++text tl C))=(text [] A++b)++(w++text tl C) by simp,show(text [] A).length+b.length=(text [] A++b).length by simp,List.take_left]at this;rw[e1,show text [] A++(b++(w++text tl C))=(text [] A++b)++(w++text tl C) by simp,show(text [] A).length+b.length=(text [] A++b).length by simp];exact this
   have hwi:IntKind.i64.wrap ((((text [] A).length+b.length:Nat):Int)+((w.length:Nat):Int))=(((text [] A).length+b.length+w.length:Nat):Int):=by rw[zF (by omega) (by omega)];omega
   have t2:Zn (bs (text tl (A++(b,w)::C))) (((text [] A).length+b.length+w.length:Nat):Int) (((text tl (A++(b,w)::C)).length:Nat):Int)=some (bs (text tl C)):=by
    have:=JX (text tl (A++(b,w)::C)) ((text [] A).length+b.length+w.length) (text tl (A++(b,w)::C)).length (by omega) (by omega);rw[this,List.take_length,e1,show text [] A++(b++(w++text tl C))=(text [] A++b++w)++text tl C by simp,show(text [] A).length+b.length+w.length=(text [] A++b++w).length by simp[Nat.add_assoc],List.drop_left]
   have t3:Zn (bs (text tl (A++(b,w)::C))) (((text [] A).length+b.length:Nat):Int) (((text tl (A++(b,w)::C)).length:Nat):Int)=some (bs (w++text tl C)):=by
    have:=JX (text tl (A++(b,w)::C)) ((text [] A).length+b.length) (text tl (A++(b,w)::C)).length (by omega) (by omega);rw[this,List.take_length,e1,show text [] A++(b++(w++text tl C))=(text [] A++b)++(w++text tl C) by simp,show(text [] A).length+b.length=(text [] A++b).length by simp,List.drop_left]
   have fin:∀v:List UInt8,(∃p a e,Zt (bs v)=some (p,a,e)∧0≤a∧a≤((v.length:Nat):Int)∧(e=1→(((text [] A).length+b.length:Nat):Int)≤a))→
     ((Zt (bs v)).bind fun y56=>if(decide (y56.2.2=(1:Int)))then some ((decide ((((text [] A).length+b.length:Nat):Int)≤y56.2.1))||(decide (((ByteArray.size (bs v):Nat):Int)≤y56.2.1)))else some ((decide ((0:Int)≤y56.2.1))&&(decide (y56.2.1≤((ByteArray.size (bs v):Nat):Int)))):Option Bool)=some true:=by
    rintro v ⟨p,a,e,g1,g2,g3,g4⟩
    rw[g1];simp only[Option.bind_some,zE];by_cases he:e=1
    ·rw[decide_eq_true he,decide_eq_true (g4 he)];rfl
    ·rw[decide_eq_false he,decide_eq_true g2,decide_eq_true g3];rfl
   have fb:∀(u:List UInt8) x,fol x (text tl ((b,w)::C))→fol x (b++32::u):=fun u x hx=>by
    cases b with
    |nil=>exact qL rfl
    |cons c b=>exact qqk rfl hx
   have hb32:∀c∈b++[32],blk c=true:=fun c hc=>(List.mem_append.1 hc).elim (hb c) (b32 c);simp only[zE,t1,Option.bind_some,hwi,t2,t3,show(⟨#[32]⟩:ByteArray)=bs [32] from rfl,show(⟨#[32,100,101,97,100,108,105,110,101,32]⟩:ByteArray)=bs ([32]++zQ++[32]) from rfl];by_cases c0:Int.tmod a2 3=0
   ·rw[decide_eq_true c0];simp only[if_true];rw[qt _ _ (by simp;omega)];simp only[Option.bind_some];rw[qt _ _ (by simp;omega)];simp only[Option.bind_some];refine fin _ ?_;obtain⟨tl',C',q1,q2,q3,q4⟩:=bl_ahead hb32 hCp hNC';have:=zzk hok hNA hD q2 q3 (by simp at q4;omega) (fun x hx=>by rw[←q1,List.append_assoc];exact fb _ x hx);rw[←q1]at this;simpa using this
   ·rw[decide_eq_false c0];simp only[Bool.false_eq_true,if_false];by_cases c1:Int.tmod a2 3=1
    ·rw[decide_eq_true c1];simp only[if_true];rw[qt _ _ (by simp;omega)];simp only[Option.bind_some];rw[qt _ _ (by simp;omega)];simp only[Option.bind_some];rw[qt _ _ (by simp;omega)];simp only[Option.bind_some];refine fin _ ?_;have:=zzk hok hNA hD (tl':=tl) (D:=(b,w)::([32],w)::C) ⟨hb,hw,qL rfl,b32,hw,hf,hCp⟩ (fun p hp=>by
      rcases List.mem_cons.1 hp with rfl|hp
      ·exact hNw
      ·rcases List.mem_cons.1 hp with rfl|hp
       ·exact hNw
       ·exact hNC' p hp) (Nat.le_refl _) (fun x hx=>by
      obtain⟨c,u,rfl,_⟩:=hw.cons;refine qqk ?_ hx;cases b<;>rfl)
     simpa [text] using this
    ·rw[decide_eq_false c1];simp only[Bool.false_eq_true,if_false];rw[qt _ _ (by simp;omega)];simp only[Option.bind_some];rw[qt _ _ (by simp;omega)];simp only[Option.bind_some];refine fin _ ?_;obtain⟨tl',C',q1,q2,q3,q4⟩:=bl_ahead b32 hCp hNC';have:=zzk hok hNA hD (tl':=tl') (D:=(b++[32],zQ)::C') ⟨hb32,.nm 100 _ (by decide) (by decide),by rw[←q1];exact qL rfl,q2⟩ (fun p hp=>by
      rcases List.mem_cons.1 hp with rfl|hp
      ·exact(congrArg Prod.snd (Jy (w:=zQ) (by decide)):)
      ·exact q3 p hp) (by simp[hd]) (fun x hx=>by
      rw[text,List.append_assoc];exact fb _ x hx)
     rw[text,←q1]at this;simpa using this
end Go.Proofs.Ytohmmfimedgccaa.E
end
section
namespace Go.Proofs.Ytohmmfimedgccaa.E
set_option linter.unusedVariables false
set_option linter.unusedSimpArgs false
set_option maxRecDepth 100000
section
variable {P:Go.Program} {t e:TypeId}
theorem RO.congr {α:Type}{f g:α→List PV}{G:α→Prop}{n:Nat}(h:RO P t f G n)(hf:∀x,g x=f x):RO P t g G n:=fun H enc w base spare held m hm cs r hr hw=>let ⟨x,h1,h2⟩:=h H enc w base spare held m hm cs r hr hw;⟨x,by rw[hf];exact h1,h2⟩
theorem ro_zero {α:Type}(f:α→List PV)(G:α→Prop):RO P t f G 0:=by
 intro H enc w base spare held m hm cs r hr;obtain rfl:m=0:=by omega
 simp[DataW.trod]at hr
theorem Zd (ht:P.underlying t=some (.int .i64))(n:Nat):RO P t (fun x:Int=>[.v (.int .i64 x)]) (fun x=>I64 x) n:=(ro_int ht n).imp fun x h=>by
 simp only[Lit.wf,Bool.and_eq_true,decide_eq_true_eq,IntKind.min,IntKind.max,IntKind.signed,IntKind.bits,if_true,Bool.false_eq_true,if_false]at h;unfold I64;omega
theorem ro_u8 (ht:P.underlying t=some (.int .u8))(n:Nat):RO P t (fun x:Int=>[.v (.int .u8 x)]) (fun x=>U8 x) n:=(ro_int ht n).imp fun x h=>by
 simp only[Lit.wf,Bool.and_eq_true,decide_eq_true_eq,IntKind.min,IntKind.max,IntKind.signed,IntKind.bits,if_true,Bool.false_eq_true,if_false]at h;unfold U8;omega
theorem Yx (ht:P.underlying t=some .string)(n:Nat):RO P t (fun x:ByteArray=>[.v (.string x)]) (fun x=>ByteArray.size x≤140737488351232) n:=ro_string ht n
theorem ro_sl {α:Type}{f:α→List PV}{G:α→Prop}{n sz B:Nat}(ht:P.underlying t=some (.slice e))(hsz:P.cellsOf e=sz)(hb:P.bytesOf e=B)(hf:∀x,(f x).length=sz)(h:RO P e f G n):RO P t (fun xs:List α=>[.sl (xs.map f)]) (fun xs=>xs.length*B≤140737488351232∧∀x∈xs,G x) (n+1):=by
 subst hb;exact ro_slice ht hsz hf h
end
theorem ro_Expr:∀n,RO Try.prog 39 Expr.cl Expr.ok n
 |0=>ro_zero _ _
 | n + 1 => (Je (f := (fun x : Int × ByteArray × Int × Int × (List Expr) × Int => (fun x : Int => [(PV.v (.int .i64 x))]) x.1 ++ (fun x : ByteArray × Int × Int × (List Expr) × Int => (fun x : ByteArray => [(PV.v (.string x))]) x.1 ++ (fun x : Int × Int × (List Expr) × Int => (fun x : Int => [(PV.v (.int .i64 x))]) x.1 ++ (fun x : Int × (List Expr) × Int => (fun x : Int => [(PV.v (.int .i64 x))]) x.1 ++ (fun x : (List Expr) × Int => (fun x : (List Expr) => [(PV.sl (Expr.rows x))]) x.1 ++ (fun x : Int => [(PV.v (.int .i64 x))]) x.2) x.2) x.2) x.2) x.2)) (G := (fun x : Int × ByteArray × Int × Int × (List Expr) × Int => (fun x : Int => I64 x) x.1 ∧ (fun x : ByteArray × Int × Int × (List Expr) × Int => (fun x : ByteArray => ByteArray.size x ≤ 140737488351232) x.1 ∧ (fun x : Int × Int × (List Expr) × Int => (fun x : Int => I64 x) x.1 ∧ (fun x : Int × (List Expr) × Int => (fun x : Int => I64 x) x.1 ∧ (fun x : (List Expr) × Int => (fun x : (List Expr) => List.length x * 72 ≤ 140737488351232 ∧ ∀ y ∈ x, Expr.ok y) x.1 ∧ (fun x : Int => I64 x) x.2) x.2) x.2) x.2) x.2)) (fun y : Int × ByteArray × Int × Int × (List Expr) × Int => (⟨y.1, y.2.1, y.2.2.1, y.2.2.2.1, y.2.2.2.2.1, y.2.2.2.2.2⟩ : Expr)) (fun _ => rfl) Try.underlying39 (zu (o' := 1) (f := (fun x : Int => [(PV.v (.int .i64 x))])) (f' := (fun x : ByteArray × Int × Int × (List Expr) × Int => (fun x : ByteArray => [(PV.v (.string x))]) x.1 ++ (fun x : Int × Int × (List Expr) × Int => (fun x : Int => [(PV.v (.int .i64 x))]) x.1 ++ (fun x : Int × (List Expr) × Int => (fun x : Int => [(PV.v (.int .i64 x))]) x.1 ++ (fun x : (List Expr) × Int => (fun x : (List Expr) => [(PV.sl (Expr.rows x))]) x.1 ++ (fun x : Int => [(PV.v (.int .i64 x))]) x.2) x.2) x.2) x.2)) (G := (fun x : Int => I64 x)) (G' := (fun x : ByteArray × Int × Int × (List Expr) × Int => (fun x : ByteArray => ByteArray.size x ≤ 140737488351232) x.1 ∧ (fun x : Int × Int × (List Expr) × Int => (fun x : Int => I64 x) x.1 ∧ (fun x : Int × (List Expr) × Int => (fun x : Int => I64 x) x.1 ∧ (fun x : (List Expr) × Int => (fun x : (List Expr) => List.length x * 72 ≤ 140737488351232 ∧ ∀ y ∈ x, Expr.ok y) x.1 ∧ (fun x : Int => I64 x) x.2) x.2) x.2) x.2)) rfl (by kernel_rfl) (Zd Try.underlying3 n) (zu (o' := 2) (f := (fun x : ByteArray => [(PV.v (.string x))])) (f' := (fun x : Int × Int × (List Expr) × Int => (fun x : Int => [(PV.v (.int .i64 x))]) x.1 ++ (fun x : Int × (List Expr) × Int => (fun x : Int => [(PV.v (.int .i64 x))]) x.1 ++ (fun x : (List Expr) × Int => (fun x : (List Expr) => [(PV.sl (Expr.rows x))]) x.1 ++ (fun x : Int => [(PV.v (.int .i64 x))]) x.2) x.2) x.2)) (G := (fun x : ByteArray => ByteArray.size x ≤ 140737488351232)) (G' := (fun x : Int × Int × (List Expr) × Int => (fun x : Int => I64 x) x.1 ∧ (fun x : Int × (List Expr) × Int => (fun x : Int => I64 x) x.1 ∧ (fun x : (List Expr) × Int => (fun x : (List Expr) => List.length x * 72 ≤ 140737488351232 ∧ ∀ y ∈ x, Expr.ok y) x.1 ∧ (fun x : Int => I64 x) x.2) x.2) x.2)) rfl (by kernel_rfl) (Yx Try.underlying9 n) (zu (o' := 3) (f := (fun x : Int => [(PV.v (.int .i64 x))])) (f' := (fun x : Int × (List Expr) × Int => (fun x : Int => [(PV.v (.int .i64 x))]) x.1 ++ (fun x : (List Expr) × Int => (fun x : (List Expr) => [(PV.sl (Expr.rows x))]) x.1 ++ (fun x : Int => [(PV.v (.int .i64 x))]) x.2) x.2)) (G := (fun x : Int => I64 x)) (G' := (fun x : Int × (List Expr) × Int => (fun x : Int => I64 x) x.1 ∧ (fun x : (List Expr) × Int => (fun x : (List Expr) => List.length x * 72 ≤ 140737488351232 ∧ ∀ y ∈ x, Expr.ok y) x.1 ∧ (fun x : Int => I64 x) x.2) x.2)) rfl (by kernel_rfl) (Zd Try.underlying2 n) (zu (o' := 4) (f := (fun x : Int => [(PV.v (.int .i64 x))])) (f' := (fun x : (List Expr) × Int => (fun x : (List Expr) => [(PV.sl (Expr.rows x))]) x.1 ++ (fun x : Int => [(PV.v (.int .i64 x))]) x.2)) (G := (fun x : Int => I64 x)) (G' := (fun x : (List Expr) × Int => (fun x : (List Expr) => List.length x * 72 ≤ 140737488351232 ∧ ∀ y ∈ x, Expr.ok y) x.1 ∧ (fun x : Int => I64 x) x.2)) rfl (by kernel_rfl) (Zd Try.underlying2 n) (zu (o' := 5) (f := (fun x : (List Expr) => [(PV.sl (Expr.rows x))])) (f' := (fun x : Int => [(PV.v (.int .i64 x))])) (G := (fun x : (List Expr) => List.length x * 72 ≤ 140737488351232 ∧ ∀ y ∈ x, Expr.ok y)) (G' := (fun x : Int => I64 x)) rfl (by kernel_rfl) (RO.congr (RO.down (ro_sl (B := 72) (sz := 6) Try.underlying37 (by kernel_rfl) (by kernel_rfl) (fun _ => rfl) (ro_Expr n)) (Nat.le_succ _)) (fun x => by rw [Expr.rows_eq])) (Yj (f := (fun x : Int => [(PV.v (.int .i64 x))])) (G := (fun x : Int => I64 x)) rfl (by kernel_rfl) (Zd Try.underlying3 n)))))))).imp fun x ⟨y, hy, hg⟩ => by
  subst hy;exact .mk hg.1 hg.2.1 hg.2.2.1 hg.2.2.2.1 hg.2.2.2.2.1.1 hg.2.2.2.2.1.2 hg.2.2.2.2.2
theorem ro_Node (n:Nat):RO Try.prog 99 Node.cl Node.ok n:=RO.down ((Je (f:=(fun x:ByteArray×(List ByteArray)×Int×Expr×Int=>(fun x:ByteArray=>[(PV.v (.string x))]) x.1++(fun x:(List ByteArray)×Int×Expr×Int=>(fun x:(List ByteArray)=>[(PV.sl (List.map C_s x))]) x.1++(fun x:Int×Expr×Int=>(fun x:Int=>[(PV.v (.int .i64 x))]) x.1++(fun x:Expr×Int=>Expr.cl x.1++(fun x:Int=>[(PV.v (.int .i64 x))]) x.2) x.2) x.2) x.2)) (G:=(fun x:ByteArray×(List ByteArray)×Int×Expr×Int=>(fun x:ByteArray=>ByteArray.size x≤140737488351232) x.1∧(fun x:(List ByteArray)×Int×Expr×Int=>(fun x:(List ByteArray)=>List.length x*16≤140737488351232∧∀y∈x,ByteArray.size y≤140737488351232) x.1∧(fun x:Int×Expr×Int=>(fun x:Int=>I64 x) x.1∧(fun x:Expr×Int=>Expr.ok x.1∧(fun x:Int=>I64 x) x.2) x.2) x.2) x.2)) (fun y:ByteArray×(List ByteArray)×Int×Expr×Int=>(⟨y.1,y.2.1,y.2.2.1,y.2.2.2.1,y.2.2.2.2⟩:Node)) (fun _=>rfl) Try.underlying99 (zu (o':=1) (f:=(fun x:ByteArray=>[(PV.v (.string x))])) (f':=(fun x:(List ByteArray)×Int×Expr×Int=>(fun x:(List ByteArray)=>[(PV.sl (List.map C_s x))]) x.1++(fun x:Int×Expr×Int=>(fun x:Int=>[(PV.v (.int .i64 x))]) x.1++(fun x:Expr×Int=>Expr.cl x.1++(fun x:Int=>[(PV.v (.int .i64 x))]) x.2) x.2) x.2)) (G:=(fun x:ByteArray=>ByteArray.size x≤140737488351232)) (G':=(fun x:(List ByteArray)×Int×Expr×Int=>(fun x:(List ByteArray)=>List.length x*16≤140737488351232∧∀y∈x,ByteArray.size y≤140737488351232) x.1∧(fun x:Int×Expr×Int=>(fun x:Int=>I64 x) x.1∧(fun x:Expr×Int=>Expr.ok x.1∧(fun x:Int=>I64 x) x.2) x.2) x.2)) rfl (by kernel_rfl) (Yx Try.underlying9 n) (zu (o':=2) (f:=(fun x:(List ByteArray)=>[(PV.sl (List.map C_s x))])) (f':=(fun x:Int×Expr×Int=>(fun x:Int=>[(PV.v (.int .i64 x))]) x.1++(fun x:Expr×Int=>Expr.cl x.1++(fun x:Int=>[(PV.v (.int .i64 x))]) x.2) x.2)) (G:=(fun x:(List ByteArray)=>List.length x*16≤140737488351232∧∀y∈x,ByteArray.size y≤140737488351232)) (G':=(fun x:Int×Expr×Int=>(fun x:Int=>I64 x) x.1∧(fun x:Expr×Int=>Expr.ok x.1∧(fun x:Int=>I64 x) x.2) x.2)) rfl (by kernel_rfl) (RO.down (ro_sl (B:=16) (sz:=1) Try.underlying97 (by kernel_rfl) (by kernel_rfl) (fun _=>rfl) (Yx Try.underlying9 n)) (Nat.le_succ _)) (zu (o':=3) (f:=(fun x:Int=>[(PV.v (.int .i64 x))])) (f':=(fun x:Expr×Int=>Expr.cl x.1++(fun x:Int=>[(PV.v (.int .i64 x))]) x.2)) (G:=(fun x:Int=>I64 x)) (G':=(fun x:Expr×Int=>Expr.ok x.1∧(fun x:Int=>I64 x) x.2)) rfl (by kernel_rfl) (Zd Try.underlying2 n) (zu (o':=9) (f:=Expr.cl) (f':=(fun x:Int=>[(PV.v (.int .i64 x))])) (G:=Expr.ok) (G':=(fun x:Int=>I64 x)) rfl (by kernel_rfl) (ro_Expr n) (Yj (f:=(fun x:Int=>[(PV.v (.int .i64 x))])) (G:=(fun x:Int=>I64 x)) rfl (by kernel_rfl) (Zd Try.underlying3 n))))))).imp fun x ⟨y,hy,hg⟩=>by
 subst hy;exact⟨hg.1,hg.2.1,hg.2.2.1,hg.2.2.2.1,hg.2.2.2.2⟩) (Nat.le_succ n)
theorem ro_Input (n:Nat):RO Try.prog 96 Input.cl Input.ok n:=RO.down ((Je (f:=(fun x:ByteArray×Int×Int×Int=>(fun x:ByteArray=>[(PV.v (.string x))]) x.1++(fun x:Int×Int×Int=>(fun x:Int=>[(PV.v (.int .i64 x))]) x.1++(fun x:Int×Int=>(fun x:Int=>[(PV.v (.int .i64 x))]) x.1++(fun x:Int=>[(PV.v (.int .i64 x))]) x.2) x.2) x.2)) (G:=(fun x:ByteArray×Int×Int×Int=>(fun x:ByteArray=>ByteArray.size x≤140737488351232) x.1∧(fun x:Int×Int×Int=>(fun x:Int=>I64 x) x.1∧(fun x:Int×Int=>(fun x:Int=>I64 x) x.1∧(fun x:Int=>I64 x) x.2) x.2) x.2)) (fun y:ByteArray×Int×Int×Int=>(⟨y.1,y.2.1,y.2.2.1,y.2.2.2⟩:Input)) (fun _=>rfl) Try.underlying96 (zu (o':=1) (f:=(fun x:ByteArray=>[(PV.v (.string x))])) (f':=(fun x:Int×Int×Int=>(fun x:Int=>[(PV.v (.int .i64 x))]) x.1++(fun x:Int×Int=>(fun x:Int=>[(PV.v (.int .i64 x))]) x.1++(fun x:Int=>[(PV.v (.int .i64 x))]) x.2) x.2)) (G:=(fun x:ByteArray=>ByteArray.size x≤140737488351232)) (G':=(fun x:Int×Int×Int=>(fun x:Int=>I64 x) x.1∧(fun x:Int×Int=>(fun x:Int=>I64 x) x.1∧(fun x:Int=>I64 x) x.2) x.2)) rfl (by kernel_rfl) (Yx Try.underlying9 n) (zu (o':=2) (f:=(fun x:Int=>[(PV.v (.int .i64 x))])) (f':=(fun x:Int×Int=>(fun x:Int=>[(PV.v (.int .i64 x))]) x.1++(fun x:Int=>[(PV.v (.int .i64 x))]) x.2)) (G:=(fun x:Int=>I64 x)) (G':=(fun x:Int×Int=>(fun x:Int=>I64 x) x.1∧(fun x:Int=>I64 x) x.2)) rfl (by kernel_rfl) (Zd Try.underlying2 n) (zu (o':=3) (f:=(fun x:Int=>[(PV.v (.int .i64 x))])) (f':=(fun x:Int=>[(PV.v (.int .i64 x))])) (G:=(fun x:Int=>I64 x)) (G':=(fun x:Int=>I64 x)) rfl (by kernel_rfl) (Zd Try.underlying2 n) (Yj (f:=(fun x:Int=>[(PV.v (.int .i64 x))])) (G:=(fun x:Int=>I64 x)) rfl (by kernel_rfl) (Zd Try.underlying3 n)))))).imp fun x ⟨y,hy,hg⟩=>by
 subst hy;exact⟨hg.1,hg.2.1,hg.2.2.1,hg.2.2.2⟩) (Nat.le_succ n)
theorem ro_Flow (n:Nat):RO Try.prog 41 Flow.cl Flow.ok n:=RO.down ((Je (f:=(fun x:ByteArray×Expr×Int=>(fun x:ByteArray=>[(PV.v (.string x))]) x.1++(fun x:Expr×Int=>Expr.cl x.1++(fun x:Int=>[(PV.v (.int .i64 x))]) x.2) x.2)) (G:=(fun x:ByteArray×Expr×Int=>(fun x:ByteArray=>ByteArray.size x≤140737488351232) x.1∧(fun x:Expr×Int=>Expr.ok x.1∧(fun x:Int=>I64 x) x.2) x.2)) (fun y:ByteArray×Expr×Int=>(⟨y.1,y.2.1,y.2.2⟩:Flow)) (fun _=>rfl) Try.underlying41 (zu (o':=1) (f:=(fun x:ByteArray=>[(PV.v (.string x))])) (f':=(fun x:Expr×Int=>Expr.cl x.1++(fun x:Int=>[(PV.v (.int .i64 x))]) x.2)) (G:=(fun x:ByteArray=>ByteArray.size x≤140737488351232)) (G':=(fun x:Expr×Int=>Expr.ok x.1∧(fun x:Int=>I64 x) x.2)) rfl (by kernel_rfl) (Yx Try.underlying9 n) (zu (o':=7) (f:=Expr.cl) (f':=(fun x:Int=>[(PV.v (.int .i64 x))])) (G:=Expr.ok) (G':=(fun x:Int=>I64 x)) rfl (by kernel_rfl) (ro_Expr n) (Yj (f:=(fun x:Int=>[(PV.v (.int .i64 x))])) (G:=(fun x:Int=>I64 x)) rfl (by kernel_rfl) (Zd Try.underlying3 n))))).imp fun x ⟨y,hy,hg⟩=>by
 subst hy;exact⟨hg.1,hg.2.1,hg.2.2⟩) (Nat.le_succ n)
theorem ro_Output (n:Nat):RO Try.prog 65 Output.cl Output.ok n:=RO.down ((Je (f:=(fun x:ByteArray×ByteArray×Int×Int=>(fun x:ByteArray=>[(PV.v (.string x))]) x.1++(fun x:ByteArray×Int×Int=>(fun x:ByteArray=>[(PV.v (.string x))]) x.1++(fun x:Int×Int=>(fun x:Int=>[(PV.v (.int .i64 x))]) x.1++(fun x:Int=>[(PV.v (.int .i64 x))]) x.2) x.2) x.2)) (G:=(fun x:ByteArray×ByteArray×Int×Int=>(fun x:ByteArray=>ByteArray.size x≤140737488351232) x.1∧(fun x:ByteArray×Int×Int=>(fun x:ByteArray=>ByteArray.size x≤140737488351232) x.1∧(fun x:Int×Int=>(fun x:Int=>I64 x) x.1∧(fun x:Int=>I64 x) x.2) x.2) x.2)) (fun y:ByteArray×ByteArray×Int×Int=>(⟨y.1,y.2.1,y.2.2.1,y.2.2.2⟩:Output)) (fun _=>rfl) Try.underlying65 (zu (o':=1) (f:=(fun x:ByteArray=>[(PV.v (.string x))])) (f':=(fun x:ByteArray×Int×Int=>(fun x:ByteArray=>[(PV.v (.string x))]) x.1++(fun x:Int×Int=>(fun x:Int=>[(PV.v (.int .i64 x))]) x.1++(fun x:Int=>[(PV.v (.int .i64 x))]) x.2) x.2)) (G:=(fun x:ByteArray=>ByteArray.size x≤140737488351232)) (G':=(fun x:ByteArray×Int×Int=>(fun x:ByteArray=>ByteArray.size x≤140737488351232) x.1∧(fun x:Int×Int=>(fun x:Int=>I64 x) x.1∧(fun x:Int=>I64 x) x.2) x.2)) rfl (by kernel_rfl) (Yx Try.underlying9 n) (zu (o':=2) (f:=(fun x:ByteArray=>[(PV.v (.string x))])) (f':=(fun x:Int×Int=>(fun x:Int=>[(PV.v (.int .i64 x))]) x.1++(fun x:Int=>[(PV.v (.int .i64 x))]) x.2)) (G:=(fun x:ByteArray=>ByteArray.size x≤140737488351232)) (G':=(fun x:Int×Int=>(fun x:Int=>I64 x) x.1∧(fun x:Int=>I64 x) x.2)) rfl (by kernel_rfl) (Yx Try.underlying9 n) (zu (o':=3) (f:=(fun x:Int=>[(PV.v (.int .i64 x))])) (f':=(fun x:Int=>[(PV.v (.int .i64 x))])) (G:=(fun x:Int=>I64 x)) (G':=(fun x:Int=>I64 x)) rfl (by kernel_rfl) (Zd Try.underlying2 n) (Yj (f:=(fun x:Int=>[(PV.v (.int .i64 x))])) (G:=(fun x:Int=>I64 x)) rfl (by kernel_rfl) (Zd Try.underlying3 n)))))).imp fun x ⟨y,hy,hg⟩=>by
 subst hy;exact⟨hg.1,hg.2.1,hg.2.2.1,hg.2.2.2⟩) (Nat.le_succ n)
theorem ro_Program (n:Nat):RO Try.prog 27 Program.cl Program.ok n:=RO.down ((Je (f:=(fun x:(List Node)×(List Input)×(List Flow)×(List Output)=>(fun x:(List Node)=>[(PV.sl (List.map Node.cl x))]) x.1++(fun x:(List Input)×(List Flow)×(List Output)=>(fun x:(List Input)=>[(PV.sl (List.map Input.cl x))]) x.1++(fun x:(List Flow)×(List Output)=>(fun x:(List Flow)=>[(PV.sl (List.map Flow.cl x))]) x.1++(fun x:(List Output)=>[(PV.sl (List.map Output.cl x))]) x.2) x.2) x.2)) (G:=(fun x:(List Node)×(List Input)×(List Flow)×(List Output)=>(fun x:(List Node)=>List.length x*128≤140737488351232∧∀y∈x,Node.ok y) x.1∧(fun x:(List Input)×(List Flow)×(List Output)=>(fun x:(List Input)=>List.length x*40≤140737488351232∧∀y∈x,Input.ok y) x.1∧(fun x:(List Flow)×(List Output)=>(fun x:(List Flow)=>List.length x*96≤140737488351232∧∀y∈x,Flow.ok y) x.1∧(fun x:(List Output)=>List.length x*48≤140737488351232∧∀y∈x,Output.ok y) x.2) x.2) x.2)) (fun y:(List Node)×(List Input)×(List Flow)×(List Output)=>(⟨y.1,y.2.1,y.2.2.1,y.2.2.2⟩:Program)) (fun _=>rfl) Try.underlying27 (zu (o':=1) (f:=(fun x:(List Node)=>[(PV.sl (List.map Node.cl x))])) (f':=(fun x:(List Input)×(List Flow)×(List Output)=>(fun x:(List Input)=>[(PV.sl (List.map Input.cl x))]) x.1++(fun x:(List Flow)×(List Output)=>(fun x:(List Flow)=>[(PV.sl (List.map Flow.cl x))]) x.1++(fun x:(List Output)=>[(PV.sl (List.map Output.cl x))]) x.2) x.2)) (G:=(fun x:(List Node)=>List.length x*128≤140737488351232∧∀y∈x,Node.ok y)) (G':=(fun x:(List Input)×(List Flow)×(List Output)=>(fun x:(List Input)=>List.length x*40≤140737488351232∧∀y∈x,Input.ok y) x.1∧(fun x:(List Flow)×(List Output)=>(fun x:(List Flow)=>List.length x*96≤140737488351232∧∀y∈x,Flow.ok y) x.1∧(fun x:(List Output)=>List.length x*48≤140737488351232∧∀y∈x,Output.ok y) x.2) x.2)) rfl (by kernel_rfl) (RO.down (ro_sl (B:=128) (sz:=10) Try.underlying22 (by kernel_rfl) (by kernel_rfl) (fun _=>rfl) (ro_Node n)) (Nat.le_succ _)) (zu (o':=2) (f:=(fun x:(List Input)=>[(PV.sl (List.map Input.cl x))])) (f':=(fun x:(List Flow)×(List Output)=>(fun x:(List Flow)=>[(PV.sl (List.map Flow.cl x))]) x.1++(fun x:(List Output)=>[(PV.sl (List.map Output.cl x))]) x.2)) (G:=(fun x:(List Input)=>List.length x*40≤140737488351232∧∀y∈x,Input.ok y)) (G':=(fun x:(List Flow)×(List Output)=>(fun x:(List Flow)=>List.length x*96≤140737488351232∧∀y∈x,Flow.ok y) x.1∧(fun x:(List Output)=>List.length x*48≤140737488351232∧∀y∈x,Output.ok y) x.2)) rfl (by kernel_rfl) (RO.down (ro_sl (B:=40) (sz:=4) Try.underlying23 (by kernel_rfl) (by kernel_rfl) (fun _=>rfl) (ro_Input n)) (Nat.le_succ _)) (zu (o':=3) (f:=(fun x:(List Flow)=>[(PV.sl (List.map Flow.cl x))])) (f':=(fun x:(List Output)=>[(PV.sl (List.map Output.cl x))])) (G:=(fun x:(List Flow)=>List.length x*96≤140737488351232∧∀y∈x,Flow.ok y)) (G':=(fun x:(List Output)=>List.length x*48≤140737488351232∧∀y∈x,Output.ok y)) rfl (by kernel_rfl) (RO.down (ro_sl (B:=96) (sz:=8) Try.underlying24 (by kernel_rfl) (by kernel_rfl) (fun _=>rfl) (ro_Flow n)) (Nat.le_succ _)) (Yj (f:=(fun x:(List Output)=>[(PV.sl (List.map Output.cl x))])) (G:=(fun x:(List Output)=>List.length x*48≤140737488351232∧∀y∈x,Output.ok y)) rfl (by kernel_rfl) (RO.down (ro_sl (B:=48) (sz:=4) Try.underlying25 (by kernel_rfl) (by kernel_rfl) (fun _=>rfl) (ro_Output n)) (Nat.le_succ _))))))).imp fun x ⟨y,hy,hg⟩=>by
 subst hy;exact⟨hg.1,hg.2.1,hg.2.2.1,hg.2.2.2⟩) (Nat.le_succ n)
end Go.Proofs.Ytohmmfimedgccaa.E
end
section
namespace Go.Proofs.Ytohmmfimedgccaa.syntaxPlaces
open Go.ChangeShapes Go.WideShapes Go.ChangeAt Go.RowKit
theorem own:ownKnob Try.prog.godebug=none:=by kernel_rfl
theorem laidOut:laidOutB Try.prog=true:=by kernel_rfl
set_option maxRecDepth 100000 in
theorem lifted (os:Os)(started:os.Started)(H:Type)(enc:TypeId×Value→H):
  ReturnsInHanded {} Try.checked os 7 .any (Rows.syntaxPlacesSpec.pre6 enc Try.prog Try.f7 Rows.syntaxPlacesRow.domain false) (Rows.syntaxPlacesSpec.post enc Try.prog Try.f7 false true false false):=by
 refine returnsInHanded_of_change_sized (C:=Try.checked) own started (by kernel_rfl) Try.func7
  (ChangeSpec.witness6 (enc:=enc) (C:=Try.checked) false ⟨#[],#[.agg #[.slice none 0 0,.slice none 0 0,.slice none 0 0,.slice none 0 0],.int .u8 0,.int .u8 0],[]⟩ 8 (by kernel_rfl) (by kernel_rfl) (by kernel_rfl) (by kernel_rfl)) ?_
 intro W base args ds gs before hval0 hW hcnd hsz0 _;have hval:∀(j:Nat) t v,Try.f7.params[j]? =some t→args[j]? =some v→Value.okWide Try.prog W .any base t v:=hval0;have hW':=hW;obtain⟨p,q,hA0,hV,rfl,hfz,hnd⟩:=hW;have hA:DataW.TrodAll enc Try.prog W 0 (fun _=>true) true Try.f7.params.toList args.toList ds p:=hA0;rw[Try.params7]at hA hval;obtain⟨v0,vs0,d0,ds0,p0,q0,hargs,rfl,rfl,h0,r0⟩:=trodAll_cons hA;obtain⟨v1,vs1,d1,ds1,p1,q1,rfl,rfl,rfl,h1,r1⟩:=trodAll_cons r0;obtain⟨v2,vs2,d2,ds2,p2,q2,rfl,rfl,rfl,h2,r2⟩:=trodAll_cons r1;obtain⟨rfl,rfl,rfl⟩:=trodAll_nil r2;obtain rfl:args= #[v0,v1,v2]:=by cases args;simp_all
 obtain⟨rfl,rfl⟩:=trodVars_none hV;have k0:=h0;have lt0:∀x∈p0,x.block<W.heap.size:=by obtain⟨m,hm⟩:=k0;exact DataW.trod_lt m _ _ _ hm
 obtain⟨x0,y0,z0⟩:=E.arg_agg Try.underlying27 (hval 0 27 v0 rfl rfl) E.ro_Program h0 (fun x hx=>of_decide_eq_true (List.all_eq_true.1 hsz0 x (DataW.weights_mem_each (j:=0) rfl rfl x hx)));have k1:=h1;have lt1:∀x∈p1,x.block<W.heap.size:=by obtain⟨m,hm⟩:=k1;exact DataW.trod_lt m _ _ _ hm
 obtain⟨x1,y1,z1⟩:=E.arg_one (f:=fun x:Int=>E.PV.v (.int .u8 x)) (by obtain⟨n,rfl⟩:=okWide_int Try.underlying5 (hval 1 5 v1 rfl rfl);rfl) (fun n=>E.ro_u8 Try.underlying5 n) h1 (fun x hx=>of_decide_eq_true (List.all_eq_true.1 hsz0 x (DataW.weights_mem_each (j:=1) rfl rfl x hx)));have k2:=h2;have lt2:∀x∈p2,x.block<W.heap.size:=by obtain⟨m,hm⟩:=k2;exact DataW.trod_lt m _ _ _ hm
 obtain⟨x2,y2,z2⟩:=E.arg_one (f:=fun x:Int=>E.PV.v (.int .u8 x)) (by obtain⟨n,rfl⟩:=okWide_int Try.underlying5 (hval 2 5 v2 rfl rfl);rfl) (fun n=>E.ro_u8 Try.underlying5 n) h2 (fun x hx=>of_decide_eq_true (List.all_eq_true.1 hsz0 x (DataW.weights_mem_each (j:=2) rfl rfl x hx)));clear hA0 hval0 hsz0;refine(E.law_calls Try.func7 rfl rfl (fun K hK=>E.s_law x0 x1 x2 true (E.v_law x0 z0 x1 z1 x2 z2) [] K hK) ⟨rfl,fun i x p hx hp=>by match i,hx,hp with|0,hx,hp=>obtain rfl:=Option.some.inj hx;obtain rfl:=Option.some.inj hp;exact y0|1,hx,hp=>obtain rfl:=Option.some.inj hx;obtain rfl:=Option.some.inj hp;exact y1|2,hx,hp=>obtain rfl:=Option.some.inj hx;obtain rfl:=Option.some.inj hp;exact y2|i+3,hx,_=>simp at hx⟩).mono fun e W' ⟨he,bel⟩=> ?_;subst he;exact⟨_,rfl,_,_,_,[],_,[],hW',trodAll_mk1 (shut_bool Try.underlying4 _),(trodAll_cons_mk (Below.trod laidOut (by kernel_rfl) (of_decide_eq_true (by kernel_rfl)) k0 bel lt0) (trodAll_cons_mk (Below.trod laidOut (by kernel_rfl) (of_decide_eq_true (by kernel_rfl)) k1 bel lt1) (trodAll_cons_mk (Below.trod laidOut (by kernel_rfl) (of_decide_eq_true (by kernel_rfl)) k2 bel lt2) trodAll_mk0))),rfl,bel.frame _,fun h=>by cases h⟩
theorem over:Rows.syntaxPlacesRow.holds Try.pinned (OpenSpec.ofChange Rows.syntaxPlacesSpec):=
 OpenClaim.holds_of_wide 7 Try.f7 rfl rfl rfl rfl rfl rfl rfl ⟨rfl,rfl,rfl,rfl,rfl⟩ rfl rfl rfl rfl rfl (by kernel_rfl) Try.func7 (by kernel_rfl)
  (of_decide_eq_true (by kernel_rfl)) (by unfold Func.isWrapper;first|(rw[if_pos (by decide+kernel)];kernel_rfl)|(rw[if_neg (by decide+kernel)];exact⟨rfl,rfl⟩))
  (fun os started H enc _=>lifted os started H enc)
theorem proved:Rows.SyntaxPlacesSaid:=over
end Go.Proofs.Ytohmmfimedgccaa.syntaxPlaces
namespace Go.Proofs.Ytohmmfimedgccaa
theorem syntaxPlaces_holds:Rows.SyntaxPlacesSaid:=syntaxPlaces.proved
end Go.Proofs.Ytohmmfimedgccaa
end
