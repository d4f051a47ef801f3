import Derived.ChangeArms
import Derived.DataReads
import Derived.WideShapes
import Derived.Deep.Slices
import Derived.SizedLaws
import Derived.Below
import Derived.OpenShut
import Derived.Test.YtohmmfimedgccaaQS1
/- SyntaxPlaces: a program's text, one token of it cut, doubled or put in another's place, is refused no sooner than there. PART 3 OF 7: EN EO ER TY SG OK PL G107 G109 G110 G108 G111 G112 G113 G126 G78 G77 G34 SA LA LB -/
section
namespace Go.Proofs.Ytohmmfimedgccaa.E
set_option linter.unusedVariables false
set_option linter.unusedSimpArgs false
def mpF {V:Type}(f:V→PV)(g:ByteArray→Option V):Value→Option PV:=fun x=>match x with| .string s=>(g s).map f|_=>none
theorem mpF_str {V:Type}(f:V→PV)(g:ByteArray→Option V)(s:ByteArray):mpF f g (.string s)=(g s).map f:=rfl
inductive WkL:List PV→List PV→Prop
 |nil:WkL [] []
 |cons {p q:PV} {ps qs:List PV}:Wk p q→WkL ps qs→WkL (p::ps) (q::qs)
theorem Wk.of_eq {p q:PV}(h:p=q):Wk p q:=h▸ .refl p
theorem WkL.len {ps qs:List PV}(h:WkL ps qs):ps.length=qs.length:=by
 induction h with
 |nil=>rfl
 |cons h1 h2 ih=>simp[ih]
theorem WkL.get {ps qs:List PV}(h:WkL ps qs):∀(i:Nat) p q,ps[i]? =some p→qs[i]? =some q→Wk p q:=by
 induction h with
 |nil=>intro i p q h1;simp at h1
 | cons h1 h2 ih =>
  intro i p q h3 h4;cases i with
  |zero=>simp at h3 h4;subst h3 h4;exact h1
  |succ i=>exact ih i p q (by simpa using h3) (by simpa using h4)
theorem WkL.refl:∀(ps:List PV),WkL ps ps
 |[]=>.nil
 |p::ps=>.cons (.refl p) (WkL.refl ps)
theorem Wk.agl {ps qs:List PV}(h:WkL ps qs):Wk (.ag ps) (.ag qs):=.ag h.len h.get
theorem Wk.tul {ps qs:List PV}(h:WkL ps qs):Wk (.tu ps) (.tu qs):=.tu h.len h.get
inductive WkLL:List (List PV)→List (List PV)→Prop
 |nil:WkLL [] []
 |cons {r q:List PV} {rs qs:List (List PV)}:WkL r q→WkLL rs qs→WkLL (r::rs) (q::qs)
theorem WkLL.len {ps qs:List (List PV)}(h:WkLL ps qs):ps.length=qs.length:=by
 induction h with
 |nil=>rfl
 |cons h1 h2 ih=>simp[ih]
theorem WkLL.get {ps qs:List (List PV)}(h:WkLL ps qs):∀(i:Nat) p q,ps[i]? =some p→qs[i]? =some q→WkL p q:=by
 induction h with
 |nil=>intro i p q h1;simp at h1
 | cons h1 h2 ih =>
  intro i p q h3 h4;cases i with
  |zero=>simp at h3 h4;subst h3 h4;exact h1
  |succ i=>exact ih i p q (by simpa using h3) (by simpa using h4)
theorem Wk.sll {ps qs:List (List PV)}(h:WkLL ps qs):Wk (.sl ps) (.sl qs):=.sl h.len (fun i r r' h1 h2=>(h.get i r r' h1 h2).len) fun i j r r' p q h1 h2 h3 h4=>(h.get i r r' h1 h2).get j p q h3 h4
theorem Wk.sle {ps qs rs:List (List PV)}(he:qs=rs)(h:WkLL ps qs):Wk (.sl ps) (.sl rs):=he▸Wk.sll h
theorem Wk.owr {t:Nat}{rows:List (List PV)}:Wk (.ow t rows) (.sl rows):=.ow (.refl _)
theorem WkE.upd {e e':Env}{t:Tmp}{p q:PV}(h:WkE e e')(he:e t=p)(hw:Wk p q):WkE e (upd e' (some t) q):=fun x=>by
 rw[Jw];split
 ·rename_i hx;rw[hx,he];exact hw
 ·exact h x
section
variable {P:Program} {T:TypeId→Option TI} {σ σ' s s':Store} {e:Env} {Q:X→Env→Store→Prop}
theorem EC.wka {f:FuncId}{args args':List PV}{K:PV→Store→Prop}(hw:WkL args args')(h:EC P f args' σ K):EC P f args σ K:=
 ⟨h.1,fun F hF μ w vs hs hvs=>h.2 F hF μ w vs hs ⟨by rw[hvs.1,hw.len],fun i x q hx hq=>(hvs.2 i x _ hx (List.getElem?_eq_getElem (by have:=(List.getElem?_eq_some_iff.1 hq).1;have:=hw.len;omega))).wk (hw.get i _ q (List.getElem?_eq_getElem (by have:=(List.getElem?_eq_some_iff.1 hq).1;have:=hw.len;omega)) hq)⟩⟩
theorem CT.mono {f:FuncId}{vs:Array Value}{w:World}{Q Q':Value→World→Prop}(hQ:∀x w,Q x w→Q' x w)(h:CT P f vs w Q):CT P f vs w Q':=by
 rcases h with⟨a,b⟩|⟨x,w',a,b⟩
 ·exact .inl ⟨a,b.mono fun e w' ⟨x,hx,hp⟩=>⟨x,hx,hQ x w' hp⟩⟩
 ·exact .inr ⟨x,w',a,hQ x w' b⟩
theorem EC.wkr {f:FuncId}{args:List PV}{K:PV→Store→Prop}(h:EC P f args σ fun r s=>∃r',Wk r r'∧K r' s):EC P f args σ K:=by
 refine⟨?_,fun F hF μ w vs hs hvs=>(h.2 F hF μ w vs hs hvs).mono fun x w' hx=> ?_⟩
 ·obtain⟨r,s,h1,r',_,h2⟩:=h.1;exact⟨r',s,h1,h2⟩
 ·obtain⟨r,σ',μ',k1,k2,k3,s0,k4,k5,r',k6,k7⟩:=hx;exact⟨r',σ',μ',k1,k2,k3.wk k6,s0,k4,k5,k7⟩
def Cw (I:Env→Store→Prop)(K:X→Env→Store→Prop)(x:X)(e:Env)(s:Store):Prop:=match x with| .nrm=>∃e2 s2,Gh e s e2 s2∧I e2 s2|x=>K x e s
theorem qh {a b:Code}(I:Env→Store→Prop)(h:Ev P T a e s (Cw I Q))(rest:∀e s,I e s→Ev P T b e s Q):Ev P T (.seq a b) e s Q:=
 .of (Qj a (fun x e s hx=>by
  cases x with
  |nrm=>obtain⟨e2,s2,hw,hi⟩:=hx;exact⟨e2,s2,hw,(rest e2 s2 hi).to⟩
  |ext i=>exact hx
  |ret=>exact hx) e s h.to)
def Iq {V W:Type}(I:V→Env→Store→Prop)(x:V⊕W)(r:W)(Q:X→Env→Store→Prop)(y:X)(e:Env)(s:Store):Prop:=match y with
 | .nrm=>∃v',x=.inl v'∧∃e2 s2,Gh e s e2 s2∧I v' e2 s2
 |y=>∃r',x=.inr r'∧(r'=r→Q y e s)
theorem w_iterg {V W:Type}{c:Code}{f:V→Option (V⊕W)}{v:V}{r:W}(h:qA f v=some r)(I:V→Env→Store→Prop)(hI:∃e2 s2,Gh e s e2 s2∧I v e2 s2)
  (step:∀v x e s,f v=some x→I v e s→Ev P T c e s (Iq I x r Q)):Ev P T (.loop c) e s Q:=by
 have main:∀v r',qA f v=some r'→r'=r→∀e s,(∃e2 s2,Gh e s e2 s2∧I v e2 s2)→LpV P T c e s Q:=by
  refine iterO_some (fun v v' r' hf ih hr e s hi=> ?_) (fun v r' hf hr e s hi=> ?_)
  ·obtain⟨e2,s2,hw,hi⟩:=hi;refine .of (Lp.round hw (Qj c (fun y e s hy=> ?_) e2 s2 (step v _ e2 s2 hf hi).to));cases y with
   | nrm =>
    obtain⟨v1,h1,h2⟩:=hy;obtain rfl:=Sum.inl.inj h1;exact(ih hr e s h2).to
   |ext i=>obtain⟨_,h1,_⟩:=hy;cases h1
   |ret=>obtain⟨_,h1,_⟩:=hy;cases h1
  ·obtain⟨e2,s2,hw,hi⟩:=hi;refine .of (Lp.round hw (Qj c (fun y e s hy=> ?_) e2 s2 (step v _ e2 s2 hf hi).to));cases y with
   |nrm=>obtain⟨_,h1,_⟩:=hy;cases h1
   |ext i=>obtain⟨r1,h1,h2⟩:=hy;exact h2 ((Sum.inr.inj h1).symm.trans hr)
   |ret=>obtain⟨r1,h1,h2⟩:=hy;exact h2 ((Sum.inr.inj h1).symm.trans hr)
 exact w_loop (main v r h rfl e s hI)
theorem qX {V W:Type}{c:Code}{f:V→Option (V⊕W)}{v:V}{r:W}(h:qA f v=some r)(I:V→Env→Store→Prop)(hI:∃e2,WkE e e2∧I v e2 s)
  (step:∀v x e s,f v=some x→I v e s→Ev P T c e s (Iq I x r Q)):Ev P T (.loop c) e s Q:=
 let ⟨e2,hw,hi⟩:=hI
 w_iterg h I ⟨e2,s,.wk hw,hi⟩ step
theorem sub_self (s:Store):sub s s=True:=eq_true fun _ _ h=>h
theorem Jx (s l:Store):sub s (s++l)=True:=eq_true fun i o h=>⟨by rw[List.getElem?_append_left (List.getElem?_eq_some_iff.1 h.1).1];exact h.1,h.2⟩
def Pre (σ s:Store):Prop:=∃ex,s=σ++ex
theorem Pre.refl (σ:Store):Pre σ σ:=⟨[],by simp⟩
theorem Pre.app (h:Pre σ s)(x:Store):Pre σ (s++x):=by
 obtain⟨ex,rfl⟩:=h;exact⟨_,List.append_assoc _ _ _⟩
theorem Pre.set (h:Pre σ s){i:Nat}(hi:σ.length≤i)(o:Option AObj):Pre σ (s.set i o):=by
 obtain⟨ex,rfl⟩:=h;exact⟨ex.set (i - σ.length) o,by rw[List.set_append_right _ _ hi]⟩
theorem Pre.le (h:Pre σ s):σ.length≤s.length:=by
 obtain⟨ex,rfl⟩:=h;simp
structure Bx (σ s:Store)(i:Nat)(t:TypeId)(c:List PV):Prop where
 le:σ.length≤i
 get:s[i]? =some (some (.box t c))
variable {i j:Nat} {t:TypeId} {c c':List PV}
theorem Bx.new (h:Pre σ s)(t:TypeId)(c:List PV):Bx σ (s++[some (.box t c)]) s.length t c:=⟨h.le,by simp⟩
theorem Bx.app (h:Bx σ s i t c)(x:Store):Bx σ (s++x) i t c:=⟨h.le,by rw[List.getElem?_append_left (List.getElem?_eq_some_iff.1 h.get).1];exact h.get⟩
theorem Bx.any (h:Bx σ s i t c):∀x,(s++x)[i]? =some (some (.box t c)):=fun x=>(h.app x).get
theorem Bx.any2 (h:Bx σ s i t c):∀x y,(s++x++y)[i]? =some (some (.box t c)):=fun x y=>((h.app x).app y).get
theorem Bx.g3 (h:Bx σ s i t c):s[i]? =some (some (.box t c))∧(∀x,(s++x)[i]? =some (some (.box t c)))∧∀x y,(s++x++y)[i]? =some (some (.box t c)):=⟨h.get,h.any,h.any2⟩
theorem Bx.lt (h:Bx σ s i t c):i<s.length:=(List.getElem?_eq_some_iff.1 h.get).1
theorem Bx.same (h:Bx σ s i t c)(t':TypeId)(c':List PV):Bx σ (s.set i (some (.box t' c'))) i t' c':=⟨h.le,by rw[List.getElem?_set_self h.lt]⟩
theorem Bx.ne (h:Bx σ s i t c)(hne:j≠i)(o:Option AObj):Bx σ (s.set j o) i t c:=⟨h.le,by rw[List.getElem?_set_ne hne];exact h.get⟩
theorem Bx.nea (h:Bx σ s i t c)(hne:j≠i):∀o,(s.set j o)[i]? =some (some (.box t c)):=fun o=>(h.ne hne o).get
theorem Bx.samea (h:Bx σ s i t c):∀o:AObj,(s.set i (some o))[i]? =some (some o):=fun o=>List.getElem?_set_self h.lt
theorem appn2 (s:Store)(a b:Option AObj):(s++[a]++[b])[s.length]? =some a:=by simp
theorem appn3 (s:Store)(a b c:Option AObj):(s++[a]++[b]++[c])[s.length]? =some a:=by simp
def Acc (σ s:Store)(p:PV)(e:TypeId)(sz:Nat)(rows:List (List PV)):Prop:=
 (rows=[]∧(p=.v (.slice none 0 0)∨p=.e0))∨∃t,p=.ow t rows∧σ.length≤t∧s[t]? =some (some (.tok e sz rows.length))
def Keep (p:PV)(s s':Store):Prop:=(∀i o,s[i]? =some (some o)→(∀r,p≠ .ow i r)→s'[i]? =some (some o))∧s.length≤s'.length
variable {p q:PV} {ty:TypeId} {sz:Nat} {rows ns:List (List PV)}
theorem Acc.nil (σ s:Store)(ty:TypeId)(sz:Nat):Acc σ s (.v (.slice none 0 0)) ty sz []:=.inl ⟨rfl,.inl rfl⟩
theorem Acc.e0 (σ s:Store)(ty:TypeId)(sz:Nat):Acc σ s .e0 ty sz []:=.inl ⟨rfl,.inr rfl⟩
theorem Acc.wk (h:Acc σ s p ty sz rows):Wk p (.sl rows):=by
 rcases h with⟨rfl,rfl|rfl⟩|⟨t,rfl,_⟩
 ·exact .nil
 ·exact .e0
 ·exact .owr
theorem Acc.rowsOf (h:Acc σ s p ty sz rows):rowsOf p=some rows:=by
 rcases h with⟨rfl,rfl|rfl⟩|⟨t,rfl,_⟩<;>rfl
theorem Acc.keep (h:Acc σ s p ty sz rows)(k:Keep q s s')(ha:∀t r r',p=.ow t r→q≠ .ow t r'):Acc σ s' p ty sz rows:=by
 rcases h with h|⟨t,h1,h2,h3⟩
 ·exact .inl h
 ·exact .inr ⟨t,h1,h2,k.1 t _ h3 fun r=>ha t _ r h1⟩
theorem Acc.app (h:Acc σ s p ty sz rows)(x:Store):Acc σ (s++x) p ty sz rows:=by
 rcases h with h|⟨t,h1,h2,h3⟩
 ·exact .inl h
 ·exact .inr ⟨t,h1,h2,by rw[List.getElem?_append_left (List.getElem?_eq_some_iff.1 h3).1];exact h3⟩
theorem Acc.set (h:Acc σ s p ty sz rows)(hb:Bx σ s i t c)(o:Option AObj):Acc σ (s.set i o) p ty sz rows:=by
 rcases h with h|⟨k,h1,h2,h3⟩
 ·exact .inl h
 ·refine .inr ⟨k,h1,h2,?_⟩;rw[List.getElem?_set_ne]
  ·exact h3
  ·rintro rfl
   have:=hb.get.symm.trans h3;injection this with this;injection this with this;cases this
theorem Bx.keep (h:Bx σ s i t c)(ha:Acc σ s q ty sz rows)(k:Keep q s s'):Bx σ s' i t c:=by
 refine⟨h.le,k.1 i _ h.get fun r hr=> ?_⟩;rcases ha with⟨_,rfl|rfl⟩|⟨k,rfl,h2,h3⟩
 ·cases hr
 ·cases hr
 ·injection hr with h4 h5;subst h4;have:=h.get.symm.trans h3;injection this with this;injection this with this;cases this
theorem Acc.push {tl:TypeId}{ti:TI}{a b:Nat}{g m:Bool}{z:List Z}(hT:T tl=some ⟨a,b,g,m,z,.slc ty⟩)(hE:T ty=some ti)(h:Acc σ s p ty ti.sz rows)(hp:Pre σ s)(hr:∀r∈rows,r.length=ti.sz)(hn:∀r∈ns,r.length=ti.sz)(hne:ns≠[])(h0:0<ti.sz)
  (hb:(rows.length+ns.length)*ti.bytes≤140737488355328∧rows.length+ns.length≤140737488355328):∃p' s',(∀x,E.rowsOf x=some ns→qB T tl p x s=.eff p' s')∧Acc σ s' p' ty ti.sz (rows++ns)∧Pre σ s'∧Keep p s s'∧(∀q:PV,(∀t r r',q=.ow t r→p≠ .ow t r'∧t<s.length)→∀t r r',q=.ow t r→p'≠ .ow t r')∧(∀H,sub H s→(∀t r,p=.ow t r→H.length≤t)→sub H s')∧(∀n,n≤s.length→(∀t r,p=.ow t r→n≤t)→∀t r,p'=.ow t r→n≤t):=by
 have hc:(∀r∈ns,r.length=ti.sz)∧0<ti.sz:=⟨hn,h0⟩;rcases h with⟨rfl,rfl|rfl⟩|⟨k,rfl,h2,h3⟩
 ·refine⟨.ow s.length ns,s++[some (.tok ty ti.sz ns.length)],fun x hx=> ?_,.inr ⟨_,rfl,hp.le,by simp⟩,hp.app _,⟨fun i o hi _=>by rw[List.getElem?_append_left (List.getElem?_eq_some_iff.1 hi).1];exact hi,by simp⟩,fun q hq t r r' h1 h2=> ?_,fun H hH _ i o hl=> ?_,fun n hn _ t r h1=> ?_⟩
  ·simp only[qB,hT,hE,hx,hne,if_false];rw[if_pos hc,if_pos (by simpa using hb)]
  ·injection h2 with h2;have:=(hq t r [] h1).2;omega
  ·exact of_eq_true (Jx _ _) i o (hH i o hl)
  ·injection h1 with h1;omega
 ·refine⟨.ow s.length ns,s++[some (.tok ty ti.sz ns.length)],fun x hx=> ?_,.inr ⟨_,rfl,hp.le,by simp⟩,hp.app _,⟨fun i o hi _=>by rw[List.getElem?_append_left (List.getElem?_eq_some_iff.1 hi).1];exact hi,by simp⟩,fun q hq t r r' h1 h2=> ?_,fun H hH _ i o hl=> ?_,fun n hn _ t r h1=> ?_⟩
  ·simp only[qB,hT,hE,hx,hne,if_false];rw[if_pos hc,if_pos (by simpa using hb)]
  ·injection h2 with h2;have:=(hq t r [] h1).2;omega
  ·exact of_eq_true (Jx _ _) i o (hH i o hl)
  ·injection h1 with h1;omega
 ·refine⟨.ow k (rows++ns),s.set k (some (.tok ty ti.sz (rows.length+ns.length))),fun x hx=> ?_,.inr ⟨k,rfl,h2,by rw[List.getElem?_set_self (List.getElem?_eq_some_iff.1 h3).1,List.length_append]⟩,hp.set h2 _,⟨fun i o hi hne=>by rw[List.getElem?_set_ne (by rintro rfl;exact hne _ rfl)];exact hi,by simp⟩,fun q hq t r r' h1 h4=> ?_,fun H hH hk i o hl=> ?_,fun n hn hk t r h1=> ?_⟩
  ·simp only[qB,hT,hE,hx,hne,if_false];rw[if_pos hc];simp only[h3];rw[if_pos ⟨trivial,trivial,trivial,hr,hb⟩]
  ·injection h4 with h4;subst h4;exact(hq k r rows h1).1 rfl
  ·have h5:=hH i o hl;have h6:=hk k rows rfl;have h7:=(List.getElem?_eq_some_iff.1 hl.1).1;exact⟨by rw[List.getElem?_set_ne (by omega)];exact h5.1,h5.2⟩
  ·injection h1 with h1;subst h1;exact hk k rows rfl
theorem Acc.lenX {tl:TypeId}{a b:Nat}{g m:Bool}{z:List Z}(hT:T tl=some ⟨a,b,g,m,z,.slc ty⟩)(h:Acc σ s p ty sz rows):E.lenX T tl p s=.val (.v (.int .i64 rows.length)):=by
 rcases h with⟨rfl,rfl|rfl⟩|⟨t,rfl,_⟩<;>simp[E.lenX,hT,E.rowsOf]
theorem Acc.cast {r r':List (List PV)}(hr:r=r')(h:Acc σ s p ty sz r):Acc σ s p ty sz r':=hr▸h
theorem Acc.lt (h:Acc σ s p ty sz rows):∀t r,p=.ow t r→t<s.length:=by
 rcases h with⟨_,rfl|rfl⟩|⟨k,rfl,h2,h3⟩
 ·intro t r hh;cases hh
 ·intro t r hh;cases hh
 ·intro t r hh;injection hh with hh;subst hh;exact(List.getElem?_eq_some_iff.1 h3).1
inductive Cn:PV→Prop
 |v (x:Value):Cn (.v x)
 |e0:Cn .e0
 |sl {rows:List (List PV)}:(∀r∈rows,∀p∈r,Cn p)→Cn (.sl rows)
 |ag {ps:List PV}:(∀p∈ps,Cn p)→Cn (.ag ps)
 |tu {ps:List PV}:(∀p∈ps,Cn p)→Cn (.tu ps)
theorem Cn.cl {p:PV}(h:Cn p)(n:Nat):Cl n p:=by
 induction h with
 |v x=>exact .v x
 |e0=>exact .e0
 |sl h ih=>exact .sl ih
 |ag h ih=>exact .ag ih
 |tu h ih=>exact .tu ih
def Pw (σ:Store)(K:PV→Store→Prop)(r:PV)(s:Store):Prop:=Pre σ s∧∃r',Wk r r'∧Cn r'∧K r' σ
end
theorem zB {σ:Store}{f:FuncId}{fn:Func}{c:Code}{args:List PV}{K:PV→Store→Prop}(hf:Try.prog.funcs[f]? =some fn)(hname:(fn.name== "runtime.NumGoroutine")=false)(hb:fn.body=some c)(hc:(Qm fn.ntmps c&&decide (args.length≤fn.ntmps))=true)
  (h:Ev Try.prog E.T c (qu args) σ (Bd E.T fn (Pw σ K))):EC Try.prog f args σ K:=
 EC.pure (EC.wkr ((w_fn hf hname hb hc h).mono fun r s ⟨h1,r',h2,h3,h4⟩=>⟨r',h2,h1,h3.cl _,h4⟩))
theorem cj2 {a0 a1:Prop}(h0:a0)(h1:a1):a0∧a1:=⟨h0,h1⟩
theorem cj3 {a0 a1 a2:Prop}(h0:a0)(h1:a1)(h2:a2):a0∧a1∧a2:=⟨h0,h1,h2⟩
theorem cj4 {a0 a1 a2 a3:Prop}(h0:a0)(h1:a1)(h2:a2)(h3:a3):a0∧a1∧a2∧a3:=⟨h0,h1,h2,h3⟩
theorem cj5 {a0 a1 a2 a3 a4:Prop}(h0:a0)(h1:a1)(h2:a2)(h3:a3)(h4:a4):a0∧a1∧a2∧a3∧a4:=⟨h0,h1,h2,h3,h4⟩
theorem cj6 {a0 a1 a2 a3 a4 a5:Prop}(h0:a0)(h1:a1)(h2:a2)(h3:a3)(h4:a4)(h5:a5):a0∧a1∧a2∧a3∧a4∧a5:=⟨h0,h1,h2,h3,h4,h5⟩
theorem cj7 {a0 a1 a2 a3 a4 a5 a6:Prop}(h0:a0)(h1:a1)(h2:a2)(h3:a3)(h4:a4)(h5:a5)(h6:a6):a0∧a1∧a2∧a3∧a4∧a5∧a6:=⟨h0,h1,h2,h3,h4,h5,h6⟩
theorem cj8 {a0 a1 a2 a3 a4 a5 a6 a7:Prop}(h0:a0)(h1:a1)(h2:a2)(h3:a3)(h4:a4)(h5:a5)(h6:a6)(h7:a7):a0∧a1∧a2∧a3∧a4∧a5∧a6∧a7:=⟨h0,h1,h2,h3,h4,h5,h6,h7⟩
theorem cj9 {a0 a1 a2 a3 a4 a5 a6 a7 a8:Prop}(h0:a0)(h1:a1)(h2:a2)(h3:a3)(h4:a4)(h5:a5)(h6:a6)(h7:a7)(h8:a8):a0∧a1∧a2∧a3∧a4∧a5∧a6∧a7∧a8:=⟨h0,h1,h2,h3,h4,h5,h6,h7,h8⟩
theorem cj10 {a0 a1 a2 a3 a4 a5 a6 a7 a8 a9:Prop}(h0:a0)(h1:a1)(h2:a2)(h3:a3)(h4:a4)(h5:a5)(h6:a6)(h7:a7)(h8:a8)(h9:a9):a0∧a1∧a2∧a3∧a4∧a5∧a6∧a7∧a8∧a9:=⟨h0,h1,h2,h3,h4,h5,h6,h7,h8,h9⟩
theorem cj11 {a0 a1 a2 a3 a4 a5 a6 a7 a8 a9 a10:Prop}(h0:a0)(h1:a1)(h2:a2)(h3:a3)(h4:a4)(h5:a5)(h6:a6)(h7:a7)(h8:a8)(h9:a9)(h10:a10):a0∧a1∧a2∧a3∧a4∧a5∧a6∧a7∧a8∧a9∧a10:=⟨h0,h1,h2,h3,h4,h5,h6,h7,h8,h9,h10⟩
theorem ZD {a0 a1 a2 a3 a4 a5 a6 a7 a8 a9 a10 a11:Prop}(h0:a0)(h1:a1)(h2:a2)(h3:a3)(h4:a4)(h5:a5)(h6:a6)(h7:a7)(h8:a8)(h9:a9)(h10:a10)(h11:a11):a0∧a1∧a2∧a3∧a4∧a5∧a6∧a7∧a8∧a9∧a10∧a11:=⟨h0,h1,h2,h3,h4,h5,h6,h7,h8,h9,h10,h11⟩
theorem cj13 {a0 a1 a2 a3 a4 a5 a6 a7 a8 a9 a10 a11 a12:Prop}(h0:a0)(h1:a1)(h2:a2)(h3:a3)(h4:a4)(h5:a5)(h6:a6)(h7:a7)(h8:a8)(h9:a9)(h10:a10)(h11:a11)(h12:a12):a0∧a1∧a2∧a3∧a4∧a5∧a6∧a7∧a8∧a9∧a10∧a11∧a12:=⟨h0,h1,h2,h3,h4,h5,h6,h7,h8,h9,h10,h11,h12⟩
theorem cj14 {a0 a1 a2 a3 a4 a5 a6 a7 a8 a9 a10 a11 a12 a13:Prop}(h0:a0)(h1:a1)(h2:a2)(h3:a3)(h4:a4)(h5:a5)(h6:a6)(h7:a7)(h8:a8)(h9:a9)(h10:a10)(h11:a11)(h12:a12)(h13:a13):a0∧a1∧a2∧a3∧a4∧a5∧a6∧a7∧a8∧a9∧a10∧a11∧a12∧a13:=⟨h0,h1,h2,h3,h4,h5,h6,h7,h8,h9,h10,h11,h12,h13⟩
theorem cj15 {a0 a1 a2 a3 a4 a5 a6 a7 a8 a9 a10 a11 a12 a13 a14:Prop}(h0:a0)(h1:a1)(h2:a2)(h3:a3)(h4:a4)(h5:a5)(h6:a6)(h7:a7)(h8:a8)(h9:a9)(h10:a10)(h11:a11)(h12:a12)(h13:a13)(h14:a14):a0∧a1∧a2∧a3∧a4∧a5∧a6∧a7∧a8∧a9∧a10∧a11∧a12∧a13∧a14:=⟨h0,h1,h2,h3,h4,h5,h6,h7,h8,h9,h10,h11,h12,h13,h14⟩
theorem cj16 {a0 a1 a2 a3 a4 a5 a6 a7 a8 a9 a10 a11 a12 a13 a14 a15:Prop}(h0:a0)(h1:a1)(h2:a2)(h3:a3)(h4:a4)(h5:a5)(h6:a6)(h7:a7)(h8:a8)(h9:a9)(h10:a10)(h11:a11)(h12:a12)(h13:a13)(h14:a14)(h15:a15):a0∧a1∧a2∧a3∧a4∧a5∧a6∧a7∧a8∧a9∧a10∧a11∧a12∧a13∧a14∧a15:=⟨h0,h1,h2,h3,h4,h5,h6,h7,h8,h9,h10,h11,h12,h13,h14,h15⟩
theorem cj17 {a0 a1 a2 a3 a4 a5 a6 a7 a8 a9 a10 a11 a12 a13 a14 a15 a16:Prop}(h0:a0)(h1:a1)(h2:a2)(h3:a3)(h4:a4)(h5:a5)(h6:a6)(h7:a7)(h8:a8)(h9:a9)(h10:a10)(h11:a11)(h12:a12)(h13:a13)(h14:a14)(h15:a15)(h16:a16):a0∧a1∧a2∧a3∧a4∧a5∧a6∧a7∧a8∧a9∧a10∧a11∧a12∧a13∧a14∧a15∧a16:=⟨h0,h1,h2,h3,h4,h5,h6,h7,h8,h9,h10,h11,h12,h13,h14,h15,h16⟩
theorem cj18 {a0 a1 a2 a3 a4 a5 a6 a7 a8 a9 a10 a11 a12 a13 a14 a15 a16 a17:Prop}(h0:a0)(h1:a1)(h2:a2)(h3:a3)(h4:a4)(h5:a5)(h6:a6)(h7:a7)(h8:a8)(h9:a9)(h10:a10)(h11:a11)(h12:a12)(h13:a13)(h14:a14)(h15:a15)(h16:a16)(h17:a17):a0∧a1∧a2∧a3∧a4∧a5∧a6∧a7∧a8∧a9∧a10∧a11∧a12∧a13∧a14∧a15∧a16∧a17:=⟨h0,h1,h2,h3,h4,h5,h6,h7,h8,h9,h10,h11,h12,h13,h14,h15,h16,h17⟩
theorem cj19 {a0 a1 a2 a3 a4 a5 a6 a7 a8 a9 a10 a11 a12 a13 a14 a15 a16 a17 a18:Prop}(h0:a0)(h1:a1)(h2:a2)(h3:a3)(h4:a4)(h5:a5)(h6:a6)(h7:a7)(h8:a8)(h9:a9)(h10:a10)(h11:a11)(h12:a12)(h13:a13)(h14:a14)(h15:a15)(h16:a16)(h17:a17)(h18:a18):a0∧a1∧a2∧a3∧a4∧a5∧a6∧a7∧a8∧a9∧a10∧a11∧a12∧a13∧a14∧a15∧a16∧a17∧a18:=⟨h0,h1,h2,h3,h4,h5,h6,h7,h8,h9,h10,h11,h12,h13,h14,h15,h16,h17,h18⟩
theorem Ya {a0 a1 a2 a3 a4 a5 a6 a7 a8 a9 a10 a11 a12 a13 a14 a15 a16 a17 a18 a19:Prop}(h0:a0)(h1:a1)(h2:a2)(h3:a3)(h4:a4)(h5:a5)(h6:a6)(h7:a7)(h8:a8)(h9:a9)(h10:a10)(h11:a11)(h12:a12)(h13:a13)(h14:a14)(h15:a15)(h16:a16)(h17:a17)(h18:a18)(h19:a19):a0∧a1∧a2∧a3∧a4∧a5∧a6∧a7∧a8∧a9∧a10∧a11∧a12∧a13∧a14∧a15∧a16∧a17∧a18∧a19:=⟨h0,h1,h2,h3,h4,h5,h6,h7,h8,h9,h10,h11,h12,h13,h14,h15,h16,h17,h18,h19⟩
theorem qk {P:Program}{T:TypeId→Option TI}{s:Store}{e:Env}{Q:X→Env→Store→Prop}{a b c:Code}(h:Ev P T (.seq a (.seq b c)) e s Q):Ev P T (.seq (.seq a b) c) e s Q:=
 .of (Qj a (fun x e s hx=>by
  cases x with
  | nrm =>
   obtain⟨e2,s2,hw,hx⟩:=hx;refine⟨e2,s2,hw,Qj b (fun y e s hy=> ?_) e2 s2 hx⟩;cases y<;>exact hy
  |ext i=>exact hx
  |ret=>exact hx) e s h.to)
theorem cw_n {I:Env→Store→Prop}{K:X→Env→Store→Prop}{e:Env}{s:Store}(h:∃e2,WkE e e2∧I e2 s):Cw I K .nrm e s:=let ⟨e2,hw,hi⟩:=h;⟨e2,s,.wk hw,hi⟩
theorem qf {I:Env→Store→Prop}{K:X→Env→Store→Prop}{e:Env}{s:Store}(h:I e s):Cw I K .nrm e s:=cw_n ⟨e,WkE.refl _,h⟩
theorem cw_g {I:Env→Store→Prop}{K:X→Env→Store→Prop}{e e2:Env}{s s2:Store}(hg:Gh e s e2 s2)(h:I e2 s2):Cw I K .nrm e s:=⟨e2,s2,hg,h⟩
theorem cw_x {I:Env→Store→Prop}{K:X→Env→Store→Prop}{e:Env}{s:Store}{i:Nat}(h:K (.ext i) e s):Cw I K (.ext i) e s:=h
theorem qO {I:Env→Store→Prop}{K:X→Env→Store→Prop}{e:Env}{s:Store}(h:K .ret e s):Cw I K .ret e s:=h
theorem iq_n {V W:Type}{I:V→Env→Store→Prop}{x:V⊕W}{r:W}{Q:X→Env→Store→Prop}{e:Env}{s:Store}{v':V}(hx:x=.inl v')(h:∃e2,WkE e e2∧I v' e2 s):Iq I x r Q .nrm e s:=let ⟨e2,hw,hi⟩:=h;⟨v',hx,e2,s,.wk hw,hi⟩
theorem zK {V W:Type}{I:V→Env→Store→Prop}{x:V⊕W}{r:W}{Q:X→Env→Store→Prop}{e:Env}{s:Store}{v':V}(hx:x=.inl v')(h:I v' e s):Iq I x r Q .nrm e s:=iq_n hx ⟨e,WkE.refl _,h⟩
theorem zo {V W:Type}{I:V→Env→Store→Prop}{x:V⊕W}{r r':W}{Q:X→Env→Store→Prop}{e:Env}{s:Store}{i:Nat}(hx:x=.inr r')(h:r'=r→Q (.ext i) e s):Iq I x r Q (.ext i) e s:=⟨r',hx,h⟩
theorem Zz {V W:Type}{I:V→Env→Store→Prop}{x:V⊕W}{r r':W}{Q:X→Env→Store→Prop}{e:Env}{s:Store}(hx:x=.inr r')(h:r'=r→Q .ret e s):Iq I x r Q .ret e s:=⟨r',hx,h⟩
theorem QE {P:Program}{T:TypeId→Option TI}{s:Store}{e:Env}{Q:X→Env→Store→Prop}{c:Code}(I:Env→Store→Prop)(h:Ev P T c e s (Ct I Q))(k:∀e s,I e s→Q .nrm e s):Ev P T c e s Q:=
 h.mono fun x e s hx=>by cases x<;>first|exact k e s hx|exact hx
theorem zr {I:Env→Store→Prop}{K:X→Env→Store→Prop}{e:Env}{s:Store}(h:I e s):Ct I K .nrm e s:=h
theorem ct_x {I:Env→Store→Prop}{K:X→Env→Store→Prop}{e:Env}{s:Store}{i:Nat}(h:K (.ext i) e s):Ct I K (.ext i) e s:=h
theorem ct_r {I:Env→Store→Prop}{K:X→Env→Store→Prop}{e:Env}{s:Store}(h:K .ret e s):Ct I K .ret e s:=h
theorem qq {fn:Func}{K:PV→Store→Prop}{x:X}{r r':PV}{σ s:Store}{e:Env}(hx:x≠ .nrm→x=.ret)(h1:Yy T fn.results e s=some r)(hp:Pre σ s)(hw:Wk r r')(hc:Cn r')(hk:K r' σ):Bd T fn (Pw σ K) x e s:=qU hx h1 ⟨hp,r',hw,hc,hk⟩
def CnL (l:List PV):Prop:=∀p∈l,Cn p
theorem CnL.nil:CnL []:=fun p hp=>by simp at hp
theorem CnL.cons {p:PV}{l:List PV}(h:Cn p)(hl:CnL l):CnL (p::l):=fun q hq=>by
 rcases List.mem_cons.1 hq with rfl|hq
 ·exact h
 ·exact hl q hq
theorem Cn.rows {α:Type}{f:α→List PV}(h:∀x,CnL (f x))(l:List α):Cn (.sl (l.map f)):=.sl fun r hr p hp=>by
 obtain⟨x,_,rfl⟩:=List.mem_map.1 hr;exact h x p hp
theorem zw {α β:Type}{f:α→β}{l:List α}{i:Nat}{x:α}(h:l[i]? =some x):(l.map f)[i]? =some (f x):=by rw[List.getElem?_map,h];rfl
theorem ZI {α:Type}{f:α→List PV}{n:Nat}(h:∀x,(f x).length=n)(l:List α):∀r∈l.map f,r.length=n:=fun r hr=>by
 obtain⟨x,_,rfl⟩:=List.mem_map.1 hr;exact h x
theorem qI {α:Type}{c:Bool}{a b:Option α}{r:α}(hc:c=true)(h:(if c then a else b)=some r):a=some r:=by rw[hc]at h;exact h
theorem zx {α:Type}{c:Bool}{a b:Option α}{r:α}(hc:c=false)(h:(if c then a else b)=some r):b=some r:=by rw[hc]at h;exact h
noncomputable def Jt (P:Program)(T:TypeId→Option TI)(ops:Array Oper)(H:Store)(base:Nat):List Oper→Nat→Env→Store→(Env→Store→Prop)→Prop
 |[],_,e,s,K=>K e s
 | o :: rest, j, e, s, K => match zk ops o e with
  | some true => if zq o.op then (match ql T o.op e s with
    | .val p=>Jt P T ops H base rest j (upd e o.dst p) s K
    | .eff p s'=>sub H s'∧Jt P T ops H base rest j (upd e o.dst p) s' K
    | .call f args=>EC P f args s (fun r s'=>sub H s'∧Jt P T ops H base rest j (upd e o.dst r) s' K)
    |_=>False)
   else(match ql T o.op e H with
    | .val p=>Jt P T ops H base rest (if zy o.op then j+1 else j) (upd e o.dst p) s K
    | .new ob mk=>Jt P T ops H base rest (j+1) (upd e o.dst (mk (base+j))) (s.set (base+j) (some ob)) K
    |_=>False)
  |some false=>Jt P T ops H base rest (if zy o.op then j+1 else j) (upd e o.dst (.tu [])) s K
  |none=>False
theorem newIdx_next {ops:Array Oper}{i:Nat}{o:Oper}(h:ops.toList[i]? =some o):qM ops (i+1)=if zy o.op then qM ops i+1 else qM ops i:=by
 unfold qM;rw[List.take_add_one,h];simp only[Option.toList_some,List.filter_append,List.length_append,List.filter_cons,List.filter_nil];split<;>simp
theorem eff_not_new {o:Op}(h:zq o=true):zy o=false:=by
 cases o<;>simp[zq,zy]at h ⊢
theorem YK {P:Program}{T:TypeId→Option TI}{ops:Array Oper}{H:Store}{base:Nat}{K:Env→Store→Prop}:∀(l:List Oper) (i:Nat) (e:Env) (s:Store),ops.toList.drop i=l→Jt P T ops H base l (qM ops i) e s K→JF P T ops H base l i e s K
 |[],i,e,s,_,h=>h
 | o :: l, i, e, s, hl, h => by
  have hi:ops.toList[i]? =some o:=by
   have:=congrArg (fun x=>x[0]?) hl;simpa using this
  have hl':ops.toList.drop (i+1)=l:=by
   have:=congrArg List.tail hl;simpa using this
  have hn:=newIdx_next hi;have go:=fun e s=>YK (P:=P) (T:=T) (H:=H) (base:=base) (K:=K) l (i+1) e s hl';rw[hn]at go;unfold JF zb;unfold Jt at h;split at h
  ·rename_i hw;rw[hw];simp only;unfold zS;split at h
   ·rename_i hE;rw[if_pos hE];rw[eff_not_new hE]at go;simp only[Bool.false_eq_true,if_false]at go;split at h
    ·rename_i p hr;rw[hr];exact go _ _ h
    ·rename_i p s' hr;rw[hr];exact⟨h.1,go _ _ h.2⟩
    ·rename_i f args hr;rw[hr];exact h.mono fun r s' hk=>⟨hk.1,go _ _ hk.2⟩
    ·exact h.elim
   ·rename_i hE;rw[if_neg hE];split at h
    ·rename_i p hr;rw[hr];exact go _ _ h
    ·rename_i ob mk hr;rw[(JO hr).1]at go;simp only[if_true]at go;rw[hr];exact go _ _ h
    ·exact h.elim
  ·rename_i hw;rw[hw];exact go _ _ h
  ·exact h.elim
def RestD (P:Program)(T:TypeId→Option TI)(ops:Array Oper)(H:Store)(base:Nat)(rest:List Oper)(j:Nat)(e:Env)(d:Option Tmp)(K:Env→Store→Prop)(r:PV)(s:Store):Prop:=sub H s∧Jt P T ops H base rest j (upd e d r) s K
noncomputable def JZ:(P:Program)→(T:TypeId→Option TI)→(ops:Array Oper)→(H:Store)→(base:Nat)→List Oper→Nat→Env→Store→(Env→Store→Prop)→Prop:=Classical.choose (⟨@Jt,rfl⟩:∃f,f= @Jt)
theorem Yp: @JZ= @Jt:=Classical.choose_spec (⟨@Jt,rfl⟩:∃f,f= @Jt)
theorem evDC_nil {P:Program}{T:TypeId→Option TI}{ops:Array Oper}{H:Store}{base j:Nat}{K:Env→Store→Prop}(e:Env)(s:Store):JZ P T ops H base [] j e s K=K e s:=by rw[Yp];rfl
theorem evDC_cons {P:Program}{T:TypeId→Option TI}{ops:Array Oper}{H:Store}{base j:Nat}{K:Env→Store→Prop}(o:Oper)(rest:List Oper)(e:Env)(s:Store):JZ P T ops H base (o::rest) j e s K=match zk ops o e with
  | some true => if zq o.op then (match ql T o.op e s with
    | .val p=>JZ P T ops H base rest j (upd e o.dst p) s K
    | .eff p s'=>sub H s'∧JZ P T ops H base rest j (upd e o.dst p) s' K
    | .call f args=>EC P f args s (RestD P T ops H base rest j e o.dst K)
    |_=>False)
   else(match ql T o.op e H with
    | .val p=>JZ P T ops H base rest (if zy o.op then j+1 else j) (upd e o.dst p) s K
    | .new ob mk=>JZ P T ops H base rest (j+1) (upd e o.dst (mk (base+j))) (s.set (base+j) (some ob)) K
    |_=>False)
  |some false=>JZ P T ops H base rest (if zy o.op then j+1 else j) (upd e o.dst (.tu [])) s K
  |none=>False:=by rw[Yp];rfl
theorem set_app0 (s l:Store)(a b:Option AObj):(s++a::l).set s.length b=s++b::l:=by simp
theorem set_app1 (s l:Store)(a b c:Option AObj):(s++a::b::l).set (s.length+1) c=s++a::c::l:=by simp
theorem set_app2 (s l:Store)(a b c d:Option AObj):(s++a::b::c::l).set (s.length+2) d=s++a::b::d::l:=by simp
theorem get_app0 (s l:Store)(a:Option AObj):(s++a::l)[s.length]? =some a:=by simp
theorem get_app1 (s l:Store)(a b:Option AObj):(s++a::b::l)[s.length+1]? =some b:=by simp
theorem get_app2 (s l:Store)(a b c:Option AObj):(s++a::b::c::l)[s.length+2]? =some c:=by simp
theorem Bx.at {σ s:Store}(h:Pre σ s){l:Store}{j:Nat}{t:TypeId}{c:List PV}(hl:l[j]? =some (some (.box t c))):Bx σ (s++l) (s.length+j) t c:=⟨by have:=h.le;omega,by rw[List.getElem?_append_right (by omega),Nat.add_sub_cancel_left];exact hl⟩
theorem sub_hid0 (s:Store)(i:Nat):sub (s.set i none) s=True:=eq_true fun j o h=>⟨by
 by_cases hj:i=j
 ·subst hj;have:=h.1;by_cases hi:i<s.length
  ·rw[List.getElem?_set_self hi]at this;cases this
  ·rw[List.getElem?_eq_none (by simp;omega)]at this;cases this
 ·rw[←h.1,List.getElem?_set_ne hj],h.2⟩
theorem qqL (s:Store)(i:Nat)(o:Option AObj):sub (s.set i none) (s.set i o)=True:=eq_true fun j o' h=>⟨by
 by_cases hj:i=j
 ·subst hj;have:=h.1;by_cases hi:i<s.length
  ·rw[List.getElem?_set_self hi]at this;cases this
  ·rw[List.getElem?_eq_none (by simp;omega)]at this;cases this
 ·rw[List.getElem?_set_ne hj,←h.1,List.getElem?_set_ne hj],h.2⟩
theorem sub_appT {H s:Store}(h:sub H s)(l:Store):sub H (s++l):=fun i o hl=>of_eq_true (Jx s l) i o (h i o hl)
theorem zzb (s l:Store)(i:Nat):sub (s.set i none) (s++l)=True:=eq_true (sub_appT (of_eq_true (sub_hid0 s i)) l)
theorem zza (s l:Store)(i:Nat)(o:Option AObj):sub (s.set i none) (s.set i o++l)=True:=eq_true (sub_appT (of_eq_true (qqL s i o)) l)
theorem sub_hid3 {s l:Store}{i:Nat}(h:i<s.length)(o:Option AObj):sub (s.set i none) (List.set (s++l) i o):=by rw[List.set_append_left _ _ h];exact of_eq_true (zza s l i o)
theorem hget {s:Store}{i j:Nat}{x:Option AObj}(h:s[j]? =some x)(hne:i≠j):(s.set i none)[j]? =some x:=by rw[List.getElem?_set_ne hne];exact h
theorem set_app0h (s l:Store)(i:Nat)(o a b:Option AObj):(s.set i o++a::l).set s.length b=s.set i o++b::l:=by
 have:=set_app0 (s.set i o) l a b
 rwa [List.length_set]at this
theorem set_app1h (s l:Store)(i:Nat)(o a b c:Option AObj):(s.set i o++a::b::l).set (s.length+1) c=s.set i o++a::c::l:=by
 have:=set_app1 (s.set i o) l a b c
 rwa [List.length_set]at this
theorem get_app0h (s l:Store)(i:Nat)(o a:Option AObj):(s.set i o++a::l)[s.length]? =some a:=by
 have:=get_app0 (s.set i o) l a
 rwa [List.length_set]at this
theorem get_app1h (s l:Store)(i:Nat)(o a b:Option AObj):(s.set i o++a::b::l)[s.length+1]? =some b:=by
 have:=get_app1 (s.set i o) l a b
 rwa [List.length_set]at this
def oz:List (List PV)→PV
 |[]=>.e0
 |r::l=>.sl (r::l)
theorem Wk.oz (l:List (List PV)):Wk (oz l) (.sl l):=by cases l;exact .e0;exact .refl _
theorem Acc.oz {σ s:Store}{p:PV}{ty:TypeId}{sz:Nat}{rows:List (List PV)}(h:Acc σ s p ty sz rows)(hne:rows≠[]):Wk p (oz rows):=by
 cases rows with
 |nil=>exact absurd rfl hne
 |cons r l=>exact h.wk
theorem Acc.ow {σ s:Store}{p:PV}{ty:TypeId}{sz:Nat}{rows:List (List PV)}(h:Acc σ s p ty sz rows)(hne:rows≠[]):∃t,p=.ow t rows:=by
 rcases h with⟨h,_⟩|⟨t,h,_⟩
 ·exact absurd h hne
 ·exact⟨t,h⟩
theorem Cn.oz {l:List (List PV)}(h:Cn (.sl l)):Cn (oz l):=by cases l;exact .e0;exact h
theorem Qc (l:List (List PV)):(oz l).one=true:=by cases l<;>rfl
theorem ss {φ:Prop}{α:Sort _}{a b:α}(f:φ)(h:φ→a=b:=by(intro hf;simp (maxSteps:=1000000) -implicitDefEqProofs only[hf,evH_nil,evH_cons,Yh,Yy,List.mapM_cons,List.mapM_nil,Option.bind_eq_bind,Option.pure_def,evDC_nil,evDC_cons,zq,zy,sub_self,Jx,Nat.add_zero,Nat.zero_add,set_app0,set_app1,set_app2,get_app0,get_app1,get_app2,zk,List.getElem?_toArray,ql,Jw,upd_none,val,argE_at,Nat.reduceLT,↓reduceIte,List.getD_cons_zero,List.getD_cons_succ,List.getElem?_cons_succ,List.getElem?_cons_zero,zd,abin,abinI,abinS,aun,Nat.reduceEqDiff,Nat.reduceAdd,ofV,Option.map_some,Option.bind_some,Bool.false_eq_true,zz,PV.flat,PV.one,Value.oneCell',List.all_cons,List.all_nil,Bool.and_true,Bool.true_and,List.length_cons,List.length_nil,List.length_map,List.take_succ_cons,List.take_zero,List.drop_succ_cons,List.drop_zero,List.cons_append,List.nil_append,Nat.reduceLeDiff,and_self,and_true,true_and,beq_self_eq_true,Bool.not_true,Bool.not_false,Qd,lenX,rowsOf,intOf?,List.getElem?_concat_length,if_true,ite_true,ite_false,reduceBEq,List.map_cons,List.map_nil,List.toList_toArray,beq_true,beq_false,List.append_nil,set_concat,decide_true,decide_false,eq_self,Int.reduceEq,Int.reduceLT,Int.reduceLE,Int.reduceNeg,ZO,zpv,Z.val,Z.pv,ZE,List.replicate_succ,List.replicate_zero,List.set_cons_zero,List.set_cons_succ,Nat.reduceMul,Nat.zero_lt_one,Array.size,appn2,appn3,Option.some.injEq,ne_eq,not_false_eq_true,not_true_eq_false,false_and,and_false,List.cons.injEq,reduceCtorEq,Option.map_none,Option.isSome_some,Option.isSome_none,Option.getD_some,Option.getD_none,List.headD_cons,Option.isSome_map,mpF_str,keyA,JY,eqFs,eqC,qqL,sub_hid0,zzb,zza,strR,↓Qc];try rfl)):a=b:=h f
theorem w_x {φ:Prop}{id:Nat}{ops:Array Oper}{e:Env}{s:Store}{Q:X→Env→Store→Prop}{B:(Env→Store→Prop)→Prop}(f:φ)(k:B fun e s=>Q .nrm e s)(h:φ→∀K,evH Try.prog T ops ops.toList e s K=B K:=by(intro hf K;exact ss hf)):Ev Try.prog T (.region id ops false) e s Q:=.of (by
 show Qb Try.prog T ops ops.toList e s (fun e s=>Q .nrm e s);refine ZB _ _ _ ?_;rw[←ZV,h f];exact k)
theorem w_y {φ:Prop}{ops:Array Oper}{l:List Oper}{d:Option Tmp}{r:PV}{e:Env}{s:Store}{K:Env→Store→Prop}{B:(Env→Store→Prop)→Prop}(f:φ)(k:B K)(h:φ→∀K,evH Try.prog T ops l (upd e d r) s K=B K:=by(intro hf K;exact ss hf)):Rest Try.prog T ops l e d K r s:=by
 unfold Rest;refine ZB _ _ _ ?_;rw[←ZV,h f];exact k
theorem w_xp {φ:Prop}{id:Nat}{ops:Array Oper}{e:Env}{s:Store}{Q:X→Env→Store→Prop}{B:(Env→Store→Prop)→Prop}(f:φ)(k:B fun e s=>Q .nrm e s)(hp:(pureD ops&&chkB ops ops.size)=true:=by kernel_rfl)(h:φ→∀K,evH Try.prog T ops ops.toList e s K=B K:=by(intro hf K;exact ss hf)):Ev Try.prog T (.region id ops true) e s Q:=.of (by
 refine evDraw_pure (by kernel_rfl) hp ?_;rw[←ZV,h f];exact k)
theorem xv {φ:Prop}{a b:PV}(f:φ)(h:φ→a=b:=by(intro hf;exact ss hf)):a=b:=h f
theorem xr {φ:Prop}{rs:Array ResultVar}{e:Env}{s:Store}{r:PV}(f:φ)(h:φ→Yy T rs e s=some r:=by(intro hf;exact ss hf)):Yy T rs e s=some r:=h f
theorem xt {φ:Prop}{c:Operand}{a b:Code}{e:Env}{s:Store}{Q:X→Env→Store→Prop}(f:φ)(h1:Ev Try.prog T a e s Q)(hc:φ→val e c=.v (.bool true):=by(intro hf;exact ss hf)):Ev Try.prog T (.cond c a b) e s Q:=w_ct (hc f) h1
theorem xf {φ:Prop}{c:Operand}{a b:Code}{e:Env}{s:Store}{Q:X→Env→Store→Prop}(f:φ)(h1:Ev Try.prog T b e s Q)(hc:φ→val e c=.v (.bool false):=by(intro hf;exact ss hf)):Ev Try.prog T (.cond c a b) e s Q:=w_cf (hc f) h1
theorem w_xd {φ:Prop}{id:Nat}{ops:Array Oper}{e:Env}{s:Store}{Q:X→Env→Store→Prop}{B:(Env→Store→Prop)→Prop}(k:Nat)(n:Nat)(f:φ)(hk:B fun e s=>evH Try.prog T ops (ops.toList.drop k) e s fun e s=>Q .nrm e s)(hc:(decide (k≤ops.size)&&chkB ops k&&chkD (qF ops k)&&QB (qF ops k)==n)=true:=by kernel_rfl)
  (h:φ→∀K,JZ Try.prog T (qF ops k) s s.length (qF ops k).toList 0 e (s++List.replicate n (some .res)) K=B K:=by(simp only[qF,List.take_succ_cons,List.take_zero,List.take_nil];(intro hf K;exact ss hf))):Ev Try.prog T (.region id ops true) e s Q:=.of (by
 simp only[Bool.and_eq_true,beq_iff_eq,decide_eq_true_eq]at hc;obtain⟨⟨⟨hks,h0⟩,h1⟩,h2⟩:=hc;have h0':=h0;refine⟨by kernel_rfl,k,chkE_B hks h0,h1,s,?_,?_⟩
 ·rw[Jx];trivial
 ·rw[h2];refine ZC (K:=fun e s=>evH Try.prog T ops (ops.toList.drop k) e s fun e s=>Q .nrm e s) (fun e s hh=>.inl ⟨h0',ZB _ _ _ (by rw[ZV]at hh;exact hh)⟩) _ _ _ _ ?_;refine YK (qF ops k).toList 0 e _ (by simp) ?_;have h0:qM (qF ops k) 0=0:=by simp[qM]
  rw[h0,←Yp,h f];exact hk)
theorem Qn {φ:Prop}{ops:Array Oper}{l:List Oper}{e:Env}{s:Store}{K:Env→Store→Prop}{B:(Env→Store→Prop)→Prop}(f:φ)(k:B K)(h:φ→∀K,evH Try.prog T ops l e s K=B K:=by(intro hf K;exact ss hf)):evH Try.prog T ops l e s K:=by
 rw[h f];exact k
theorem QD {φ:Prop}{ops:Array Oper}{H:Store}{base j:Nat}{l:List Oper}{d:Option Tmp}{r:PV}{e:Env}{s:Store}{K:Env→Store→Prop}{B:(Env→Store→Prop)→Prop}(f:φ)(k:B K)(hs:sub H s:=by(first|exact fun _ _ h=>h|exact of_eq_true (Jx _ _)|exact of_eq_true (qqL _ _ _)|exact of_eq_true (zza _ _ _ _)))
  (h:φ→∀K,JZ Try.prog T ops H base l j (upd e d r) s K=B K:=by(intro hf K;exact ss hf)):RestD Try.prog T ops H base l j e d K r s:=by
 refine⟨hs,?_⟩;rw[←Yp,h f];exact k
theorem Jn {φ:Prop}{id:Nat}{ops:Array Oper}{e:Env}{s:Store}{Q:X→Env→Store→Prop}{B:(Env→Store→Prop)→Prop}(i:Nat)(k:Nat)(n:Nat)(f:φ)(hk:B fun e s=>evH Try.prog T ops (ops.toList.drop k) e s fun e s=>Q .nrm e s)(hc:(decide (k≤ops.size)&&chkB ops k&&chkD (qF ops k)&&QB (qF ops k)==n)=true:=by kernel_rfl)
  (h:φ→∀K,JZ Try.prog T (qF ops k) (s.set i none) s.length (qF ops k).toList 0 e (s++List.replicate n (some .res)) K=B K:=by(simp only[qF,List.take_succ_cons,List.take_zero,List.take_nil];(intro hf K;exact ss hf))):Ev Try.prog T (.region id ops true) e s Q:=.of (by
 simp only[Bool.and_eq_true,beq_iff_eq,decide_eq_true_eq]at hc;obtain⟨⟨⟨hks,h0⟩,h1⟩,h2⟩:=hc;have h0':=h0;refine⟨by kernel_rfl,k,chkE_B hks h0,h1,s.set i none,?_,?_⟩
 ·exact of_eq_true (zzb s _ i)
 ·rw[h2];refine ZC (K:=fun e s=>evH Try.prog T ops (ops.toList.drop k) e s fun e s=>Q .nrm e s) (fun e s hh=>.inl ⟨h0',ZB _ _ _ (by rw[ZV]at hh;exact hh)⟩) _ _ _ _ ?_;refine YK (qF ops k).toList 0 e _ (by simp) ?_;have h0:qM (qF ops k) 0=0:=by simp[qM]
  rw[h0,←Yp,h f];exact hk)
theorem w_xt {φ:Prop}{id:Nat}{ops:Array Oper}{e:Env}{s:Store}{Q:X→Env→Store→Prop}{B:(Env→Store→Prop)→Prop}(i:Nat)(k:Nat)(m:Nat)(l:Array Bool)(f:φ)(hk:B fun e s=>zR Try.prog T ops (fun e s=>Q .nrm e s) m l e s)(hc:(Yb ops k&&chkD (qF ops k)&&QB (qF ops k)==0)=true:=by kernel_rfl)(hm:ops.size - k=m:=by kernel_rfl)(hl:upTo ops k=l:=by kernel_rfl)
  (h:φ→∀K,JZ Try.prog T (qF ops k) (s.set i none) s.length (qF ops k).toList 0 e (s++List.replicate 0 (some .res)) K=B K:=by(simp only[qF,List.take_succ_cons,List.take_zero,List.take_nil];(intro hf K;exact ss hf))):Ev Try.prog T (.region id ops true) e s Q:=.of (by
 simp only[Bool.and_eq_true,beq_iff_eq]at hc;obtain⟨⟨h0,h1⟩,h2⟩:=hc;refine⟨by kernel_rfl,k,h0,h1,s.set i none,?_,?_⟩
 ·exact of_eq_true (zzb s _ i)
 ·rw[h2];refine ZC (K:=fun e s=>zR Try.prog T ops (fun e s=>Q .nrm e s) m l e s) (fun e s hh=>.inr (by rw[hm,hl];exact hh)) _ _ _ _ ?_;refine YK (qF ops k).toList 0 e _ (by simp) ?_;have h0:qM (qF ops k) 0=0:=by simp[qM]
  rw[h0,←Yp,h f];exact hk)
theorem t_end {ops:Array Oper}{K:Env→Store→Prop}{l:Array Bool}{e:Env}{s:Store}(h:K e s)(hr:Region.ready .any ops l=[]:=by kernel_rfl):zR Try.prog T ops K 0 l e s:=⟨hr,h⟩
theorem t_1 {φ:Prop}{ops:Array Oper}{K:Env→Store→Prop}{l:Array Bool}{n:Nat}{e:Env}{s:Store}{B:(Env→Store→Prop)→Prop}(i:Nat)(f:φ)(k:B (zR Try.prog T ops K n (l.setIfInBounds i true)))(hr:Region.ready .any ops l=[i]:=by kernel_rfl)
  (h:φ→∀K,evH Try.prog T ops (ops[i]?).toList e s K=B K:=by(simp only[List.getElem?_toArray,List.getElem?_cons_succ,List.getElem?_cons_zero,Option.toList_some];(intro hf K;exact ss hf))):zR Try.prog T ops K (n+1) l e s:=
 ⟨fun h0=>by(rw[hr]at h0;cases h0),fun j hj=>by
  rw[hr,List.mem_singleton]at hj;subst hj;exact ZB _ _ _ (by rw[←ZV,h f];exact k)⟩
theorem t_2 {φ:Prop}{ops:Array Oper}{K:Env→Store→Prop}{l:Array Bool}{n:Nat}{e:Env}{s:Store}{B B':(Env→Store→Prop)→Prop}(i j:Nat)(f:φ)(k:B (zR Try.prog T ops K n (l.setIfInBounds i true)))(k':B' (zR Try.prog T ops K n (l.setIfInBounds j true)))(hr:Region.ready .any ops l=[i,j]:=by kernel_rfl)
  (h:φ→∀K,evH Try.prog T ops (ops[i]?).toList e s K=B K:=by(simp only[List.getElem?_toArray,List.getElem?_cons_succ,List.getElem?_cons_zero,Option.toList_some];(intro hf K;exact ss hf))) (h':φ→∀K,evH Try.prog T ops (ops[j]?).toList e s K=B' K:=by(simp only[List.getElem?_toArray,List.getElem?_cons_succ,List.getElem?_cons_zero,Option.toList_some];(intro hf K;exact ss hf))):zR Try.prog T ops K (n+1) l e s:=
 ⟨fun h0=>by(rw[hr]at h0;cases h0),fun x hx=>by
  rw[hr]at hx;rcases List.mem_cons.1 hx with rfl|hx
  ·exact ZB _ _ _ (by rw[←ZV,h f];exact k)
  ·rw[List.mem_singleton]at hx;subst hx;exact ZB _ _ _ (by rw[←ZV,h' f];exact k')⟩
theorem hsap {s:Store}{i:Nat}(h:i<s.length):∀(l:Store) (o:Option AObj),List.set (s++l) i o=List.set s i o++l:=fun l o=>List.set_append_left _ _ h
theorem Bx.cast {σ s:Store}{i:Nat}{t:TypeId}{c c':List PV}(he:c=c')(h:Bx σ s i t c):Bx σ s i t c':=he▸h
theorem Cn.sl0:Cn (.sl []):=.sl fun r hr=>absurd hr (by simp)
theorem arr_get {α:Type}{f:α→PV}{l:List α}{n:Int}{y:α}{cs:List PV}{k:Nat}(h:qS l n=some y)(hc:cs=l.map f)(hk:l.length=k):cs[n.toNat*1]? =some (f y)∧0≤n∧n<(k:Int):=by
 obtain⟨h1,h2⟩:=qp h;refine⟨by rw[Nat.mul_one,hc,List.getElem?_map,h2];rfl,h1,?_⟩;have:=(List.getElem?_eq_some_iff.1 h2).1;omega
theorem Gh.tr {e e2 e3:Env}{s s2 s3:Store}(h:Gh e s e2 s2)(k:Gh e2 s2 e3 s3):Gh e s e3 s3:=
 ⟨h.1.trans k.1,fun F hF μ w hs=>by
  obtain⟨μ2,h1,h2,h3⟩:=h.2 F hF μ w hs;obtain⟨μ3,k1,k2,k3⟩:=k.2 F (h.1.Fok hF) μ2 w h2;exact⟨μ3,h1.trans hs k1,k2,fun t v hr=>k3 t v (h3 t v hr)⟩⟩
theorem Gh.box {e:Env}{s:Store}{i:Nat}{t:TypeId}{c c':List PV}(hg:s[i]? =some (some (.box t c)))(hw:WkL c c'):Gh e s e (s.set i (some (.box t c'))):=by
 refine⟨qr.set _ hg (by simp),fun F hF μ w hs=>⟨μ,?_⟩⟩;have hFi:F i=none:=hF.non (by rw[hg];simp);have hl:live (ov s F) i (.box t c):=⟨by rw[YS?,hg];simp[zU hFi],by simp⟩;rw[Jr hFi];have hgr:w.grownBy w (some (μ i)):=⟨rfl,rfl,rfl,Nat.le_refl _,fun _ _ _=>rfl⟩;have e1:Ext (ov s F) μ w ((ov s F).set i (some (.box t c'))) μ w:=Jl (o':=.box t c') hs hl (by simp) (show Qa μ μ w w i (.box t c) (.box t c') from rfl) hgr (fun _ _ _ _ h=>by cases h);refine⟨e1,JL hs hl e1 hgr ?_,fun t v hr=>hr.ext hs e1⟩;obtain⟨cs,g1,g2,g3,g4⟩:=hs.obj _ _ hl;refine⟨cs,g1,g2.trans hw.len,g3,fun j y q hy hq=> ?_⟩;have hj:j<c.length:=by rw[hw.len];exact(List.getElem?_eq_some_iff.1 hq).1
 have hp:c[j]? =some c[j]:=List.getElem?_eq_getElem hj;exact((g4 j y _ hy hp).wk (hw.get j _ q hp hq)).ext hs e1
structure Gx (s:Store)(i:Nat)(o:AObj):Prop where
 get:s[i]? =some (some o)
section
variable {σ τ s s':Store} {i j:Nat} {o o':AObj}
theorem Gx.lt (h:Gx s i o):i<s.length:=(List.getElem?_eq_some_iff.1 h.get).1
theorem Gx.app (h:Gx s i o)(x:Store):Gx (s++x) i o:=⟨by rw[List.getElem?_append_left h.lt];exact h.get⟩
theorem Gx.any (h:Gx s i o):∀x,(s++x)[i]? =some (some o):=fun x=>(h.app x).get
theorem Gx.any2 (h:Gx s i o):∀x y,(s++x++y)[i]? =some (some o):=fun x y=>((h.app x).app y).get
theorem Gx.g3 (h:Gx s i o):s[i]? =some (some o)∧(∀x,(s++x)[i]? =some (some o))∧∀x y,(s++x++y)[i]? =some (some o):=⟨h.get,h.any,h.any2⟩
theorem Gx.same (h:Gx s i o)(o':AObj):Gx (s.set i (some o')) i o':=⟨by rw[List.getElem?_set_self h.lt]⟩
theorem Gx.ne (h:Gx s i o)(hne:j≠i)(x:Option AObj):Gx (s.set j x) i o:=⟨by rw[List.getElem?_set_ne hne];exact h.get⟩
theorem Gx.nea (h:Gx s i o)(hne:j≠i):∀x,(s.set j x)[i]? =some (some o):=fun x=>(h.ne hne x).get
theorem Gx.samea (h:Gx s i o):∀o':AObj,(s.set i (some o'))[i]? =some (some o'):=fun o'=>(h.same o').get
theorem Gx.new (s:Store)(o:AObj):Gx (s++[some o]) s.length o:=⟨by simp⟩
theorem Gx.at (s:Store){l:Store}{j:Nat}{o:AObj}(hl:l[j]? =some (some o)):Gx (s++l) (s.length+j) o:=⟨by rw[List.getElem?_append_right (by omega),Nat.add_sub_cancel_left];exact hl⟩
theorem Gx.cast (h:Gx s i o)(he:o=o'):Gx s i o':=he▸h
theorem Gx.apart (h:Gx s i o)(h':Gx s j o')(hne:o≠o'):i≠j:=fun e=>hne (by subst e;have:=h.get.symm.trans h'.get;injection this with this;injection this)
theorem Bx.gx {t:TypeId}{c:List PV}(h:Bx σ s i t c):Gx s i (.box t c):=⟨h.get⟩
theorem Gx.keep {q:PV}{ty:TypeId}{sz:Nat}{rows:List (List PV)}(h:Gx s i o)(ho:∀a b c,o≠ .tok a b c)(ha:Acc σ s q ty sz rows)(k:Keep q s s'):Gx s' i o:=by
 refine⟨k.1 i _ h.get fun r hr=> ?_⟩;rcases ha with⟨_,rfl|rfl⟩|⟨k,rfl,h2,h3⟩
 ·cases hr
 ·cases hr
 ·injection hr with h4 h5;subst h4;have:=h.get.symm.trans h3;injection this with this;injection this with this;exact ho _ _ _ this
theorem Acc.setg {p:PV}{ty:TypeId}{sz:Nat}{rows:List (List PV)}(h:Acc σ s p ty sz rows)(hb:Gx s i o)(ho:∀a b c,o≠ .tok a b c)(x:Option AObj):Acc σ (s.set i x) p ty sz rows:=by
 rcases h with h|⟨k,h1,h2,h3⟩
 ·exact .inl h
 ·refine .inr ⟨k,h1,h2,?_⟩;rw[List.getElem?_set_ne]
  ·exact h3
  ·rintro rfl
   have:=hb.get.symm.trans h3;injection this with this;injection this with this;exact ho _ _ _ this
theorem Pre.setp (h:Pre τ s){i:Nat}(hi:i<τ.length)(o:Option AObj):Pre (τ.set i o) (s.set i o):=by
 obtain⟨ex,rfl⟩:=h;exact⟨ex,by rw[List.set_append_left _ _ hi]⟩
theorem Pre.trans {ρ:Store}(h:Pre τ s)(h':Pre s ρ):Pre τ ρ:=by
 obtain⟨ex,rfl⟩:=h;obtain⟨ey,rfl⟩:=h';exact⟨ex++ey,by rw[List.append_assoc]⟩
def Fr (σ τ:Store)(S:List Nat):Prop:=τ.length=σ.length∧∀j,j∉S→τ[j]? =σ[j]?
theorem Fr.refl (σ:Store)(S:List Nat):Fr σ σ S:=⟨rfl,fun _ _=>rfl⟩
theorem Fr.set {S:List Nat}(h:Fr σ τ S){i:Nat}(hi:i∈S)(o:Option AObj):Fr σ (τ.set i o) S:=⟨by simp[h.1],fun j hj=>by rw[List.getElem?_set_ne (by rintro rfl;exact hj hi)];exact h.2 j hj⟩
theorem Fr.ge {S:List Nat}(h:Fr σ τ S){i:Nat}(hi:σ.length≤i):τ.length≤i:=by rw[h.1];exact hi
theorem Fr.lt {S:List Nat}(h:Fr σ τ S){i:Nat}(hi:i<σ.length):i<τ.length:=by rw[h.1];exact hi
theorem Bx.newf {S:List Nat}(hf:Fr σ τ S)(h:Pre τ s)(t:TypeId)(c:List PV):Bx σ (s++[some (.box t c)]) s.length t c:=⟨by rw[←hf.1];exact h.le,by simp⟩
theorem Bx.atf {S:List Nat}(hf:Fr σ τ S)(h:Pre τ s){l:Store}{j:Nat}{t:TypeId}{c:List PV}(hl:l[j]? =some (some (.box t c))):Bx σ (s++l) (s.length+j) t c:=⟨by rw[←hf.1];have:=h.le;omega,by rw[List.getElem?_append_right (by omega),Nat.add_sub_cancel_left];exact hl⟩
theorem Bx.atfh {S:List Nat}(hf:Fr σ τ S)(h:Pre τ s){n:Nat}(hn:n=s.length){l:Store}{j:Nat}{t:TypeId}{c:List PV}(hl:l[j]? =some (some (.box t c))):Bx σ (s++l) (n+j) t c:=hn▸Bx.atf hf h hl
theorem Acc.ft {S:List Nat}(hf:Fr σ τ S){p:PV}{ty:TypeId}{sz:Nat}{rows:List (List PV)}(h:Acc σ s p ty sz rows):Acc τ s p ty sz rows:=by
 rcases h with h|⟨k,h1,h2,h3⟩
 ·exact .inl h
 ·exact .inr ⟨k,h1,hf.ge h2,h3⟩
theorem Acc.fb {S:List Nat}(hf:Fr σ τ S){p:PV}{ty:TypeId}{sz:Nat}{rows:List (List PV)}(h:Acc τ s p ty sz rows):Acc σ s p ty sz rows:=by
 rcases h with h|⟨k,h1,h2,h3⟩
 ·exact .inl h
 ·exact .inr ⟨k,h1,by rw[←hf.1];exact h2,h3⟩
def Zc (σ:Store):List (Nat×AObj)→Store
 |[]=>σ
 |(i,o)::l=>Zc (σ.set i (some o)) l
theorem qqf:∀(l:List (Nat×AObj)) (σ:Store),(Zc σ l).length=σ.length
 |[],σ=>rfl
 |(i,o)::l,σ=>by rw[Zc,qqf l];simp
theorem Jp:∀(l:List (Nat×AObj)) (σ:Store) (j:Nat),j∉l.map (·.1)→(Zc σ l)[j]? =σ[j]?
 |[],σ,j,_=>rfl
 | (i, o) :: l, σ, j, h => by
  simp only[List.map_cons,List.mem_cons,not_or]at h;rw[Zc,Jp l _ j h.2,List.getElem?_set_ne (fun e=>h.1 e.symm)]
theorem YH:∀(l:List (Nat×AObj)) (σ:Store) (i:Nat) (o:AObj),(l.map (·.1)).Nodup→(i,o)∈l→i<σ.length→(Zc σ l)[i]? =some (some o)
 |[],σ,i,o,_,h,_=>by cases h
 | (k, o') :: l, σ, i, o, hn, h, hi => by
  simp only[List.map_cons,List.nodup_cons]at hn;rw[Zc];rcases List.mem_cons.1 h with h|h
  ·injection h with h1 h2;subst h1 h2;rw[Jp l _ i hn.1,List.getElem?_set_self hi]
  ·exact YH l _ i o hn.2 h (by simpa using hi)
theorem Fr.eq {l:List (Nat×AObj)}(h:Fr σ τ (l.map (·.1)))(hn:(l.map (·.1)).Nodup)(hl:∀x∈l,x.1<σ.length∧τ[x.1]? =some (some x.2)):τ=Zc σ l:=by
 apply List.ext_getElem?;intro j;by_cases hj:j∈l.map (·.1)
 ·obtain⟨⟨i,o⟩,hx,rfl⟩:=List.mem_map.1 hj;obtain⟨h1,h2⟩:=hl _ hx;rw[h2,YH l σ i o hn hx h1]
 ·rw[h.2 j hj,Jp l σ j hj]
theorem Pre.get (h:Pre τ s){i:Nat}(hi:i<τ.length):s[i]? =τ[i]? :=by
 obtain⟨ex,rfl⟩:=h;rw[List.getElem?_append_left hi]
theorem Gx.back (h:Gx s i o)(hp:Pre τ s)(hi:i<τ.length):τ[i]? =some (some o):=by rw[←hp.get hi];exact h.get
inductive CnO:AObj→Prop
 |box {t:TypeId} {c:List PV}:(∀p∈c,Cn p)→CnO (.box t c)
 |map {kk:KK} {m:Value→Option PV} {n:Nat}:(∀k p,m k=some p→Cn p)→CnO (.map kk m n)
theorem CnO.cl {o:AObj}(h:CnO o)(n:Nat):ClO n o:=by
 cases h with
 |box h=>exact fun c hc=>(h c hc).cl n
 |map h=>exact fun k p hk=>(h k p hk).cl n
theorem CnO.mp {V:Type}{f:V→PV}(h:∀v,Cn (f v))(g:ByteArray→Option V)(n:Nat):CnO (.map .s (mpF f g) n):=.map fun k p hk=>by
 unfold mpF at hk;split at hk
 ·obtain⟨v,_,rfl⟩:=Option.map_eq_some_iff.1 hk;exact h v
 ·cases hk
def ClL (n:Nat)(l:List PV):Prop:=∀p∈l,Cl n p
theorem ClL.nil {n:Nat}:ClL n []:=fun p hp=>by simp at hp
theorem ClL.cons {n:Nat}{p:PV}{l:List PV}(h:Cl n p)(hl:ClL n l):ClL n (p::l):=fun q hq=>by
 rcases List.mem_cons.1 hq with rfl|hq
 ·exact h
 ·exact hl q hq
theorem ClO.bx {n:Nat}{t:TypeId}{c:List PV}(h:ClL n c):ClO n (.box t c):=h
def Pq (σ:Store)(l:List (Nat×AObj))(K:PV→Store→Prop)(r:PV)(s:Store):Prop:=Pre (Zc σ l) s∧∃r',Wk r r'∧Cn r'∧K r' (Zc σ l)
end
theorem Qw {σ:Store}{f:FuncId}{fn:Func}{c:Code}{args:List PV}{K:PV→Store→Prop}{Q:PV→Store→Prop}(hf:Try.prog.funcs[f]? =some fn)(hname:(fn.name== "runtime.NumGoroutine")=false)(hb:fn.body=some c)(hc:(Qm fn.ntmps c&&decide (args.length≤fn.ntmps))=true)
  (hQ:∀r s,Q r s→∃l:List (Nat×AObj),(l.map (·.1)).Nodup∧(∀x∈l,x.1<σ.length∧ClO σ.length x.2)∧Pq σ l K r s)
  (h:Ev Try.prog E.T c (qu args) σ (Bd E.T fn Q)):EC Try.prog f args σ K:=
 EC.drop (EC.wkr ((w_fn hf hname hb hc h).mono fun r s hq=>by
  obtain⟨l,hn,hl,⟨ex,he⟩,r',h2,h3,h4⟩:=hQ r s hq;refine⟨r',h2,Zc σ l,ex,he,qqf _ _,fun i ob hi=> ?_,h3.cl _,h4⟩;by_cases hj:i∈l.map (·.1)
  ·obtain⟨⟨i',o⟩,hx,rfl⟩:=List.mem_map.1 hj;have h5:=YH l σ i' o hn hx (hl _ hx).1;have:=hi.1.symm.trans h5;injection this with this;injection this with this;subst this;exact .inr (hl _ hx).2
  ·exact .inl ⟨by rw[←Jp l σ i hj];exact hi.1,hi.2⟩))
theorem w_fw {σ:Store}{f:FuncId}{fn:Func}{c:Code}{args:List PV}{K:PV→Store→Prop}{Q:PV→Store→Prop}(hf:Try.prog.funcs[f]? =some fn)(hname:(fn.name== "runtime.NumGoroutine")=false)(hb:fn.body=some c)(hc:(Qm fn.ntmps c&&decide (args.length≤fn.ntmps))=true)
  (hQ:∀r s,Q r s→∃(i:Nat) (t:TypeId) (c c':List PV),Gx s i (.box t c)∧WkL c c'∧∃l:List (Nat×AObj),(l.map (·.1)).Nodup∧(∀x∈l,x.1<σ.length∧ClO σ.length x.2)∧Pq σ l K r (List.set s i (some (.box t c'))))
  (h:Ev Try.prog E.T c (qu args) σ (Bd E.T fn Q)):EC Try.prog f args σ K:=
 EC.drop (EC.wkr (EC.wkb ((w_fn hf hname hb hc h).mono fun r s hq=>by
  obtain⟨i,t,c,c',hx,hw,l,hn,hl,⟨ex,he⟩,r',h2,h3,h4⟩:=hQ r s hq;refine⟨i,t,c,c',hx.get,hw.len,hw.get,r',h2,Zc σ l,ex,he,qqf _ _,fun i ob hi=> ?_,h3.cl _,h4⟩;by_cases hj:i∈l.map (·.1)
  ·obtain⟨⟨i',o⟩,hx,rfl⟩:=List.mem_map.1 hj;have h5:=YH l σ i' o hn hx (hl _ hx).1;have:=hi.1.symm.trans h5;injection this with this;injection this with this;subst this;exact .inr (hl _ hx).2
  ·exact .inl ⟨by rw[←Jp l σ i hj];exact hi.1,hi.2⟩)))
section
variable {P:Program} {σ σ' s s':Store} {μ μ':Nat→Nat} {w w':World} {e:Env}
def Wq (s:Store)(p q:PV):Prop:=∀F,Fok s F→∀μ w v,R (ov s F) μ w v p→R (ov s F) μ w v q
theorem Wq.wk {p q:PV}(h:Wk p q):Wq s p q:=fun F _ μ w v hr=>hr.wk h
theorem Wq.refl (p:PV):Wq s p p:=fun F _ μ w v hr=>hr
def Nilp (p:PV):Prop:=p=.v (.slice none 0 0)∨p=.e0∨p=.nv
theorem ov_hol {g:Nat}(hg:s[g]? =some (some .hol)){F:Nat→Option AObj}(hF:Fok s F):(ov s F)[g]? =some (some .hol):=YS hg (by simp)
theorem Wq.hol {g:Nat}{p:PV}(hg:s[g]? =some (some .hol))(hp:Nilp p):Wq s p (.vc g 0):=fun F hF μ w v hr=>by
 have ho:=ov_hol hg hF;have hv:∃A,v=.slice A 0 0:=by
  rcases hp with rfl|rfl|rfl
  ·exact⟨none,R_v hr⟩
  ·cases hr;exact⟨_,rfl⟩
  ·cases hr;exact⟨_,rfl⟩
 obtain⟨A,rfl⟩:=hv;refine .vc _ _ _ ⟨(List.getElem?_eq_some_iff.1 ho).1,by rw[ho];simp⟩ rfl (fun _=>⟨rfl,A,rfl⟩) fun e sz n ⟨c,hl⟩=> ?_;have:=hl.1;rw[ho]at this;cases this
theorem Gh.env {e e2:Env}(h:∀t,Wq s (e t) (e2 t)):Gh e s e2 s:=⟨qr.refl _,fun F hF μ w hs=>⟨μ,Ext.refl _ _ _,hs,fun t v hr=>h t F hF μ w v hr⟩⟩
theorem Gh.tmp {t:Tmp}{p q:PV}(he:e t=p)(h:Wq s p q):Gh e s (upd e (some t) q) s:=.env fun x=>by
 rw[Jw];split
 ·rename_i hx;rw[hx,he];exact h
 ·exact .refl _
inductive WqL (s:Store):List PV→List PV→Prop
 |nil:WqL s [] []
 |cons {p q:PV} {ps qs:List PV}:Wq s p q→WqL s ps qs→WqL s (p::ps) (q::qs)
theorem WqL.len {ps qs:List PV}(h:WqL s ps qs):ps.length=qs.length:=by
 induction h with
 |nil=>rfl
 |cons h1 h2 ih=>simp[ih]
theorem WqL.get {ps qs:List PV}(h:WqL s ps qs):∀(i:Nat) p q,ps[i]? =some p→qs[i]? =some q→Wq s p q:=by
 induction h with
 |nil=>intro i p q h1;simp at h1
 | cons h1 h2 ih =>
  intro i p q h3 h4;cases i with
  |zero=>simp at h3 h4;subst h3 h4;exact h1
  |succ i=>exact ih i p q (by simpa using h3) (by simpa using h4)
theorem Gh.boxq {i:Nat}{t:TypeId}{c c':List PV}(hg:s[i]? =some (some (.box t c)))(hw:WqL s c c'):Gh e s e (s.set i (some (.box t c'))):=by
 refine⟨qr.set _ hg (by simp),fun F hF μ w hs=>⟨μ,?_⟩⟩;have hFi:F i=none:=hF.non (by rw[hg];simp);have hl:live (ov s F) i (.box t c):=⟨by rw[YS?,hg];simp[zU hFi],by simp⟩;rw[Jr hFi];have hgr:w.grownBy w (some (μ i)):=⟨rfl,rfl,rfl,Nat.le_refl _,fun _ _ _=>rfl⟩;have e1:Ext (ov s F) μ w ((ov s F).set i (some (.box t c'))) μ w:=Jl (o':=.box t c') hs hl (by simp) (show Qa μ μ w w i (.box t c) (.box t c') from rfl) hgr (fun _ _ _ _ h=>by cases h);refine⟨e1,JL hs hl e1 hgr ?_,fun t v hr=>hr.ext hs e1⟩;obtain⟨cs,g1,g2,g3,g4⟩:=hs.obj _ _ hl;refine⟨cs,g1,g2.trans hw.len,g3,fun j y q hy hq=> ?_⟩;have hj:j<c.length:=by rw[hw.len];exact(List.getElem?_eq_some_iff.1 hq).1
 have hp:c[j]? =some c[j]:=List.getElem?_eq_getElem hj;exact(hw.get j _ q hp hq F hF μ w y (g4 j y _ hy hp)).ext hs e1
theorem YB {i:Nat}{o:AObj}(h:live (s++[some .hol]) i o):live s i o:=by
 have h0:=h;rcases qqB h with⟨_,h⟩|⟨_,h⟩
 ·exact h
 ·exact absurd h h0.2.2
theorem Gh.hole:Gh e s e (s++[some .hol]):=by
 refine⟨qr.push _,fun F hF μ w hs=>⟨μ,?_⟩⟩;rw[Yl hF];have hh:∀i,known (ov s F) i→zV (ov s F++[some .hol]) i→zV (ov s F) i:=fun i hk hh=>by
  unfold zV at hh ⊢
  rwa [List.getElem?_append_left hk.1]at hh
 have he:Ext (ov s F) μ w (ov s F++[some .hol]) μ w:=⟨rfl,rfl,rfl,Nat.le_refl _,by simp,fun i h=>zzr h,fun _ _ _=>rfl,fun id e sz len cur _ h=>⟨cur,h,fun _ _=>rfl⟩,hh,fun id o' _ h=>.inl ⟨o',YB h,Qa.same h.2 rfl rfl⟩,fun id o' h=>.inl ⟨(YB h).known,rfl⟩⟩;exact⟨he,⟨fun i j o o' hi hj=>hs.inj i j o o' (YB hi) (YB hj),fun i o hl=>(hs.obj i o (YB hl)).ext hs he rfl⟩,fun t v hr=>hr.ext hs he⟩
theorem Jj {g i:Nat}{o:AObj}(h:live (s.set g none) i o):i≠g∧live s i o:=by
 obtain⟨h1,h2⟩:=h;rw[List.getElem?_set]at h1;split at h1
 ·split at h1<;>cases h1
 ·rename_i hne;exact⟨fun e=>hne e.symm,h1,h2⟩
theorem hol_none {g i:Nat}(h:zV (s.set g none) i):zV s i:=by
 unfold zV at h ⊢;rw[List.getElem?_set]at h;split at h
 ·split at h<;>cases h
 ·exact h
theorem zzi {g:Nat}(hs:SR s μ w):Ext s μ w (s.set g none) μ w:=
 ⟨rfl,rfl,rfl,Nat.le_refl _,by simp,fun i h=>⟨by simpa using h.1,by
  rw[List.getElem?_set];split
  ·split<;>simp
  ·exact h.2⟩,fun _ _ _=>rfl,fun id e sz len cur _ h=>⟨cur,h,fun _ _=>rfl⟩,fun i _ hh=>hol_none hh,fun id o' _ h=>.inl ⟨o',(Jj h).2,Qa.same h.2 rfl rfl⟩,fun id o' h=>.inl ⟨(Jj h).2.known,rfl⟩⟩
theorem sr_kill {g:Nat}(hs:SR s μ w):SR (s.set g none) μ w:=
 ⟨fun i j o o' hi hj=>hs.inj i j o o' (Jj hi).2 (Jj hj).2,fun i o hl=>(hs.obj i o (Jj hl).2).ext hs (zzi hs) rfl⟩
theorem flat_at {sz:Nat}:∀(rows:List (List PV)) (i j:Nat) (r:List PV) (p:PV),(∀r∈rows,r.length=sz)→rows[i]? =some r→r[j]? =some p→rows.flatten[i*sz+j]? =some p
 |[],i,j,r,p,_,h,_=>by simp at h
 | r0 :: rows, 0, j, r, p, hr, h1, h2 => by
  simp at h1;subst h1;have hj:=(List.getElem?_eq_some_iff.1 h2).1;rw[List.flatten_cons,Nat.zero_mul,Nat.zero_add,List.getElem?_append_left hj];exact h2
 | r0 :: rows, i + 1, j, r, p, hr, h1, h2 => by
  have hl:=hr r0 (by simp);rw[List.flatten_cons,List.getElem?_append_right (by rw[hl,Nat.succ_mul];omega),hl,show(i+1)*sz+j - sz=i*sz+j by rw[Nat.succ_mul];omega];exact flat_at rows i j r p (fun r h=>hr r (by simp[h])) (by simpa using h1) h2
theorem vc_sl {g n sz:Nat}{et:TypeId}{rows:List (List PV)}{v:Value}(hs:SR s μ w)(hg:s[g]? =some (some (.vec et sz n rows.flatten)))(hr:∀r∈rows,r.length=sz)(hn:rows.length=n)(h:R s μ w v (.vc g n)):R (s.set g none) μ w v (.sl rows):=by
 have hl:live s g (.vec et sz n rows.flatten):=⟨hg,by simp⟩;obtain⟨cap,cur,rfl,hcur,q1,q2,q3⟩:=qqs h hg;obtain⟨cs,h1,h2,h3,h4,h5⟩:=hs.obj g _ hl;obtain rfl:cs=cur:=by rw[hcur]at h1;injection h1 with h1;injection h1 with h1;exact h1.symm
 subst hn;have hidx:∀i j,i<rows.length→j<sz→i*sz+j<rows.flatten.length:=fun i j hi hj=>by
  rw[h2];have:=Nat.mul_le_mul_right sz hi;rw[Nat.succ_mul]at this;omega
 have hget:∀i j,i<rows.length→j<sz→cs[i*sz+j]? =some (cs.getD (i*sz+j) undef):=fun i j hi hj=>by
  have:=hidx i j hi hj;rw[Array.getElem?_eq_getElem (by omega),Array.getD_eq_getD_getElem?,Array.getElem?_eq_getElem (by omega)];rfl
 refine .sl _ _ sz rows (fun i j=>cs.getD (i*sz+j) undef) q1 hr (fun i j hi hj=>⟨?_,?_⟩) (fun i j hi hj=>h4 _ _ (hidx i j hi hj) (hget i j hi hj)) fun i j r p hr1 hp=> ?_
 ·rw[zX];simp only[World.cell?,hcur,Nat.zero_add,Option.isSome_none,Bool.false_eq_true,if_false];exact hget i j hi hj
 ·rintro⟨id,o,hl',hm,_⟩
  rw[add_blk]at hm;obtain⟨k1,k2⟩:=Jj hl';exact k1 (hs.inj id g _ _ k2 hl hm)
 ·have hi:=(List.getElem?_eq_some_iff.1 hr1).1;have hj:=(List.getElem?_eq_some_iff.1 hp).1;rw[hr r (List.mem_of_getElem? hr1)]at hj;exact(h5 _ _ p (hget i j hi hj) (flat_at rows i j r p hr hr1 hp)).ext hs (zzi hs)
theorem EC.gh {f:FuncId}{args:List PV}{K:PV→Store→Prop}(h:EC P f args σ fun r s=>∃r' s',Gh (fun _=>r) s (fun _=>r') s'∧K r' s'):EC P f args σ K:=by
 refine⟨?_,fun F hF μ w vs hs hvs=> ?_⟩
 ·obtain⟨r,s,h1,r',s',h2,h3⟩:=h.1;exact⟨r',s',h1.trans h2.1,h3⟩
 ·have fin : ∀ x w', (∃ r σ1 μ', Ext (ov σ F) μ w σ1 μ' w' ∧ SR σ1 μ' w' ∧ R σ1 μ' w' x r ∧ ∃ s0, σ1 = ov s0 F ∧ qr σ s0 ∧ ∃ r' s', Gh (fun _ => r) s0 (fun _ => r') s' ∧ K r' s') →
    ∃r σ1 μ',Ext (ov σ F) μ w σ1 μ' w'∧SR σ1 μ' w'∧R σ1 μ' w' x r∧∃s0,σ1=ov s0 F∧qr σ s0∧K r s0:=by
   rintro x w' ⟨r,σ1,μ',k1,k2,k3,s0,rfl,k5,r',s',hg,hk⟩
   obtain⟨μ2,h1,h2,h3⟩:=hg.2 F (k5.Fok hF) μ' w' k2;exact⟨r',_,μ2,k1.trans hs h1,h2,h3 0 x k3,s',rfl,k5.trans hg.1,hk⟩
  rcases h.2 F hF μ w vs hs hvs with⟨a,b⟩|⟨x,w',a,b⟩
  ·exact .inl ⟨a,b.mono fun e w' ⟨x,hx,hp⟩=>⟨x,hx,fin x w' hp⟩⟩
  ·exact .inr ⟨x,w',a,fin x w' b⟩
theorem flat_drop {sz:Nat}:∀(rows:List (List PV)) (i:Nat) (r:List PV),(∀r∈rows,r.length=sz)→rows[i]? =some r→rows.flatten.drop (i*sz)=r++(rows.drop (i+1)).flatten
 |[],i,r,_,h=>by simp at h
 | r0 :: rows, 0, r, hr, h => by
  simp at h;subst h;simp
 | r0 :: rows, i + 1, r, hr, h => by
  have hl:=hr r0 (by simp);rw[List.flatten_cons,Nat.succ_mul,Nat.add_comm,←List.drop_drop,List.drop_left' hl];exact flat_drop rows i r (fun r h=>hr r (by simp[h])) (by simpa using h)
theorem flat_take {sz:Nat}:∀(rows:List (List PV)) (i:Nat),(∀r∈rows,r.length=sz)→i≤rows.length→rows.flatten.take (i*sz)=(rows.take i).flatten
 |rows,0,hr,h=>by simp
 |[],i+1,hr,h=>by simp at h
 | r0 :: rows, i + 1, hr, h => by
  have hl:=hr r0 (by simp);rw[List.flatten_cons,Nat.succ_mul,Nat.add_comm,List.take_append,hl,List.take_of_length_le (by omega),Nat.add_sub_cancel_left,flat_take rows i (fun r h=>hr r (by simp[h])) (by simpa using h)];simp
theorem vec_splice {sz i off:Nat}{rows:List (List PV)}{r c:List PV}(hr:∀r∈rows,r.length=sz)(hi:rows[i]? =some r)(ho:off+c.length≤sz):zz rows.flatten (i*sz+off) c=(rows.set i (zz r off c)).flatten:=by
 have hl:=hr r (List.mem_of_getElem? hi);have hlt:=(List.getElem?_eq_some_iff.1 hi).1;have hd:=flat_drop rows i r hr hi;have ht:=flat_take rows i hr (by omega);unfold zz;rw[List.set_eq_take_append_cons_drop,if_pos hlt,List.flatten_append,List.flatten_cons,←ht];have e1:rows.flatten.take (i*sz+off)=rows.flatten.take (i*sz)++r.take off:=by
  rw[List.take_add,hd,List.take_append_of_le_length (by omega)]
 have e2:rows.flatten.drop (i*sz+off+c.length)=r.drop (off+c.length)++(rows.drop (i+1)).flatten:=by
  rw[Nat.add_assoc,←List.drop_drop,hd,List.drop_append_of_le_length (by omega)]
 rw[e1,e2];simp
def tkO (e:TypeId)(sz n:Nat):AObj:=if n=0 then .hol else .tok e sz n
def vcO (e:TypeId)(sz:Nat)(rows:List (List PV)):AObj:=if rows=[]then .hol else .vec e sz rows.length rows.flatten
theorem Wq.holw {g:Nat}{p:PV}(hg:s[g]? =some (some .hol))(hp:Nilp p):Wq s p (.ow g []):=fun F hF μ w v hr=>by
 have ho:=ov_hol hg hF;have hv:∃A,v=.slice A 0 0:=by
  rcases hp with rfl|rfl|rfl
  ·exact⟨none,R_v hr⟩
  ·cases hr;exact⟨_,rfl⟩
  ·cases hr;exact⟨_,rfl⟩
 obtain⟨A,rfl⟩:=hv;refine .ow _ _ _ (.sl0 A 0) ⟨(List.getElem?_eq_some_iff.1 ho).1,by rw[ho];simp⟩ (fun _=>⟨rfl,A,rfl⟩) fun e sz n hl=> ?_;have:=hl.1;rw[ho]at this;cases this
theorem Nilp.e0:Nilp .e0:=.inr (.inl rfl)
theorem Nilp.v:Nilp (.v (.slice none 0 0)):=.inl rfl
section
variable {ty tl:TypeId} {ti:TI} {a b i k n:Nat} {g m:Bool} {z:List Z} {rows ns vr:List (List PV)} {x:PV}
theorem Yu (hT:T tl=some ⟨a,b,g,m,z,.slc ty⟩)(hE:T ty=some ti)(hg:s[i]? =some (some (tkO ty ti.sz n)))(hln:rows.length=n)(hr:∀r∈rows,r.length=ti.sz)(hn:∀r∈ns,r.length=ti.sz)(hne:ns≠[])(h0:0<ti.sz)
  (hb:(rows.length+ns.length)*ti.bytes≤140737488355328∧rows.length+ns.length≤140737488355328) (hv:rows++ns=vr) (hk:vr.length=k) (hx:E.rowsOf x=some ns):qB T tl (.ow i rows) x s=.eff (.ow i vr) (s.set i (some (tkO ty ti.sz k))):=by
 subst hln hv hk;have hl:ns.length≠0:=fun h=>hne (List.length_eq_zero_iff.1 h);simp only[qB,hT,hE,hx,if_neg hne];rw[if_pos ⟨hn,h0⟩,hg];by_cases h:rows.length=0
 ·have hr0:=List.length_eq_zero_iff.1 h;subst hr0;rw[show tkO ty ti.sz ([]:List (List PV)).length=.hol from rfl];simp only[List.length_nil,Nat.zero_add]at hb;simp only[true_and,if_pos hb,List.nil_append,tkO,if_neg hl]
 ·rw[tkO,if_neg h];simp only;rw[if_pos ⟨trivial,trivial,trivial,hr,hb⟩,tkO,if_neg (by rw[List.length_append];omega),List.length_append]
theorem setO_fit {j sz o k:Nat}{r:List PV}(hr:∀r∈rows,r.length=sz)(hi:rows[j]? =some r)(ho:o+k≤sz):j*sz+o+k≤rows.flatten.length:=by
 have hlen:j*sz+sz≤rows.flatten.length:=by
  rw[YC rows hr];have:=(List.getElem?_eq_some_iff.1 hi).1
  calc j*sz+sz=(j+1)*sz:=by rw[Nat.succ_mul]
   _≤rows.length*sz:=Nat.mul_le_mul_right _ this
 omega
theorem vc_ne (hne:rows≠[])(e:TypeId)(sz:Nat):vcO e sz rows=.vec e sz rows.length rows.flatten:=by rw[vcO,if_neg hne]
theorem vc_len (hT:T tl=some ⟨a,b,g,m,z,.slc ty⟩){sz:Nat}(hg:s[i]? =some (some (vcO ty sz rows)))(hn:rows.length=n):lenX T tl (.vc i n) s=.val (.v (.int .i64 n)):=by
 subst hn;by_cases h:rows=[]
 ·subst h;rw[show vcO ty sz []=.hol from rfl]at hg;simp[lenX,hT,hg]
 ·rw[vc_ne h]at hg;simp[lenX,hT,hg]
theorem vc_app (hT:T tl=some ⟨a,b,g,m,z,.slc ty⟩)(hE:T ty=some ti)(hg:s[i]? =some (some (vcO ty ti.sz rows)))(hln:rows.length=n)(hn:∀r∈ns,r.length=ti.sz)(hne:ns≠[])(h0:0<ti.sz)
  (hb:(n+ns.length)*ti.bytes≤140737488355328∧n+ns.length≤140737488355328) (hv:rows++ns=vr) (hk:vr.length=k) (hx:E.rowsOf x=some ns):qB T tl (.vc i n) x s=.eff (.vc i k) (s.set i (some (vcO ty ti.sz vr))):=by
 subst hln hv hk;have hl:ns.length≠0:=fun h=>hne (List.length_eq_zero_iff.1 h);simp only[qB,hT,hE,hx,if_neg hne];rw[if_pos ⟨hn,h0⟩,hg];have hne2:rows++ns≠[]:=fun h=>hne (List.append_eq_nil_iff.1 h).2;by_cases h:rows=[]
 ·subst h;rw[show vcO ty ti.sz []=.hol from rfl];simp only[List.length_nil,Nat.zero_add]at hb;simp only[List.length_nil,true_and,if_pos hb,List.nil_append,vc_ne hne]
 ·rw[vc_ne h];simp only;rw[if_pos ⟨trivial,trivial,trivial,hb⟩,vc_ne hne2,List.length_append,List.flatten_append]
theorem vc_put {r c:List PV}{sz off j:Nat}{rows':List (List PV)}(hr:∀r∈rows,r.length=sz)(hi:rows[j]? =some r)(hk:c.length=k)(ho:off+k≤sz)(hs:rows.set j (zz r off c)=rows'):rows.flatten.take (j*sz+off)++c++rows.flatten.drop (j*sz+off+k)=rows'.flatten:=by
 subst hs hk;exact vec_splice hr hi ho
theorem vc_vec {sz:Nat}(hne:rows≠[])(hn:rows.length=n)(e:TypeId):AObj.vec e sz n rows.flatten=vcO e sz rows:=by subst hn;exact(vc_ne hne e sz).symm
theorem vc_get {j sz:Nat}{r:List PV}{e:TypeId}(hg:s[i]? =some (some (vcO e sz rows)))(hj:rows[j]? =some r)(hn:rows.length=n):s[i]? =some (some (.vec e sz n rows.flatten)):=by
 rw[hg,vc_vec (by rintro rfl;simp at hj) hn e]
end
theorem Wk.sls {A:List (List PV)}{raw can:List PV}(h:WkL raw can):Wk (.sl (A++[raw])) (.sl (A++[can])):=by
 refine .sl (by simp) (fun i r r' h1 h2=> ?_) fun i j r r' p q h1 h2 h3 h4=> ?_
 ·by_cases hi:i<A.length
  ·rw[List.getElem?_append_left hi]at h1 h2;rw[h1]at h2;injection h2 with h2;rw[h2]
  ·rw[List.getElem?_append_right (by omega)]at h1 h2;cases hk:i - A.length with
   |zero=>rw[hk]at h1 h2;simp at h1 h2;subst h1 h2;exact h.len
   |succ k=>rw[hk]at h1;simp at h1
 ·by_cases hi:i<A.length
  ·rw[List.getElem?_append_left hi]at h1 h2;rw[h1]at h2;injection h2 with h2;subst h2;rw[h3]at h4;injection h4 with h4;subst h4;exact .refl _
  ·rw[List.getElem?_append_right (by omega)]at h1 h2;cases hk:i - A.length with
   |zero=>rw[hk]at h1 h2;simp at h1 h2;subst h1 h2;exact h.get j p q h3 h4
   |succ k=>rw[hk]at h1;simp at h1
theorem Wk.oos {t:Nat}{A R:List (List PV)}{raw can:List PV}(h:WkL raw can)(hv:A++[can]=R):Wk (.ow t (A++[raw])) (.ow t R):=by
 subst hv;exact .oo (by simp) (.sls h)
theorem Jg {r:List PV}{n:Nat}(h:r.length=n):∀x∈[r],x.length=n:=fun x hx=>by rw[List.mem_singleton.1 hx];exact h
theorem WkL.app {a b c d:List PV}(h:WkL a b)(k:WkL c d):WkL (a++c) (b++d):=by
 induction h with
 |nil=>exact k
 |cons h1 h2 ih=>exact .cons h1 ih
theorem ClO.tk {n:Nat}{e sz k:Nat}:ClO n (tkO e sz k):=by unfold tkO;split<;>trivial
theorem ClO.vc {n:Nat}{e sz:Nat}{rows:List (List PV)}(h:∀r∈rows,∀p∈r,Cl n p):ClO n (vcO e sz rows):=by
 unfold vcO;split
 ·trivial
 ·intro c hc;obtain⟨r,h1,h2⟩:=List.mem_flatten.1 hc;exact h r h1 c h2
theorem Gh.vec {i n sz:Nat}{t:TypeId}{c c':List PV}(hg:s[i]? =some (some (.vec t sz n c)))(hw:WkL c c'):Gh e s e (s.set i (some (.vec t sz n c'))):=by
 refine⟨qr.set _ hg (by simp),fun F hF μ w hs=>⟨μ,?_⟩⟩;have hFi:F i=none:=hF.non (by rw[hg];simp);have hl:live (ov s F) i (.vec t sz n c):=⟨by rw[YS?,hg];simp[zU hFi],by simp⟩;rw[Jr hFi];have hgr:w.grownBy w (some (μ i)):=⟨rfl,rfl,rfl,Nat.le_refl _,fun _ _ _=>rfl⟩;have e1:Ext (ov s F) μ w ((ov s F).set i (some (.vec t sz n c'))) μ w:=Jl (o':=.vec t sz n c') hs hl (by simp) (show Qa μ μ w w i (.vec t sz n c) (.vec t sz n c') from⟨rfl,rfl,Nat.le_refl _,fun _=>⟨rfl,.refl _ _⟩⟩) hgr (fun _ _ _ _ h=>by cases h);refine⟨e1,JL hs hl e1 hgr ?_,fun t v hr=>hr.ext hs e1⟩;obtain⟨cs,g1,g2,g3,g4,g5⟩:=hs.obj _ _ hl;have hlen:=hw.len;refine⟨cs,g1,by omega,by omega,fun j y hj hy=>g4 j y (by omega) hy,fun j y q hy hq=> ?_⟩;have hj:j<c.length:=by rw[hlen];exact(List.getElem?_eq_some_iff.1 hq).1
 have hp:c[j]? =some c[j]:=List.getElem?_eq_getElem hj;exact((g5 j y _ hy hp).wk (hw.get j _ q hp hq)).ext hs e1
end
theorem Gh.frzb {e:Env}{s:Store}{i g n sz k:Nat}{t et:TypeId}{c:List PV}{rows:List (List PV)}(hb:s[i]? =some (some (.box t c)))(hk:c[k]? =some (.vc g n))(hg:s[g]? =some (some (vcO et sz rows)))(hr:∀r∈rows,r.length=sz)(hn:rows.length=n):Gh e s e ((s.set g none).set i (some (.box t (c.set k (.sl rows))))):=by
 have hgi:g≠i:=fun h=>by
  subst h;rw[hb]at hg;injection hg with hg;injection hg with hg;unfold vcO at hg;split at hg<;>cases hg
 have hvc:vcO et sz rows≠ .res:=by unfold vcO;split<;>simp
 refine⟨(qr.set _ hg (by simpa using hvc)).trans (qr.set _ (by rw[List.getElem?_set_ne hgi];exact hb) (by simp)),fun F hF μ w hs=>⟨μ,?_⟩⟩;have hFg:F g=none:=hF.non (by rw[hg];simpa using hvc);have hFi:F i=none:=hF.non (by rw[hb];simp);rw[Jr hFi,Jr hFg];have hl0:live (ov s F) i (.box t c):=⟨by rw[YS?,hb];simp[zU hFi],by simp⟩;obtain⟨cs,g1,g2,g3,g4⟩:=hs.obj _ _ hl0;have conv:∀v,R (ov s F) μ w v (.vc g n)→R ((ov s F).set g none) μ w v (.sl rows):=fun v hv=>by
  by_cases h:rows=[]
  ·subst h;rw[show vcO et sz []=.hol from rfl]at hg;obtain⟨_,A,rfl⟩:=vc_hol hv (ov_hol hg hF);exact .sl0 A 0
  ·rw[vc_ne h]at hg;exact vc_sl hs (YS (hn▸hg) (by simp)) hr hn hv
 have hs1:=sr_kill (g:=g) hs;have e0:Ext (ov s F) μ w ((ov s F).set g none) μ w:=zzi hs;have hl:live ((ov s F).set g none) i (.box t c):=⟨by rw[List.getElem?_set_ne hgi];exact hl0.1,by simp⟩;have hgr:w.grownBy w (some (μ i)):=⟨rfl,rfl,rfl,Nat.le_refl _,fun _ _ _=>rfl⟩;have e1:Ext ((ov s F).set g none) μ w (((ov s F).set g none).set i (some (.box t (c.set k (.sl rows))))) μ w:=Jl (o':=.box t (c.set k (.sl rows))) hs1 hl (by simp) (show Qa μ μ w w i (.box t c) (.box t (c.set k (.sl rows))) from rfl) hgr (fun _ _ _ _ h=>by cases h);refine⟨e0.trans hs e1,JL hs1 hl e1 hgr ?_,fun t v hr=>(hr.ext hs e0).ext hs1 e1⟩;refine⟨cs,g1,by rw[List.length_set];exact g2,g3,fun j y q hy hq=> ?_⟩;by_cases hj:k=j
 ·subst hj;have hkl:=(List.getElem?_eq_some_iff.1 hk).1;rw[List.getElem?_set_self hkl]at hq;obtain rfl:=Option.some.inj hq;exact(conv y (g4 k y _ hy hk)).ext hs1 e1
 ·rw[List.getElem?_set_ne hj]at hq;exact((g4 j y q hy hq).ext hs e0).ext hs1 e1
theorem Nilp.nv:Nilp .nv:=.inr (.inr rfl)
theorem Gx.ap {s:Store}{i j:Nat}{o o':AObj}(h:Gx s i o)(h':Gx s j o')(hne:o≠o':=by(intro h;first|(cases h;done)|(unfold tkO at h;split at h<;>cases h)|(unfold vcO at h;split at h<;>cases h))):i≠j:=h.apart h' hne
abbrev eI (e:Env)(t:Nat)(n:Int):Prop:=e t=.v (.int .i64 n)
abbrev eL {α:Type}(e:Env)(t:Nat)(l:List α):Prop:=e t=.v (.int .i64 ((List.length l:Nat):Int))
abbrev eB (e:Env)(t:Nat)(b:Bool):Prop:=e t=.v (.bool b)
abbrev eT (e:Env)(t:Nat)(b:ByteArray):Prop:=e t=.v (.string b)
abbrev eP (e:Env)(t:Nat)(i:Nat):Prop:=e t=.pt i 0
abbrev eS {α:Type}(e:Env)(t:Nat)(f:α→List PV)(l:List α):Prop:=e t=.sl (List.map f l)
abbrev CLE (a b:List PV)(k:Nat):Prop:=(∀i:Nat,a[i]? =b[i]?)∧a.length=k∧(∀n,a.take n=b.take n)∧(∀n,a.drop n=b.drop n)∧a.all PV.one=true
end Go.Proofs.Ytohmmfimedgccaa.E
end
section
namespace Go.Proofs.Ytohmmfimedgccaa.E
set_option linter.unusedVariables false
def RC (w:World)(cs:List Value)(ps:List PV):Prop:=cs.length=ps.length∧∀(i:Nat) v p,cs[i]? =some v→ps[i]? =some p→v.oneCell'=true∧R [] (fun _=>0) w v p
theorem RC.one {w:World}{v:Value}{p:PV}(h1:v.oneCell'=true)(h:R [] (fun _=>0) w v p):RC w [v] [p]:=⟨rfl,fun i x q hx hq=>by
 match i with
 |0=>simp at hx hq;subst hx hq;exact⟨h1,h⟩
 |n+1=>simp at hx⟩
theorem RC.app {w:World}{cs ds:List Value}{ps qs:List PV}(h:RC w cs ps)(h':RC w ds qs):RC w (cs++ds) (ps++qs):=⟨by simp[h.1,h'.1],fun i v p hv hp=>by
 by_cases hi:i<cs.length
 ·rw[List.getElem?_append_left hi]at hv;rw[List.getElem?_append_left (by have:=h.1;omega)]at hp;exact h.2 i v p hv hp
 ·rw[List.getElem?_append_right (by omega)]at hv;rw[List.getElem?_append_right (by have:=h.1;omega),←h.1]at hp;exact h'.2 _ v p hv hp⟩
def RO {α:Type}(P:Program)(t:TypeId)(f:α→List PV)(G:α→Prop)(n:Nat):Prop:=
 ∀(H:Type) (enc:TypeId×Value→H) (w:World) (base:Nat) (spare:Nat→Bool) (held:Bool) (m:Nat),m≤n→∀(cs:List Value) (r:DataW H×List MemPlace),
  DataW.trod enc P w base spare held m t cs=some r→(∀x∈DataW.weights P t r.1,x≤reachBytes)→∃x,RC w cs (f x)∧G x
theorem RO.down {α:Type}{P:Program}{t:TypeId}{f:α→List PV}{G:α→Prop}{n k:Nat}(h:RO P t f G n)(hk:k≤n):RO P t f G k:=
 fun H enc w base spare held m hm cs r hr hw=>h H enc w base spare held m (Nat.le_trans hm hk) cs r hr hw
theorem RO.imp {α:Type}{P:Program}{t:TypeId}{f:α→List PV}{G G':α→Prop}{n:Nat}(h:RO P t f G n)(hg:∀x,G x→G' x):RO P t f G' n:=
 fun H enc w base spare held m hm cs r hr hw=>let ⟨x,h1,h2⟩:=h H enc w base spare held m hm cs r hr hw;⟨x,h1,hg x h2⟩
theorem ro_int {P:Program}{t:TypeId}{k:IntKind}(ht:P.underlying t=some (.int k))(n:Nat):RO P t (fun x:Int=>[.v (.int k x)]) (fun x=>(Lit.int k x).wf=true) n:=by
 intro H enc w base spare held m _ cs r hr _;obtain⟨x,rfl,_,hw⟩:=DataW.trod_int ht hr;exact⟨x,.one rfl (.v _ rfl),hw⟩
theorem ro_string {P:Program}{t:TypeId}(ht:P.underlying t=some .string)(n:Nat):RO P t (fun x:ByteArray=>[.v (.string x)]) (fun x=>x.size≤reachBytes) n:=by
 intro H enc w base spare held m _ cs r hr hw;obtain⟨x,rfl,rfl,_⟩:=DataW.trod_string ht hr;refine⟨x,.one rfl (.v _ rfl),?_⟩;have:=hw x.data.toList.length (by simp[DataW.weights])
 rwa [Array.length_toList]at this
theorem list_of {α:Type}{n:Nat}{Q:Nat→α→Prop}(h:∀i,i<n→∃x,Q i x):∃l:List α,l.length=n∧∀i x,l[i]? =some x→Q i x:=by
 induction n with
 |zero=>exact⟨[],rfl,fun i x hi=>by simp at hi⟩
 | succ n ih =>
  obtain⟨l,hl,hq⟩:=ih fun i hi=>h i (by omega);obtain⟨x,hx⟩:=h n (by omega);refine⟨l++[x],by simp[hl],fun i y hi=> ?_⟩;by_cases hlt:i<l.length
  ·rw[List.getElem?_append_left hlt]at hi;exact hq i y hi
  ·rw[List.getElem?_append_right (by omega)]at hi;have h0:i - l.length=0:=by
    rcases Nat.eq_zero_or_pos (i - l.length)with h|h
    ·exact h
    ·rw[List.getElem?_eq_none (by simp;omega)]at hi;cases hi
   rw[h0]at hi;simp only[List.getElem?_cons_zero,Option.some.injEq]at hi;rw[←hi,show i=n by omega];exact hx
theorem YN {H:Type}{P:Program}{e:TypeId}:∀{l:List (DataW H)} {i:Nat} {d:DataW H} {x:Nat},l[i]? =some d→x∈DataW.weights P e d→x∈DataW.weightsAll P e l
 |[],i,d,x,h,_=>by simp at h
 | y :: l, 0, d, x, h, hx => by
  simp at h;subst h;unfold DataW.weightsAll;exact List.mem_append_left _ hx
 | y :: l, i + 1, d, x, h, hx => by
  unfold DataW.weightsAll;exact List.mem_append_right _ (YN (by simpa using h) hx)
theorem ro_slice {α:Type}{P:Program}{t e:TypeId}{f:α→List PV}{G:α→Prop}{n sz:Nat}(ht:P.underlying t=some (.slice e))(hsz:P.cellsOf e=sz)(hf:∀x,(f x).length=sz)(h:RO P e f G n):
  RO P t (fun xs:List α=>[.sl (xs.map f)]) (fun xs=>xs.length*P.bytesOf e≤reachBytes∧∀x∈xs,G x) (n+1):=by
 intro H enc w base spare held m hm cs r hr hwt;rcases DataW.trod_slice ht hr with⟨rfl,rfl⟩|⟨a,len,cap,elems,rest,k,rfl,rfl,rfl,_,hl,hc,hlen,hel,_⟩
 ·exact⟨[],.one rfl (.sl0 _ _),by simp,by simp⟩
 ·have hW:∀x∈DataW.weights P t (DataW.slice (elems.map (·.1)) (rest.map (·.1))),x≤reachBytes:=hwt;have hW1:=hW (((elems.map (·.1)).length+(rest.map (·.1)).length)*P.bytesOf e) (by simp[DataW.weights,ht]);have hk:∀i,i<len→∃x:α,(∃c,c.length=sz∧RC w c (f x)∧∀j u,c[j]? =some u→w.cell? (a.add (i*sz+j))=some u)∧G x:=by
   intro i hi;have h1:=hel i hi;rw[List.getElem?_eq_getElem (by omega)]at h1;obtain⟨c,h2,h3⟩:=Option.bind_eq_some_iff.1 h1;obtain⟨x,hx,hg⟩:=h H enc w base spare held k (by omega) c _ h3 (fun q hq=>hW q (by
    simp only[DataW.weights,ht,List.mem_cons,List.mem_append];exact .inr (.inl (YN (i:=i) (by rw[List.getElem?_map,List.getElem?_eq_getElem (by omega)];rfl) hq))))
   obtain⟨_,hcl,hcc⟩:=World.cells?_some h2;refine⟨x,⟨c,by rw[hcl,hsz],hx,fun j u hu=> ?_⟩,hg⟩;have hj:j<c.length:=(List.getElem?_eq_some_iff.1 hu).1;rw[←Go.Deep.add_add,←hsz,hcc j (by omega)];exact hu
  obtain⟨l,hll,hq⟩:=list_of hk;refine⟨l,.one rfl ?_,?_,?_⟩
  ·have hlm:(l.map f).length=len:=by simp[hll]
   have hsome:∀i,i<len→∃x,l[i]? =some x:=fun i hi=>⟨_,List.getElem?_eq_getElem (by omega)⟩;have:=R.sl (σ:=[]) (μ:=fun _=>0) (w:=w) a cap sz (l.map f) (fun i j=>(w.cell? (a.add (i*sz+j))).getD (.bool false)) (by rw[hlm];exact hl) (fun r hr=>by obtain⟨x,_,rfl⟩:=List.mem_map.1 hr;exact hf x)
    (fun i j hi hj=>by
     rw[hlm]at hi;obtain⟨x,hx⟩:=hsome i hi;obtain⟨⟨c,h1,h2,h3⟩,_⟩:=hq i x hx;have h4:=h3 j _ (List.getElem?_eq_getElem (by omega:j<c.length));refine⟨by rw[h4];rfl,?_⟩
     rintro⟨id,o,hl,_⟩
     have:=hl.1;simp at this)
    (fun i j hi hj=>by
     rw[hlm]at hi;obtain⟨x,hx⟩:=hsome i hi;obtain⟨⟨c,h1,h2,h3⟩,_⟩:=hq i x hx;have h4:=h3 j _ (List.getElem?_eq_getElem (by omega:j<c.length));rw[h4];exact(h2.2 j _ _ (List.getElem?_eq_getElem (by omega)) (List.getElem?_eq_getElem (by rw[hf];omega))).1)
    (fun i j r p hr hp=>by
     rw[List.getElem?_map]at hr;obtain⟨x,hx,rfl⟩:=Option.map_eq_some_iff.1 hr;obtain⟨⟨c,h1,h2,h3⟩,_⟩:=hq i x hx;have hj:=(List.getElem?_eq_some_iff.1 hp).1;rw[hf]at hj;have h4:=h3 j _ (List.getElem?_eq_getElem (by omega:j<c.length));rw[h4];exact(h2.2 j _ _ (List.getElem?_eq_getElem (by omega)) hp).2)
   rw[hlm]at this;exact this
  ·rw[List.length_map,List.length_map]at hW1;rw[hll,←hlen];exact Nat.le_trans (Nat.mul_le_mul_right _ (Nat.le_add_right _ _)) hW1
  ·intro x hx;obtain⟨i,hi⟩:=List.getElem?_of_mem hx;exact(hq i x hi).2
def RF {β:Type}(P:Program)(fs:List Field)(o cells:Nat)(f:β→List PV)(G:β→Prop)(n:Nat):Prop:=
 ∀(H:Type) (enc:TypeId×Value→H) (w:World) (base:Nat) (spare:Nat→Bool) (held:Bool) (m:Nat),m≤n→∀(cs:List Value),cs.length=cells→
  (∀fd∈fs,∃r,DataW.trod enc P w base spare held m fd.type ((cs.drop fd.offset).take (P.cellsOf fd.type))=some r∧∀x∈DataW.weights P fd.type r.1,x≤reachBytes)→∃x,RC w (cs.drop o) (f x)∧G x
theorem Yj {α:Type}{P:Program}{fd:Field}{o cells:Nat}{f:α→List PV}{G:α→Prop}{n:Nat}(ho:fd.offset=o)(hs:o+P.cellsOf fd.type=cells)(h:RO P fd.type f G n):RF P [fd] o cells f G n:=by
 intro H enc w base spare held m hm cs hl hf;obtain⟨r,hr,hw⟩:=hf fd (by simp);rw[ho,List.take_of_length_le (by rw[List.length_drop];omega)]at hr;exact h H enc w base spare held m hm _ r hr hw
theorem zu {α β:Type}{P:Program}{fd:Field}{fs:List Field}{o o' cells:Nat}{f:α→List PV}{f':β→List PV}{G:α→Prop}{G':β→Prop}{n:Nat}(ho:fd.offset=o)(hs:o+P.cellsOf fd.type=o')(h:RO P fd.type f G n)(h':RF P fs o' cells f' G' n):
  RF P (fd::fs) o cells (fun x:α×β=>f x.1++f' x.2) (fun x=>G x.1∧G' x.2) n:=by
 intro H enc w base spare held m hm cs hl hf;obtain⟨r,hr,hw⟩:=hf fd (by simp);obtain⟨x,hx,hg⟩:=h H enc w base spare held m hm _ r hr hw;obtain⟨y,hy,hg'⟩:=h' H enc w base spare held m hm cs hl fun g hg=>hf g (by simp[hg]);refine⟨(x,y),?_,hg,hg'⟩;have:=hx.app hy;rw[ho,←hs,←List.drop_drop,List.take_append_drop]at this;exact this
theorem Je {β γ:Type}{P:Program}{t:TypeId}{fs:Array Field}{f:β→List PV}{G:β→Prop}{n:Nat}(g:β→γ){c:γ→List PV}(hfg:∀y,c (g y)=f y)(ht:P.underlying t=some (.struct fs))(h:RF P fs.toList 0 (P.cellsOf t) f G n):
  RO P t c (fun x=>∃y,g y=x∧G y) (n+1):=by
 intro H enc w base spare held m hm cs r hr hwt;obtain⟨ys,k,rfl,rfl,hl,hz,hx⟩:=DataW.trod_struct ht hr;obtain⟨y,hy,hg⟩:=h H enc w base spare held k (by omega) cs hl (fun fd hfd=>by
  obtain⟨i,hi,he⟩:=List.getElem_of_mem hfd;have h1:=hx i fd (by rw[←he];simp);have hi':i<ys.length:=by rw[hz];simpa using hi
  refine⟨ys[i],by rw[h1,List.getElem?_eq_getElem hi'],fun x hxw=>hwt x ?_⟩;show x∈DataW.weights P t (DataW.agg (ys.map (·.1)));simp only[DataW.weights,ht];exact DataW.weights_mem_each (j:=i) (by rw[List.getElem?_map,List.getElem?_eq_getElem hi,Option.map_some,he]) (by rw[List.getElem?_map,List.getElem?_eq_getElem hi'];rfl) x hxw)
 exact⟨g y,by rw[hfg];simpa using hy,y,rfl,hg⟩
theorem arg_agg {α:Type}{P:Program}{t:TypeId}{fs:Array Field}{f:α→List PV}{G:α→Prop}{H:Type}{enc:TypeId×Value→H}{w:World}{base b0:Nat}{r:Reach}{spare:Nat→Bool}{held:Bool}{v:Value}{D:DataW H}{p:List MemPlace}
  (ht:P.underlying t=some (.struct fs)) (hv:Value.okWide P w r b0 t v) (h:∀n,RO P t f G n) (hr:DataW.Trod enc P w base spare held t v D p) (hw:∀x∈DataW.weights P t D,x≤reachBytes):
  ∃(x:α),R [] (fun _=>0) w v (.ag (f x))∧G x:=by
 obtain⟨cs,rfl,_⟩:=Go.WideShapes.okWide_struct ht hv;obtain⟨n,hn⟩:=hr;obtain⟨x,hx,hg⟩:=h n H enc w base spare held n (Nat.le_refl _) _ _ hn hw;have hx':RC w cs.toList (f x):=by simpa [Value.cells] using hx
 exact⟨x,.ag _ _ (by simpa using hx'.1) (fun i y hy=>by
  have hi:=(Array.getElem?_eq_some_iff.1 hy).1;exact(hx'.2 i y _ (by simpa using hy) (List.getElem?_eq_getElem (by have:=hx'.1;simp at this;omega))).1) (fun i y q hy hq=>(hx'.2 i y q (by simpa using hy) hq).2),hg⟩
theorem arg_one {α:Type}{P:Program}{t:TypeId}{f:α→PV}{G:α→Prop}{H:Type}{enc:TypeId×Value→H}{w:World}{base:Nat}{spare:Nat→Bool}{held:Bool}{v:Value}{D:DataW H}{p:List MemPlace}
  (h1:v.oneCell'=true) (h:∀n,RO P t (fun x=>[f x]) G n) (hr:DataW.Trod enc P w base spare held t v D p) (hw:∀x∈DataW.weights P t D,x≤reachBytes):∃(x:α),R [] (fun _=>0) w v (f x)∧G x:=by
 obtain⟨n,hn⟩:=hr;obtain⟨x,hx,hg⟩:=h n H enc w base spare held n (Nat.le_refl _) _ _ hn hw;have hc:v.cells= #[v]:=by cases v<;>first|rfl|cases h1
 rw[hc]at hx;exact⟨x,(hx.2 0 v (f x) rfl rfl).2,hg⟩
theorem law_calls {f:FuncId}{fn:Func}{c:Code}{args:List PV}{vs:Array Value}{w:World}(hf:Try.prog.funcs[f]? =some fn)(hname:(fn.name== "runtime.NumGoroutine")=false)(hb:fn.body=some c)
  (h:∀K:PV→Store→Prop,K (.v (.bool true)) []→EC Try.prog f args [] K) (hv:RL [] (fun _=>0) w vs args):
  Calls Try.prog f vs w fun e w'=>e=.returned (.bool true)∧Go.RowKit.Below w.heap.size w w':=by
 have h1:=(h (fun r s=>r=.v (.bool true)) rfl).here (fun _=>0) w vs ⟨fun i j o o' hi=>by have:=hi.1;simp at this,fun i o hi=>by have:=hi.1;simp at this⟩ hv;rcases h1 with⟨_,h2⟩|⟨x,w',h2,_⟩
 ·refine h2.mono fun e w' ⟨x,hx,r,σ',μ',k1,k2,k3,k4⟩=> ?_;subst hx k4;cases k3;exact⟨rfl,k1.os,k1.tape,k1.output,k1.size,fun k hk=>k1.keep k hk fun id o hl=>by have:=hl.1;simp at this⟩
 ·rw[enters_ hf hname hb vs w]at h2;cases h2
abbrev C_u8 (n:Int):List PV:=[.v (.int .u8 n)]
abbrev C_s (s:ByteArray):List PV:=[.v (.string s)]
theorem Cl.le {n m:Nat}{p:PV}(h:Cl n p)(hn:n≤m):Cl m p:=fun σ ex μ w v hm=>h σ ex μ w v (Nat.le_trans hn hm)
theorem Fr.gle {σ τ s:Store}{l:List Nat}(h:Fr σ τ l)(p:Pre τ s):σ.length≤s.length:=by have:=p.le;rw[h.1]at this;exact this
theorem ClO.vcn {n:Nat}{e sz:Nat}{rows:List (List PV)}(h:Cn (.sl rows)):ClO n (vcO e sz rows):=ClO.vc (by cases h with|sl h=>exact fun r hr p hp=>(h r hr p hp).cl n)
theorem s2b_rows (s:ByteArray):(s.data.toList.map fun b=>[PV.v (.int .u8 (b.toNat:Int))])=List.map C_u8 (Qr s):=by simp[Qr]
structure qy where
 x:Int
 y:Int
 signed:Bool
 code:Int
 deriving DecidableEq
instance:Inhabited qy:=⟨(qy.mk (0:Int) (0:Int) false (0:Int))⟩
def qy.cl (x:qy):List PV:=[(.v (.int .i64 x.x)),(.v (.int .i64 x.y)),(.v (.bool x.signed)),(.v (.int .u8 x.code))]
theorem qy.cle (x:qy):CLE (qy.cl x) [(.v (.int .i64 x.x)),(.v (.int .i64 x.y)),(.v (.bool x.signed)),(.v (.int .u8 x.code))] 4:=⟨fun _=>rfl,rfl,fun _=>rfl,fun _=>rfl,by first|rfl|(simp only[qy.cl,List.all_cons,Qc];rfl)⟩
theorem qy.clu (x:qy):qy.cl x=[(.v (.int .i64 x.x)),(.v (.int .i64 x.y)),(.v (.bool x.signed)),(.v (.int .u8 x.code))]:=rfl
theorem qy.cn (x:qy):CnL (qy.cl x):=(CnL.cons (.v _) (CnL.cons (.v _) (CnL.cons (.v _) (CnL.cons (.v _) CnL.nil))))
structure Expr where
 kind:Int
 name:ByteArray
 n:Int
 d:Int
 args:(List Expr)
 at_:Int
instance:Inhabited Expr:=⟨(Expr.mk (0:Int) (⟨#[]⟩:ByteArray) (0:Int) (0:Int) ([]:(List Expr)) (0:Int))⟩
mutual
def Expr.cl0:Expr→List PV
 |⟨k,s,n,d,xs,a⟩=>[.v (.int .i64 k),.v (.string s),.v (.int .i64 n),.v (.int .i64 d),.sl (Expr.rows xs),.v (.int .i64 a)]
def Expr.rows:List Expr→List (List PV)
 |[]=>[]
 |e::l=>Expr.cl0 e::Expr.rows l
end
def Expr.cl (x:Expr):List PV:=[.v (.int .i64 x.kind),.v (.string x.name),.v (.int .i64 x.n),.v (.int .i64 x.d),.sl (Expr.rows x.args),.v (.int .i64 x.at_)]
theorem Expr.cle (x:Expr):CLE (Expr.cl x) [(.v (.int .i64 x.kind)),(.v (.string x.name)),(.v (.int .i64 x.n)),(.v (.int .i64 x.d)),(.sl (Expr.rows x.args)),(.v (.int .i64 x.at_))] 6:=⟨fun _=>rfl,rfl,fun _=>rfl,fun _=>rfl,by first|rfl|(simp only[Expr.cl,List.all_cons,Qc];rfl)⟩
theorem Expr.clu (x:Expr):Expr.cl x=[(.v (.int .i64 x.kind)),(.v (.string x.name)),(.v (.int .i64 x.n)),(.v (.int .i64 x.d)),(.sl (Expr.rows x.args)),(.v (.int .i64 x.at_))]:=rfl
theorem Expr.cl0_eq (x:Expr):Expr.cl0 x=Expr.cl x:=by cases x;simp[Expr.cl0,Expr.cl]
theorem Expr.rows_eq:∀l:List Expr,Expr.rows l=l.map Expr.cl
 |[]=>by simp[Expr.rows]
 |e::l=>by simp[Expr.rows,Expr.rows_eq l,Expr.cl0_eq]
theorem Expr.rlen (l:List Expr):(Expr.rows l).length=l.length:=by rw[Expr.rows_eq,List.length_map]
theorem Expr.rget {l:List Expr}{i:Nat}{x:Expr}(h:l[i]? =some x):(Expr.rows l)[i]? =some (Expr.cl x):=by rw[Expr.rows_eq];exact zw h
theorem Expr.ind {p:Expr→Prop}(h:∀k s n d xs a,(∀e∈xs,p e)→p ⟨k,s,n,d,xs,a⟩)(e:Expr):p e:=
 Expr.rec (motive_1:=p) (motive_2:=fun l=>∀e∈l,p e) (fun k s n d xs a ih=>h k s n d xs a ih) (by simp) (fun e l h1 h2=>by
  intro x hx;rcases List.mem_cons.1 hx with rfl|hx
  ·exact h1
  ·exact h2 x hx) e
theorem Expr.cn (x:Expr):CnL (Expr.cl x):=by
 induction x using Expr.ind with
 | h k s n d xs a ih =>
  refine CnL.cons (.v _) (CnL.cons (.v _) (CnL.cons (.v _) (CnL.cons (.v _) (CnL.cons ?_ (CnL.cons (.v _) CnL.nil)))));show Cn (.sl (Expr.rows xs));rw[Expr.rows_eq];refine .sl fun r hr p hp=> ?_;obtain⟨x,hx,rfl⟩:=List.mem_map.1 hr;exact ih x hx p hp
theorem Expr.cnr (l:List Expr):Cn (.sl (Expr.rows l)):=by rw[Expr.rows_eq];exact Cn.rows Expr.cn l
theorem Expr.rall (l:List Expr):∀r∈Expr.rows l,r.length=6:=by rw[Expr.rows_eq];exact ZI (f:=Expr.cl) (n:=6) (fun _=>rfl) l
theorem Expr.rows_app (a b:List Expr):Expr.rows (a++b)=Expr.rows a++Expr.rows b:=by rw[Expr.rows_eq,Expr.rows_eq,Expr.rows_eq,List.map_append]
structure Node where
 name:ByteArray
 params:(List ByteArray)
 budget:Int
 body:Expr
 at_:Int
instance:Inhabited Node:=⟨(Node.mk (⟨#[]⟩:ByteArray) ([]:(List ByteArray)) (0:Int) (Expr.mk (0:Int) (⟨#[]⟩:ByteArray) (0:Int) (0:Int) ([]:(List Expr)) (0:Int)) (0:Int))⟩
def Node.cl (x:Node):List PV:=[(.v (.string x.name)),(.sl (List.map C_s x.params)),(.v (.int .i64 x.budget)),(.v (.int .i64 x.body.kind)),(.v (.string x.body.name)),(.v (.int .i64 x.body.n)),(.v (.int .i64 x.body.d)),(.sl (Expr.rows x.body.args)),(.v (.int .i64 x.body.at_)),(.v (.int .i64 x.at_))]
theorem Node.cle (x:Node):CLE (Node.cl x) [(.v (.string x.name)),(.sl (List.map C_s x.params)),(.v (.int .i64 x.budget)),(.v (.int .i64 x.body.kind)),(.v (.string x.body.name)),(.v (.int .i64 x.body.n)),(.v (.int .i64 x.body.d)),(.sl (Expr.rows x.body.args)),(.v (.int .i64 x.body.at_)),(.v (.int .i64 x.at_))] 10:=⟨fun _=>rfl,rfl,fun _=>rfl,fun _=>rfl,by first|rfl|(simp only[Node.cl,List.all_cons,Qc];rfl)⟩
theorem Node.clu (x:Node):Node.cl x=[(.v (.string x.name)),(.sl (List.map C_s x.params)),(.v (.int .i64 x.budget)),(.v (.int .i64 x.body.kind)),(.v (.string x.body.name)),(.v (.int .i64 x.body.n)),(.v (.int .i64 x.body.d)),(.sl (Expr.rows x.body.args)),(.v (.int .i64 x.body.at_)),(.v (.int .i64 x.at_))]:=rfl
theorem Node.cn (x:Node):CnL (Node.cl x):=(CnL.cons (.v _) (CnL.cons (Cn.rows (fun _=>CnL.cons (.v _) CnL.nil) _) (CnL.cons (.v _) (CnL.cons (.v _) (CnL.cons (.v _) (CnL.cons (.v _) (CnL.cons (.v _) (CnL.cons (Expr.cnr _) (CnL.cons (.v _) (CnL.cons (.v _) CnL.nil))))))))))
structure Flow where
 name:ByteArray
 e:Expr
 at_:Int
instance:Inhabited Flow:=⟨(Flow.mk (⟨#[]⟩:ByteArray) (Expr.mk (0:Int) (⟨#[]⟩:ByteArray) (0:Int) (0:Int) ([]:(List Expr)) (0:Int)) (0:Int))⟩
def Flow.cl (x:Flow):List PV:=[(.v (.string x.name)),(.v (.int .i64 x.e.kind)),(.v (.string x.e.name)),(.v (.int .i64 x.e.n)),(.v (.int .i64 x.e.d)),(.sl (Expr.rows x.e.args)),(.v (.int .i64 x.e.at_)),(.v (.int .i64 x.at_))]
theorem Flow.cle (x:Flow):CLE (Flow.cl x) [(.v (.string x.name)),(.v (.int .i64 x.e.kind)),(.v (.string x.e.name)),(.v (.int .i64 x.e.n)),(.v (.int .i64 x.e.d)),(.sl (Expr.rows x.e.args)),(.v (.int .i64 x.e.at_)),(.v (.int .i64 x.at_))] 8:=⟨fun _=>rfl,rfl,fun _=>rfl,fun _=>rfl,by first|rfl|(simp only[Flow.cl,List.all_cons,Qc];rfl)⟩
theorem Flow.clu (x:Flow):Flow.cl x=[(.v (.string x.name)),(.v (.int .i64 x.e.kind)),(.v (.string x.e.name)),(.v (.int .i64 x.e.n)),(.v (.int .i64 x.e.d)),(.sl (Expr.rows x.e.args)),(.v (.int .i64 x.e.at_)),(.v (.int .i64 x.at_))]:=rfl
theorem Flow.cn (x:Flow):CnL (Flow.cl x):=(CnL.cons (.v _) (CnL.cons (.v _) (CnL.cons (.v _) (CnL.cons (.v _) (CnL.cons (.v _) (CnL.cons (Expr.cnr _) (CnL.cons (.v _) (CnL.cons (.v _) CnL.nil))))))))
structure Input where
 name:ByteArray
 period:Int
 phase:Int
 at_:Int
 deriving DecidableEq
instance:Inhabited Input:=⟨(Input.mk (⟨#[]⟩:ByteArray) (0:Int) (0:Int) (0:Int))⟩
def Input.cl (x:Input):List PV:=[(.v (.string x.name)),(.v (.int .i64 x.period)),(.v (.int .i64 x.phase)),(.v (.int .i64 x.at_))]
theorem Input.cle (x:Input):CLE (Input.cl x) [(.v (.string x.name)),(.v (.int .i64 x.period)),(.v (.int .i64 x.phase)),(.v (.int .i64 x.at_))] 4:=⟨fun _=>rfl,rfl,fun _=>rfl,fun _=>rfl,by first|rfl|(simp only[Input.cl,List.all_cons,Qc];rfl)⟩
theorem Input.clu (x:Input):Input.cl x=[(.v (.string x.name)),(.v (.int .i64 x.period)),(.v (.int .i64 x.phase)),(.v (.int .i64 x.at_))]:=rfl
theorem Input.cn (x:Input):CnL (Input.cl x):=(CnL.cons (.v _) (CnL.cons (.v _) (CnL.cons (.v _) (CnL.cons (.v _) CnL.nil))))
structure Output where
 name:ByteArray
 flow:ByteArray
 deadline:Int
 at_:Int
 deriving DecidableEq
instance:Inhabited Output:=⟨(Output.mk (⟨#[]⟩:ByteArray) (⟨#[]⟩:ByteArray) (0:Int) (0:Int))⟩
def Output.cl (x:Output):List PV:=[(.v (.string x.name)),(.v (.string x.flow)),(.v (.int .i64 x.deadline)),(.v (.int .i64 x.at_))]
theorem Output.cle (x:Output):CLE (Output.cl x) [(.v (.string x.name)),(.v (.string x.flow)),(.v (.int .i64 x.deadline)),(.v (.int .i64 x.at_))] 4:=⟨fun _=>rfl,rfl,fun _=>rfl,fun _=>rfl,by first|rfl|(simp only[Output.cl,List.all_cons,Qc];rfl)⟩
theorem Output.clu (x:Output):Output.cl x=[(.v (.string x.name)),(.v (.string x.flow)),(.v (.int .i64 x.deadline)),(.v (.int .i64 x.at_))]:=rfl
theorem Output.cn (x:Output):CnL (Output.cl x):=(CnL.cons (.v _) (CnL.cons (.v _) (CnL.cons (.v _) (CnL.cons (.v _) CnL.nil))))
structure Program where
 nodes:(List Node)
 inputs:(List Input)
 flows:(List Flow)
 outputs:(List Output)
instance:Inhabited Program:=⟨(Program.mk ([]:(List Node)) ([]:(List Input)) ([]:(List Flow)) ([]:(List Output)))⟩
def Program.cl (x:Program):List PV:=[(.sl (List.map Node.cl x.nodes)),(.sl (List.map Input.cl x.inputs)),(.sl (List.map Flow.cl x.flows)),(.sl (List.map Output.cl x.outputs))]
theorem Program.cle (x:Program):CLE (Program.cl x) [(.sl (List.map Node.cl x.nodes)),(.sl (List.map Input.cl x.inputs)),(.sl (List.map Flow.cl x.flows)),(.sl (List.map Output.cl x.outputs))] 4:=⟨fun _=>rfl,rfl,fun _=>rfl,fun _=>rfl,by first|rfl|(simp only[Program.cl,List.all_cons,Qc];rfl)⟩
theorem Program.clu (x:Program):Program.cl x=[(.sl (List.map Node.cl x.nodes)),(.sl (List.map Input.cl x.inputs)),(.sl (List.map Flow.cl x.flows)),(.sl (List.map Output.cl x.outputs))]:=rfl
theorem Program.cn (x:Program):CnL (Program.cl x):=(CnL.cons (Cn.rows Node.cn _) (CnL.cons (Cn.rows Input.cn _) (CnL.cons (Cn.rows Flow.cn _) (CnL.cons (Cn.rows Output.cn _) CnL.nil))))
structure Clock where
 period:Int
 phase:Int
 deriving DecidableEq
instance:Inhabited Clock:=⟨(Clock.mk (0:Int) (0:Int))⟩
def Clock.cl (x:Clock):List PV:=[(.v (.int .i64 x.period)),(.v (.int .i64 x.phase))]
theorem Clock.cle (x:Clock):CLE (Clock.cl x) [(.v (.int .i64 x.period)),(.v (.int .i64 x.phase))] 2:=⟨fun _=>rfl,rfl,fun _=>rfl,fun _=>rfl,by first|rfl|(simp only[Clock.cl,List.all_cons,Qc];rfl)⟩
theorem Clock.clu (x:Clock):Clock.cl x=[(.v (.int .i64 x.period)),(.v (.int .i64 x.phase))]:=rfl
theorem Clock.cn (x:Clock):CnL (Clock.cl x):=(CnL.cons (.v _) (CnL.cons (.v _) CnL.nil))
structure Op where
 kind:Int
 n:Int
 d:Int
 deriving DecidableEq
instance:Inhabited Op:=⟨(Op.mk (0:Int) (0:Int) (0:Int))⟩
def Op.cl (x:Op):List PV:=[(.v (.int .i64 x.kind)),(.v (.int .i64 x.n)),(.v (.int .i64 x.d))]
theorem Op.cle (x:Op):CLE (Op.cl x) [(.v (.int .i64 x.kind)),(.v (.int .i64 x.n)),(.v (.int .i64 x.d))] 3:=⟨fun _=>rfl,rfl,fun _=>rfl,fun _=>rfl,by first|rfl|(simp only[Op.cl,List.all_cons,Qc];rfl)⟩
theorem Op.clu (x:Op):Op.cl x=[(.v (.int .i64 x.kind)),(.v (.int .i64 x.n)),(.v (.int .i64 x.d))]:=rfl
theorem Op.cn (x:Op):CnL (Op.cl x):=(CnL.cons (.v _) (CnL.cons (.v _) (CnL.cons (.v _) CnL.nil)))
structure Arg where
 src:Int
 ops:(List Op)
 deriving DecidableEq
instance:Inhabited Arg:=⟨(Arg.mk (0:Int) ([]:(List Op)))⟩
def Arg.cl (x:Arg):List PV:=[(.v (.int .i64 x.src)),(.sl (List.map Op.cl x.ops))]
theorem Arg.cle (x:Arg):CLE (Arg.cl x) [(.v (.int .i64 x.src)),(.sl (List.map Op.cl x.ops))] 2:=⟨fun _=>rfl,rfl,fun _=>rfl,fun _=>rfl,by first|rfl|(simp only[Arg.cl,List.all_cons,Qc];rfl)⟩
theorem Arg.clu (x:Arg):Arg.cl x=[(.v (.int .i64 x.src)),(.sl (List.map Op.cl x.ops))]:=rfl
theorem Arg.cn (x:Arg):CnL (Arg.cl x):=(CnL.cons (.v _) (CnL.cons (Cn.rows Op.cn _) CnL.nil))
structure Task where
 node:Int
 clock:Clock
 args:(List Arg)
 deriving DecidableEq
instance:Inhabited Task:=⟨(Task.mk (0:Int) (Clock.mk (0:Int) (0:Int)) ([]:(List Arg)))⟩
def Task.cl (x:Task):List PV:=[(.v (.int .i64 x.node)),(.v (.int .i64 x.clock.period)),(.v (.int .i64 x.clock.phase)),(.sl (List.map Arg.cl x.args))]
theorem Task.cle (x:Task):CLE (Task.cl x) [(.v (.int .i64 x.node)),(.v (.int .i64 x.clock.period)),(.v (.int .i64 x.clock.phase)),(.sl (List.map Arg.cl x.args))] 4:=⟨fun _=>rfl,rfl,fun _=>rfl,fun _=>rfl,by first|rfl|(simp only[Task.cl,List.all_cons,Qc];rfl)⟩
theorem Task.clu (x:Task):Task.cl x=[(.v (.int .i64 x.node)),(.v (.int .i64 x.clock.period)),(.v (.int .i64 x.clock.phase)),(.sl (List.map Arg.cl x.args))]:=rfl
theorem Task.cn (x:Task):CnL (Task.cl x):=(CnL.cons (.v _) (CnL.cons (.v _) (CnL.cons (.v _) (CnL.cons (Cn.rows Arg.cn _) CnL.nil))))
structure Tell where
 clock:Clock
 arg:Arg
 deadline:Int
 deriving DecidableEq
instance:Inhabited Tell:=⟨(Tell.mk (Clock.mk (0:Int) (0:Int)) (Arg.mk (0:Int) ([]:(List Op))) (0:Int))⟩
def Tell.cl (x:Tell):List PV:=[(.v (.int .i64 x.clock.period)),(.v (.int .i64 x.clock.phase)),(.v (.int .i64 x.arg.src)),(.sl (List.map Op.cl x.arg.ops)),(.v (.int .i64 x.deadline))]
theorem Tell.cle (x:Tell):CLE (Tell.cl x) [(.v (.int .i64 x.clock.period)),(.v (.int .i64 x.clock.phase)),(.v (.int .i64 x.arg.src)),(.sl (List.map Op.cl x.arg.ops)),(.v (.int .i64 x.deadline))] 5:=⟨fun _=>rfl,rfl,fun _=>rfl,fun _=>rfl,by first|rfl|(simp only[Tell.cl,List.all_cons,Qc];rfl)⟩
theorem Tell.clu (x:Tell):Tell.cl x=[(.v (.int .i64 x.clock.period)),(.v (.int .i64 x.clock.phase)),(.v (.int .i64 x.arg.src)),(.sl (List.map Op.cl x.arg.ops)),(.v (.int .i64 x.deadline))]:=rfl
theorem Tell.cn (x:Tell):CnL (Tell.cl x):=(CnL.cons (.v _) (CnL.cons (.v _) (CnL.cons (.v _) (CnL.cons (Cn.rows Op.cn _) (CnL.cons (.v _) CnL.nil)))))
structure Flat where
 inputs:(List Clock)
 nodes:(List Node)
 tasks:(List Task)
 tells:(List Tell)
instance:Inhabited Flat:=⟨(Flat.mk ([]:(List Clock)) ([]:(List Node)) ([]:(List Task)) ([]:(List Tell)))⟩
def Flat.cl (x:Flat):List PV:=[(.sl (List.map Clock.cl x.inputs)),(.sl (List.map Node.cl x.nodes)),(.sl (List.map Task.cl x.tasks)),(.sl (List.map Tell.cl x.tells))]
theorem Flat.cle (x:Flat):CLE (Flat.cl x) [(.sl (List.map Clock.cl x.inputs)),(.sl (List.map Node.cl x.nodes)),(.sl (List.map Task.cl x.tasks)),(.sl (List.map Tell.cl x.tells))] 4:=⟨fun _=>rfl,rfl,fun _=>rfl,fun _=>rfl,by first|rfl|(simp only[Flat.cl,List.all_cons,Qc];rfl)⟩
theorem Flat.clu (x:Flat):Flat.cl x=[(.sl (List.map Clock.cl x.inputs)),(.sl (List.map Node.cl x.nodes)),(.sl (List.map Task.cl x.tasks)),(.sl (List.map Tell.cl x.tells))]:=rfl
theorem Flat.cn (x:Flat):CnL (Flat.cl x):=(CnL.cons (Cn.rows Clock.cn _) (CnL.cons (Cn.rows Node.cn _) (CnL.cons (Cn.rows Task.cn _) (CnL.cons (Cn.rows Tell.cn _) CnL.nil))))
structure zj where
 flow:Int
 at_:Int
 deriving DecidableEq
instance:Inhabited zj:=⟨(zj.mk (0:Int) (0:Int))⟩
def zj.cl (x:zj):List PV:=[(.v (.int .i64 x.flow)),(.v (.int .i64 x.at_))]
theorem zj.cle (x:zj):CLE (zj.cl x) [(.v (.int .i64 x.flow)),(.v (.int .i64 x.at_))] 2:=⟨fun _=>rfl,rfl,fun _=>rfl,fun _=>rfl,by first|rfl|(simp only[zj.cl,List.all_cons,Qc];rfl)⟩
theorem zj.clu (x:zj):zj.cl x=[(.v (.int .i64 x.flow)),(.v (.int .i64 x.at_))]:=rfl
theorem zj.cn (x:zj):CnL (zj.cl x):=(CnL.cons (.v _) (CnL.cons (.v _) CnL.nil))
structure qd where
 kind:Int
 text:ByteArray
 n:Int
 at_:Int
 deriving DecidableEq
instance:Inhabited qd:=⟨(qd.mk (0:Int) (⟨#[]⟩:ByteArray) (0:Int) (0:Int))⟩
def qd.cl (x:qd):List PV:=[(.v (.int .i64 x.kind)),(.v (.string x.text)),(.v (.int .i64 x.n)),(.v (.int .i64 x.at_))]
theorem qd.cle (x:qd):CLE (qd.cl x) [(.v (.int .i64 x.kind)),(.v (.string x.text)),(.v (.int .i64 x.n)),(.v (.int .i64 x.at_))] 4:=⟨fun _=>rfl,rfl,fun _=>rfl,fun _=>rfl,by first|rfl|(simp only[qd.cl,List.all_cons,Qc];rfl)⟩
theorem qd.clu (x:qd):qd.cl x=[(.v (.int .i64 x.kind)),(.v (.string x.text)),(.v (.int .i64 x.n)),(.v (.int .i64 x.at_))]:=rfl
theorem qd.cn (x:qd):CnL (qd.cl x):=(CnL.cons (.v _) (CnL.cons (.v _) (CnL.cons (.v _) (CnL.cons (.v _) CnL.nil))))
structure qR where
 at_:Int
 e:Int
 deriving DecidableEq
instance:Inhabited qR:=⟨(qR.mk (0:Int) (0:Int))⟩
def qR.cl (x:qR):List PV:=[(.v (.int .i64 x.at_)),(.v (.int .i64 x.e))]
theorem qR.cle (x:qR):CLE (qR.cl x) [(.v (.int .i64 x.at_)),(.v (.int .i64 x.e))] 2:=⟨fun _=>rfl,rfl,fun _=>rfl,fun _=>rfl,by first|rfl|(simp only[qR.cl,List.all_cons,Qc];rfl)⟩
theorem qR.clu (x:qR):qR.cl x=[(.v (.int .i64 x.at_)),(.v (.int .i64 x.e))]:=rfl
theorem qR.cn (x:qR):CnL (qR.cl x):=(CnL.cons (.v _) (CnL.cons (.v _) CnL.nil))
structure qqI where
 finder:qR
 known:(Mp Clock)
instance:Inhabited qqI:=⟨(qqI.mk (qR.mk (0:Int) (0:Int)) (Mp.emp:(Mp Clock)))⟩
structure zm where
 node:Int
 args:(List Expr)
 ways:(List ByteArray)
instance:Inhabited zm:=⟨(zm.mk (0:Int) ([]:(List Expr)) ([]:(List ByteArray)))⟩
def zm.cl (x:zm):List PV:=[(.v (.int .i64 x.node)),(.sl (Expr.rows x.args)),(.sl (List.map C_s x.ways))]
theorem zm.cle (x:zm):CLE (zm.cl x) [(.v (.int .i64 x.node)),(.sl (Expr.rows x.args)),(.sl (List.map C_s x.ways))] 3:=⟨fun _=>rfl,rfl,fun _=>rfl,fun _=>rfl,by first|rfl|(simp only[zm.cl,List.all_cons,Qc];rfl)⟩
theorem zm.clu (x:zm):zm.cl x=[(.v (.int .i64 x.node)),(.sl (Expr.rows x.args)),(.sl (List.map C_s x.ways))]:=rfl
theorem zm.cn (x:zm):CnL (zm.cl x):=(CnL.cons (.v _) (CnL.cons (Expr.cnr _) (CnL.cons (Cn.rows (fun _=>CnL.cons (.v _) CnL.nil) _) CnL.nil)))
structure zzs where
 p:Program
 flows:(Mp Int)
 calls:(List zm)
 at_:(Mp Int)
 error:Int
 e:Int
instance:Inhabited zzs:=⟨(zzs.mk (Program.mk ([]:(List Node)) ([]:(List Input)) ([]:(List Flow)) ([]:(List Output))) (Mp.emp:(Mp Int)) ([]:(List zm)) (Mp.emp:(Mp Int)) (0:Int) (0:Int))⟩
structure qa where
 l:(List qd)
 end_:Int
 pos:Int
 at_:Int
 e:Int
 p:Program
instance:Inhabited qa:=⟨(qa.mk ([]:(List qd)) (0:Int) (0:Int) (0:Int) (0:Int) (Program.mk ([]:(List Node)) ([]:(List Input)) ([]:(List Flow)) ([]:(List Output))))⟩
structure Qz where
 c5:PV
 c6:PV
 c7:PV
 c8:PV
 h5:c5.one=true
 h6:c6.one=true
 h7:c7.one=true
 h8:c8.one=true
structure Qz.ok (n:Nat)(q:Qz):Prop where
 c5:Cl n q.c5
 c6:Cl n q.c6
 c7:Cl n q.c7
 c8:Cl n q.c8
theorem Qz.ok.le {n m:Nat}{q:Qz}(h:Qz.ok n q)(hn:n≤m):Qz.ok m q:=⟨h.c5.le hn,h.c6.le hn,h.c7.le hn,h.c8.le hn⟩
def qa.cl (q:Qz)(x:qa):List PV:=[(.sl (List.map qd.cl x.l)),(.v (.int .i64 x.end_)),(.v (.int .i64 x.pos)),(.v (.int .i64 x.at_)),(.v (.int .i64 x.e)),q.c5,q.c6,q.c7,q.c8]
theorem qa.cle (q:Qz)(x:qa):CLE (qa.cl q x) [(.sl (List.map qd.cl x.l)),(.v (.int .i64 x.end_)),(.v (.int .i64 x.pos)),(.v (.int .i64 x.at_)),(.v (.int .i64 x.e)),q.c5,q.c6,q.c7,q.c8] 9:=⟨fun _=>rfl,rfl,fun _=>rfl,fun _=>rfl,by simp only[qa.cl,List.all_cons,q.h5,q.h6,q.h7,q.h8];rfl⟩
theorem qa.clu (q:Qz)(x:qa):qa.cl q x=[(.sl (List.map qd.cl x.l)),(.v (.int .i64 x.end_)),(.v (.int .i64 x.pos)),(.v (.int .i64 x.at_)),(.v (.int .i64 x.e)),q.c5,q.c6,q.c7,q.c8]:=rfl
theorem T_1:T 1=some ⟨1,8,false,false,[.f],.other⟩:=rfl
theorem T_2:T 2=some ⟨1,8,false,false,[(.i .i64)],.int .i64⟩:=rfl
theorem T_3:T 3=some ⟨1,8,false,false,[(.i .i64)],.int .i64⟩:=rfl
theorem T_4:T 4=some ⟨1,1,false,false,[.b],.bool⟩:=rfl
theorem T_5:T 5=some ⟨1,1,false,false,[(.i .u8)],.int .u8⟩:=rfl
theorem T_9:T 9=some ⟨1,16,false,false,[.s],.str⟩:=rfl
theorem T_22:T 22=some ⟨1,24,false,false,[.sl],.slc 99⟩:=rfl
theorem T_23:T 23=some ⟨1,24,false,false,[.sl],.slc 96⟩:=rfl
theorem T_24:T 24=some ⟨1,24,false,false,[.sl],.slc 41⟩:=rfl
theorem T_25:T 25=some ⟨1,24,false,false,[.sl],.slc 65⟩:=rfl
theorem T_27:T 27=some ⟨4,96,true,false,[.sl,.sl,.sl,.sl],.st [(0,22),(1,23),(2,24),(3,25)]⟩:=rfl
theorem T_30:T 30=some ⟨1,8,false,false,[(.i .i64)],.int .i64⟩:=rfl
theorem T_37:T 37=some ⟨1,24,false,false,[.sl],.slc 39⟩:=rfl
theorem T_39:T 39=some ⟨6,72,true,false,[(.i .i64),.s,(.i .i64),(.i .i64),.sl,(.i .i64)],.st [(0,3),(1,9),(2,2),(3,2),(4,37),(5,3)]⟩:=rfl
theorem T_41:T 41=some ⟨8,96,true,false,[.s,(.i .i64),.s,(.i .i64),(.i .i64),.sl,(.i .i64),(.i .i64)],.st [(0,9),(1,39),(7,3)]⟩:=rfl
theorem T_65:T 65=some ⟨4,48,true,true,[.s,.s,(.i .i64),(.i .i64)],.st [(0,9),(1,9),(2,2),(3,3)]⟩:=rfl
theorem T_81:T 81=some ⟨1,24,false,false,[.sl],.slc 85⟩:=rfl
theorem T_85:T 85=some ⟨4,40,true,true,[(.i .i64),.s,(.i .i64),(.i .i64)],.st [(0,3),(1,9),(2,2),(3,3)]⟩:=rfl
theorem T_89:T 89=some ⟨1,24,false,false,[.sl],.slc 5⟩:=rfl
theorem T_96:T 96=some ⟨4,40,true,true,[.s,(.i .i64),(.i .i64),(.i .i64)],.st [(0,9),(1,2),(2,2),(3,3)]⟩:=rfl
theorem T_97:T 97=some ⟨1,24,false,false,[.sl],.slc 9⟩:=rfl
theorem T_99:T 99=some ⟨10,128,true,false,[.s,.sl,(.i .i64),(.i .i64),.s,(.i .i64),(.i .i64),.sl,(.i .i64),(.i .i64)],.st [(0,9),(1,97),(2,2),(3,39),(9,3)]⟩:=rfl
theorem T_153:T 153=some ⟨1,8,false,false,[.p],.other⟩:=rfl
theorem T_155:T 155=some ⟨9,152,true,false,[.sl,(.i .i64),(.i .i64),(.i .i64),(.i .i64),.sl,.sl,.sl,.sl],.st [(0,81),(1,3),(2,3),(3,3),(4,30),(5,27)]⟩:=rfl
theorem T_157:T 157=some ⟨5,80,true,false,[.s,.s,.s,.s,.s],.arr 5 9⟩:=rfl
theorem T_158:T 158=some ⟨1,8,false,false,[.f],.other⟩:=rfl
theorem T_184:T 184=some ⟨1,8,false,false,[.f],.other⟩:=rfl
def Sp_law04_SyntaxPlaces (a0:Program)(a1:Int)(a2:Int)(r:Bool):Prop:=∀(σ:Store) (K:PV→Store→Prop),K (.v (.bool r)) σ→EC Try.prog 7 [(.ag (Program.cl a0)),(.v (.int .u8 a1)),(.v (.int .u8 a2))] σ K
def Sat_law04_SyntaxPlaces (F:Program→Int→Int→Option Bool):Prop:=∀(a0:Program) (a1:Int) (a2:Int) (r:Bool),F a0 a1 a2=some r→Sp_law04_SyntaxPlaces a0 a1 a2 r
def Sp_ref04_Right (a0:Program)(r:Bool):Prop:=∀(σ:Store) (K:PV→Store→Prop),K (.v (.bool r)) σ→EC Try.prog 10 [(.ag (Program.cl a0))] σ K
def Sat_ref04_Right (F:Program→Option Bool):Prop:=∀(a0:Program) (r:Bool),F a0=some r→Sp_ref04_Right a0 r
def Sp_law04_awake (r:Bool):Prop:=∀(σ:Store) (K:PV→Store→Prop),K (.v (.bool r)) σ→EC Try.prog 32 [] σ K
def Sat_law04_awake (F:Option Bool):Prop:=∀(r:Bool),F=some r→Sp_law04_awake r
def Sp_ref04_Print (a0:Program)(r:ByteArray):Prop:=∀(σ:Store) (K:PV→Store→Prop),K (.v (.string r)) σ→EC Try.prog 33 [(.ag (Program.cl a0))] σ K
def Sat_ref04_Print (F:Program→Option ByteArray):Prop:=∀(a0:Program) (r:ByteArray),F a0=some r→Sp_ref04_Print a0 r
def Sp_lex_Lex (a0:ByteArray)(r:((List qd)×Int×Int)):Prop:=∀(σ:Store) (K:PV→Store→Prop),K (.tu [(.sl (List.map qd.cl r.1)),(.v (.int .i64 r.2.1)),(.v (.int .i64 r.2.2))]) σ→EC Try.prog 34 [(.v (.string a0))] σ K
def Sat_lex_Lex (F:ByteArray→Option ((List qd)×Int×Int)):Prop:=∀(a0:ByteArray) (r:((List qd)×Int×Int)),F a0=some r→Sp_lex_Lex a0 r
def Sp_syntax_Parse (a0:ByteArray)(r:(Program×Int×Int)):Prop:=∀(σ:Store) (K:PV→Store→Prop),K (.tu [(.ag (Program.cl r.1)),(.v (.int .i64 r.2.1)),(.v (.int .i64 r.2.2))]) σ→EC Try.prog 35 [(.v (.string a0))] σ K
def Sat_syntax_Parse (F:ByteArray→Option (Program×Int×Int)):Prop:=∀(a0:ByteArray) (r:(Program×Int×Int)),F a0=some r→Sp_syntax_Parse a0 r
def Sp_ref04_Text (a0:Expr)(r:ByteArray):Prop:=∀(σ:Store) (K:PV→Store→Prop),K (.v (.string r)) σ→EC Try.prog 36 [(.ag (Expr.cl a0))] σ K
def Sat_ref04_Text (F:Expr→Option ByteArray):Prop:=∀(a0:Expr) (r:ByteArray),F a0=some r→Sp_ref04_Text a0 r
def Sp_syntax_Depth (a0:Expr)(r:Int):Prop:=∀(σ:Store) (K:PV→Store→Prop),K (.v (.int .i64 r)) σ→EC Try.prog 37 [(.ag (Expr.cl a0))] σ K
def Sat_syntax_Depth (F:Expr→Option Int):Prop:=∀(a0:Expr) (r:Int),F a0=some r→Sp_syntax_Depth a0 r
def Sp_ref03_Right (a0:ByteArray)(r:Bool):Prop:=∀(σ:Store) (K:PV→Store→Prop),K (.v (.bool r)) σ→EC Try.prog 38 [(.v (.string a0))] σ K
def Sat_ref03_Right (F:ByteArray→Option Bool):Prop:=∀(a0:ByteArray) (r:Bool),F a0=some r→Sp_ref03_Right a0 r
def Sp_ref04_number (a0:Int)(a1:Int)(a2:Int)(r:Bool):Prop:=∀(σ:Store) (K:PV→Store→Prop),K (.v (.bool r)) σ→EC Try.prog 39 [(.v (.int .i64 a0)),(.v (.int .i64 a1)),(.v (.int .i64 a2))] σ K
def Sat_ref04_number (F:Int→Int→Int→Option Bool):Prop:=∀(a0:Int) (a1:Int) (a2:Int) (r:Bool),F a0 a1 a2=some r→Sp_ref04_number a0 a1 a2 r
def Sp_ref04_Size (a0:Expr)(a1:Int)(r:Int):Prop:=∀(σ:Store) (K:PV→Store→Prop),K (.v (.int .i64 r)) σ→EC Try.prog 40 [(.ag (Expr.cl a0)),(.v (.int .i64 a1))] σ K
def Sat_ref04_Size (F:Expr→Int→Option Int):Prop:=∀(a0:Expr) (a1:Int) (r:Int),F a0 a1=some r→Sp_ref04_Size a0 a1 r
def Sp_ref04_Depth (a0:Expr)(a1:Int)(r:Int):Prop:=∀(σ:Store) (K:PV→Store→Prop),K (.v (.int .i64 r)) σ→EC Try.prog 41 [(.ag (Expr.cl a0)),(.v (.int .i64 a1))] σ K
def Sat_ref04_Depth (F:Expr→Int→Option Int):Prop:=∀(a0:Expr) (a1:Int) (r:Int),F a0 a1=some r→Sp_ref04_Depth a0 a1 r
def Sp_ref04_Body (a0:Expr)(r:Bool):Prop:=∀(σ:Store) (K:PV→Store→Prop),K (.v (.bool r)) σ→EC Try.prog 42 [(.ag (Expr.cl a0))] σ K
def Sat_ref04_Body (F:Expr→Option Bool):Prop:=∀(a0:Expr) (r:Bool),F a0=some r→Sp_ref04_Body a0 r
def Sp_ref04_Expr (a0:Expr)(r:Bool):Prop:=∀(σ:Store) (K:PV→Store→Prop),K (.v (.bool r)) σ→EC Try.prog 43 [(.ag (Expr.cl a0))] σ K
def Sat_ref04_Expr (F:Expr→Option Bool):Prop:=∀(a0:Expr) (r:Bool),F a0=some r→Sp_ref04_Expr a0 r
def Sp_ref04_Digits (a0:Int)(r:ByteArray):Prop:=∀(σ:Store) (K:PV→Store→Prop),K (.v (.string r)) σ→EC Try.prog 75 [(.v (.int .i64 a0))] σ K
def Sat_ref04_Digits (F:Int→Option ByteArray):Prop:=∀(a0:Int) (r:ByteArray),F a0=some r→Sp_ref04_Digits a0 r
def Sp_ref04_BodyText (a0:Expr)(a1:Bool)(r:ByteArray):Prop:=∀(σ:Store) (K:PV→Store→Prop),K (.v (.string r)) σ→EC Try.prog 76 [(.ag (Expr.cl a0)),(.v (.bool a1))] σ K
def Sat_ref04_BodyText (F:Expr→Bool→Option ByteArray):Prop:=∀(a0:Expr) (a1:Bool) (r:ByteArray),F a0 a1=some r→Sp_ref04_BodyText a0 a1 r
def Sp_lex_blank (a0:ByteArray)(r:Int):Prop:=∀(σ:Store) (K:PV→Store→Prop),K (.v (.int .i64 r)) σ→EC Try.prog 77 [(.v (.string a0))] σ K
def Sat_lex_blank (F:ByteArray→Option Int):Prop:=∀(a0:ByteArray) (r:Int),F a0=some r→Sp_lex_blank a0 r
def Sp_lex_next (a0:ByteArray)(r:(qd×Int)):Prop:=∀(σ:Store) (K:PV→Store→Prop),K (.tu [(.ag (qd.cl r.1)),(.v (.int .i64 r.2))]) σ→EC Try.prog 78 [(.v (.string a0))] σ K
def Sat_lex_next (F:ByteArray→Option (qd×Int)):Prop:=∀(a0:ByteArray) (r:(qd×Int)),F a0=some r→Sp_lex_next a0 r
def Sp_syntax_reader_now (a0:qa)(r:qd):Prop:=∀(σ:Store) (K:PV→Store→Prop) (j0:Nat) (q:Qz),Gx σ j0 (AObj.box 155 (qa.cl q a0))→Qz.ok σ.length q→K (.ag (qd.cl r)) σ→EC Try.prog 79 [(.pt j0 0)] σ K
def Sat_syntax_reader_now (F:qa→Option qd):Prop:=∀(a0:qa) (r:qd),F a0=some r→Sp_syntax_reader_now a0 r
def Sp_syntax_reader_fail (a0:qa)(a1:Int)(a2:Int)(r:(Unit×qa)):Prop:=∀(σ:Store) (K:PV→Store→Prop) (j0:Nat) (q:Qz),Gx σ j0 (AObj.box 155 (qa.cl q a0))→Qz.ok σ.length q→K (.tu []) (List.set σ j0 (some (AObj.box 155 (qa.cl q r.2))))→EC Try.prog 80 [(.pt j0 0),(.v (.int .i64 a1)),(.v (.int .i64 a2))] σ K
def Sat_syntax_reader_fail (F:qa→Int→Int→Option (Unit×qa)):Prop:=∀(a0:qa) (a1:Int) (a2:Int) (r:(Unit×qa)),F a0 a1 a2=some r→Sp_syntax_reader_fail a0 a1 a2 r
def Sp_syntax_reader_can (a0:qa)(a1:ByteArray)(r:(Bool×qa)):Prop:=∀(σ:Store) (K:PV→Store→Prop) (j0:Nat) (q:Qz),Gx σ j0 (AObj.box 155 (qa.cl q a0))→Qz.ok σ.length q→K (.v (.bool r.1)) (List.set σ j0 (some (AObj.box 155 (qa.cl q r.2))))→EC Try.prog 81 [(.pt j0 0),(.v (.string a1))] σ K
def Sat_syntax_reader_can (F:qa→ByteArray→Option (Bool×qa)):Prop:=∀(a0:qa) (a1:ByteArray) (r:(Bool×qa)),F a0 a1=some r→Sp_syntax_reader_can a0 a1 r
def Sp_syntax_reader_node (a0:qa)(r:(Unit×qa)):Prop:=∀(σ:Store) (K:PV→Store→Prop) (j0:Nat) (j0_5:Nat) (q:Qz),Gx σ j0 (AObj.box 155 (qa.cl (Qz.mk (.ow j0_5 (List.map Node.cl a0.p.nodes)) q.c6 q.c7 q.c8 rfl q.h6 q.h7 q.h8) a0))→Gx σ j0_5 (tkO 99 10 (List.length a0.p.nodes))→Qz.ok σ.length q→K (.tu []) (List.set (List.set σ j0 (some (AObj.box 155 (qa.cl (Qz.mk (.ow j0_5 (List.map Node.cl r.2.p.nodes)) q.c6 q.c7 q.c8 rfl q.h6 q.h7 q.h8) r.2)))) j0_5 (some (tkO 99 10 (List.length r.2.p.nodes))))→EC Try.prog 82 [(.pt j0 0)] σ K
def Sat_syntax_reader_node (F:qa→Option (Unit×qa)):Prop:=∀(a0:qa) (r:(Unit×qa)),F a0=some r→Sp_syntax_reader_node a0 r
def Sp_syntax_reader_input (a0:qa)(r:(Unit×qa)):Prop:=∀(σ:Store) (K:PV→Store→Prop) (j0:Nat) (j0_6:Nat) (q:Qz),Gx σ j0 (AObj.box 155 (qa.cl (Qz.mk q.c5 (.ow j0_6 (List.map Input.cl a0.p.inputs)) q.c7 q.c8 q.h5 rfl q.h7 q.h8) a0))→Gx σ j0_6 (tkO 96 4 (List.length a0.p.inputs))→Qz.ok σ.length q→K (.tu []) (List.set (List.set σ j0 (some (AObj.box 155 (qa.cl (Qz.mk q.c5 (.ow j0_6 (List.map Input.cl r.2.p.inputs)) q.c7 q.c8 q.h5 rfl q.h7 q.h8) r.2)))) j0_6 (some (tkO 96 4 (List.length r.2.p.inputs))))→EC Try.prog 83 [(.pt j0 0)] σ K
def Sat_syntax_reader_input (F:qa→Option (Unit×qa)):Prop:=∀(a0:qa) (r:(Unit×qa)),F a0=some r→Sp_syntax_reader_input a0 r
def Sp_syntax_reader_flow (a0:qa)(r:(Unit×qa)):Prop:=∀(σ:Store) (K:PV→Store→Prop) (j0:Nat) (j0_7:Nat) (q:Qz),Gx σ j0 (AObj.box 155 (qa.cl (Qz.mk q.c5 q.c6 (.ow j0_7 (List.map Flow.cl a0.p.flows)) q.c8 q.h5 q.h6 rfl q.h8) a0))→Gx σ j0_7 (tkO 41 8 (List.length a0.p.flows))→Qz.ok σ.length q→K (.tu []) (List.set (List.set σ j0 (some (AObj.box 155 (qa.cl (Qz.mk q.c5 q.c6 (.ow j0_7 (List.map Flow.cl r.2.p.flows)) q.c8 q.h5 q.h6 rfl q.h8) r.2)))) j0_7 (some (tkO 41 8 (List.length r.2.p.flows))))→EC Try.prog 84 [(.pt j0 0)] σ K
def Sat_syntax_reader_flow (F:qa→Option (Unit×qa)):Prop:=∀(a0:qa) (r:(Unit×qa)),F a0=some r→Sp_syntax_reader_flow a0 r
def Sp_syntax_reader_output (a0:qa)(r:(Unit×qa)):Prop:=∀(σ:Store) (K:PV→Store→Prop) (j0:Nat) (j0_8:Nat) (q:Qz),Gx σ j0 (AObj.box 155 (qa.cl (Qz.mk q.c5 q.c6 q.c7 (.ow j0_8 (List.map Output.cl a0.p.outputs)) q.h5 q.h6 q.h7 rfl) a0))→Gx σ j0_8 (tkO 65 4 (List.length a0.p.outputs))→Qz.ok σ.length q→K (.tu []) (List.set (List.set σ j0 (some (AObj.box 155 (qa.cl (Qz.mk q.c5 q.c6 q.c7 (.ow j0_8 (List.map Output.cl r.2.p.outputs)) q.h5 q.h6 q.h7 rfl) r.2)))) j0_8 (some (tkO 65 4 (List.length r.2.p.outputs))))→EC Try.prog 85 [(.pt j0 0)] σ K
def Sat_syntax_reader_output (F:qa→Option (Unit×qa)):Prop:=∀(a0:qa) (r:(Unit×qa)),F a0=some r→Sp_syntax_reader_output a0 r
def Sp_ref03_small (a0:Int)(r:Bool):Prop:=∀(σ:Store) (K:PV→Store→Prop),K (.v (.bool r)) σ→EC Try.prog 86 [(.v (.int .u8 a0))] σ K
def Sat_ref03_small (F:Int→Option Bool):Prop:=∀(a0:Int) (r:Bool),F a0=some r→Sp_ref03_small a0 r
def Sp_ref03_digit (a0:Int)(r:Bool):Prop:=∀(σ:Store) (K:PV→Store→Prop),K (.v (.bool r)) σ→EC Try.prog 87 [(.v (.int .u8 a0))] σ K
def Sat_ref03_digit (F:Int→Option Bool):Prop:=∀(a0:Int) (r:Bool),F a0=some r→Sp_ref03_digit a0 r
def Sp_ref03_Word (a0:ByteArray)(r:Bool):Prop:=∀(σ:Store) (K:PV→Store→Prop),K (.v (.bool r)) σ→EC Try.prog 88 [(.v (.string a0))] σ K
def Sat_ref03_Word (F:ByteArray→Option Bool):Prop:=∀(a0:ByteArray) (r:Bool),F a0=some r→Sp_ref03_Word a0 r
def Sp_lex_in (a0:Int)(a1:Bool)(r:Bool):Prop:=∀(σ:Store) (K:PV→Store→Prop),K (.v (.bool r)) σ→EC Try.prog 107 [(.v (.int .u8 a0)),(.v (.bool a1))] σ K
def Sat_lex_in (F:Int→Bool→Option Bool):Prop:=∀(a0:Int) (a1:Bool) (r:Bool),F a0 a1=some r→Sp_lex_in a0 a1 r
def Sp_lex_while (a0:ByteArray)(a1:(Int→Option Bool))(r:Int):Prop:=∀(σ:Store) (K:PV→Store→Prop) (fid1:FuncId) (caps1:List PV),(∀(x0:Int) (b:Bool),a1 x0=some b→∀(s:Store) (K:PV→Store→Prop),Pre σ s→K (.v (.bool b)) s→EC Try.prog fid1 ((.v (.int .u8 x0))::caps1) s K)→K (.v (.int .i64 r)) σ→EC Try.prog 108 [(.v (.string a0)),(.fn fid1 [] caps1)] σ K
def Sat_lex_while (F:ByteArray→(Int→Option Bool)→Option Int):Prop:=∀(a0:ByteArray) (a1:(Int→Option Bool)) (r:Int),F a0 a1=some r→Sp_lex_while a0 a1 r
def Sp_lex_next_c1 (a0:Int)(r:Bool):Prop:=∀(σ:Store) (K:PV→Store→Prop),K (.v (.bool r)) σ→EC Try.prog 109 [(.v (.int .u8 a0))] σ K
def Sat_lex_next_c1 (F:Int→Option Bool):Prop:=∀(a0:Int) (r:Bool),F a0=some r→Sp_lex_next_c1 a0 r
def Sp_lex_digit (a0:Int)(r:Bool):Prop:=∀(σ:Store) (K:PV→Store→Prop),K (.v (.bool r)) σ→EC Try.prog 110 [(.v (.int .u8 a0))] σ K
def Sat_lex_digit (F:Int→Option Bool):Prop:=∀(a0:Int) (r:Bool),F a0=some r→Sp_lex_digit a0 r
def Sp_lex_number (a0:ByteArray)(r:(Int×Bool)):Prop:=∀(σ:Store) (K:PV→Store→Prop),K (.tu [(.v (.int .i64 r.1)),(.v (.bool r.2))]) σ→EC Try.prog 111 [(.v (.string a0))] σ K
def Sat_lex_number (F:ByteArray→Option (Int×Bool)):Prop:=∀(a0:ByteArray) (r:(Int×Bool)),F a0=some r→Sp_lex_number a0 r
def Sp_lex_signs (r:(List ByteArray)):Prop:=∀(σ:Store) (K:PV→Store→Prop),K (.sl (List.map C_s r)) σ→EC Try.prog 112 [] σ K
def Sat_lex_signs (F:Option (List ByteArray)):Prop:=∀(r:(List ByteArray)),F=some r→Sp_lex_signs r
def Sp_strings_HasPrefix (a0:ByteArray)(a1:ByteArray)(r:Bool):Prop:=∀(σ:Store) (K:PV→Store→Prop),K (.v (.bool r)) σ→EC Try.prog 113 [(.v (.string a0)),(.v (.string a1))] σ K
def Sat_strings_HasPrefix (F:ByteArray→ByteArray→Option Bool):Prop:=∀(a0:ByteArray) (a1:ByteArray) (r:Bool),F a0 a1=some r→Sp_strings_HasPrefix a0 a1 r
def Sp_syntax_reader_is (a0:qa)(a1:ByteArray)(r:Bool):Prop:=∀(σ:Store) (K:PV→Store→Prop) (j0:Nat) (q:Qz),Gx σ j0 (AObj.box 155 (qa.cl q a0))→Qz.ok σ.length q→K (.v (.bool r)) σ→EC Try.prog 114 [(.pt j0 0),(.v (.string a1))] σ K
def Sat_syntax_reader_is (F:qa→ByteArray→Option Bool):Prop:=∀(a0:qa) (a1:ByteArray) (r:Bool),F a0 a1=some r→Sp_syntax_reader_is a0 a1 r
def Sp_syntax_reader_name (a0:qa)(r:(qd×qa)):Prop:=∀(σ:Store) (K:PV→Store→Prop) (j0:Nat) (q:Qz),Gx σ j0 (AObj.box 155 (qa.cl q a0))→Qz.ok σ.length q→K (.ag (qd.cl r.1)) (List.set σ j0 (some (AObj.box 155 (qa.cl q r.2))))→EC Try.prog 115 [(.pt j0 0)] σ K
def Sat_syntax_reader_name (F:qa→Option (qd×qa)):Prop:=∀(a0:qa) (r:(qd×qa)),F a0=some r→Sp_syntax_reader_name a0 r
def Sp_syntax_reader_must (a0:qa)(a1:ByteArray)(r:(Unit×qa)):Prop:=∀(σ:Store) (K:PV→Store→Prop) (j0:Nat) (q:Qz),Gx σ j0 (AObj.box 155 (qa.cl q a0))→Qz.ok σ.length q→K (.tu []) (List.set σ j0 (some (AObj.box 155 (qa.cl q r.2))))→EC Try.prog 116 [(.pt j0 0),(.v (.string a1))] σ K
def Sat_syntax_reader_must (F:qa→ByteArray→Option (Unit×qa)):Prop:=∀(a0:qa) (a1:ByteArray) (r:(Unit×qa)),F a0 a1=some r→Sp_syntax_reader_must a0 a1 r
def Sp_syntax_reader_node_c1 (a0:Node)(a1:qa)(r:(Unit×Node×qa)):Prop:=∀(σ:Store) (K:PV→Store→Prop) (j0:Nat) (j0_1:Nat) (j1:Nat) (j1_900:Nat) (q:Qz),Gx σ j0 (AObj.box 99 [(.v (.string a0.name)),(.ow j0_1 (List.map C_s a0.params)),(.v (.int .i64 a0.budget)),(.v (.int .i64 a0.body.kind)),(.v (.string a0.body.name)),(.v (.int .i64 a0.body.n)),(.v (.int .i64 a0.body.d)),(.sl (Expr.rows a0.body.args)),(.v (.int .i64 a0.body.at_)),(.v (.int .i64 a0.at_))])→Gx σ j0_1 (tkO 9 1 (List.length a0.params))→Gx σ j1 (AObj.box 153 [(.pt j1_900 0)])→Gx σ j1_900 (AObj.box 155 (qa.cl q a1))→j0≠j1→j0≠j1_900→j1≠j1_900→Qz.ok σ.length q→K (.tu []) (List.set (List.set (List.set σ j0 (some (AObj.box 99 [(.v (.string r.2.1.name)),(.ow j0_1 (List.map C_s r.2.1.params)),(.v (.int .i64 r.2.1.budget)),(.v (.int .i64 r.2.1.body.kind)),(.v (.string r.2.1.body.name)),(.v (.int .i64 r.2.1.body.n)),(.v (.int .i64 r.2.1.body.d)),(.sl (Expr.rows r.2.1.body.args)),(.v (.int .i64 r.2.1.body.at_)),(.v (.int .i64 r.2.1.at_))]))) j0_1 (some (tkO 9 1 (List.length r.2.1.params)))) j1_900 (some (AObj.box 155 (qa.cl q r.2.2))))→EC Try.prog 118 [(.pt j0 0),(.pt j1 0)] σ K
def Sat_syntax_reader_node_c1 (F:Node→qa→Option (Unit×Node×qa)):Prop:=∀(a0:Node) (a1:qa) (r:(Unit×Node×qa)),F a0 a1=some r→Sp_syntax_reader_node_c1 a0 a1 r
def Sp_syntax_reader_number (a0:qa)(a1:Int)(a2:Int)(r:(Int×qa)):Prop:=∀(σ:Store) (K:PV→Store→Prop) (j0:Nat) (q:Qz),Gx σ j0 (AObj.box 155 (qa.cl q a0))→Qz.ok σ.length q→K (.v (.int .i64 r.1)) (List.set σ j0 (some (AObj.box 155 (qa.cl q r.2))))→EC Try.prog 119 [(.pt j0 0),(.v (.int .i64 a1)),(.v (.int .i64 a2))] σ K
def Sat_syntax_reader_number (F:qa→Int→Int→Option (Int×qa)):Prop:=∀(a0:qa) (a1:Int) (a2:Int) (r:(Int×qa)),F a0 a1 a2=some r→Sp_syntax_reader_number a0 a1 a2 r
def Sp_syntax_reader_body (a0:qa)(r:(Expr×qa)):Prop:=∀(σ:Store) (K:PV→Store→Prop) (j0:Nat) (q:Qz),Gx σ j0 (AObj.box 155 (qa.cl q a0))→Qz.ok σ.length q→K (.ag (Expr.cl r.1)) (List.set σ j0 (some (AObj.box 155 (qa.cl q r.2))))→EC Try.prog 120 [(.pt j0 0)] σ K
def Sat_syntax_reader_body (F:qa→Option (Expr×qa)):Prop:=∀(a0:qa) (r:(Expr×qa)),F a0=some r→Sp_syntax_reader_body a0 r
def Sp_syntax_reader_expr (a0:qa)(r:(Expr×qa)):Prop:=∀(σ:Store) (K:PV→Store→Prop) (j0:Nat) (q:Qz),Gx σ j0 (AObj.box 155 (qa.cl q a0))→Qz.ok σ.length q→K (.ag (Expr.cl r.1)) (List.set σ j0 (some (AObj.box 155 (qa.cl q r.2))))→EC Try.prog 121 [(.pt j0 0)] σ K
def Sat_syntax_reader_expr (F:qa→Option (Expr×qa)):Prop:=∀(a0:qa) (r:(Expr×qa)),F a0=some r→Sp_syntax_reader_expr a0 r
def Sp_lex_Words (r:(List ByteArray)):Prop:=∀(σ:Store) (K:PV→Store→Prop),K (.sl (List.map C_s r)) σ→EC Try.prog 122 [] σ K
def Sat_lex_Words (F:Option (List ByteArray)):Prop:=∀(r:(List ByteArray)),F=some r→Sp_lex_Words r
def Sp_stringslite_HasPrefix (a0:ByteArray)(a1:ByteArray)(r:Bool):Prop:=∀(σ:Store) (K:PV→Store→Prop),K (.v (.bool r)) σ→EC Try.prog 126 [(.v (.string a0)),(.v (.string a1))] σ K
def Sat_stringslite_HasPrefix (F:ByteArray→ByteArray→Option Bool):Prop:=∀(a0:ByteArray) (a1:ByteArray) (r:Bool),F a0 a1=some r→Sp_stringslite_HasPrefix a0 a1 r
def Sp_syntax_reader_take (a0:qa)(r:(qd×qa)):Prop:=∀(σ:Store) (K:PV→Store→Prop) (j0:Nat) (q:Qz),Gx σ j0 (AObj.box 155 (qa.cl q a0))→Qz.ok σ.length q→K (.ag (qd.cl r.1)) (List.set σ j0 (some (AObj.box 155 (qa.cl q r.2))))→EC Try.prog 127 [(.pt j0 0)] σ K
def Sat_syntax_reader_take (F:qa→Option (qd×qa)):Prop:=∀(a0:qa) (r:(qd×qa)),F a0=some r→Sp_syntax_reader_take a0 r
def Sp_slices_Contains_string (a0:(List ByteArray))(a1:ByteArray)(r:Bool):Prop:=∀(σ:Store) (K:PV→Store→Prop),K (.v (.bool r)) σ→EC Try.prog 128 [(.sl (List.map C_s a0)),(.v (.string a1))] σ K
def Sat_slices_Contains_string (F:(List ByteArray)→ByteArray→Option Bool):Prop:=∀(a0:(List ByteArray)) (a1:ByteArray) (r:Bool),F a0 a1=some r→Sp_slices_Contains_string a0 a1 r
def Sp_syntax_reader_sum (a0:qa)(r:(Expr×qa)):Prop:=∀(σ:Store) (K:PV→Store→Prop) (j0:Nat) (q:Qz),Gx σ j0 (AObj.box 155 (qa.cl q a0))→Qz.ok σ.length q→K (.ag (Expr.cl r.1)) (List.set σ j0 (some (AObj.box 155 (qa.cl q r.2))))→EC Try.prog 129 [(.pt j0 0)] σ K
def Sat_syntax_reader_sum (F:qa→Option (Expr×qa)):Prop:=∀(a0:qa) (r:(Expr×qa)),F a0=some r→Sp_syntax_reader_sum a0 r
def Sp_syntax_reader_made (a0:qa)(a1:Expr)(r:(Expr×qa)):Prop:=∀(σ:Store) (K:PV→Store→Prop) (j0:Nat) (q:Qz),Gx σ j0 (AObj.box 155 (qa.cl q a0))→Qz.ok σ.length q→K (.ag (Expr.cl r.1)) (List.set σ j0 (some (AObj.box 155 (qa.cl q r.2))))→EC Try.prog 130 [(.pt j0 0),(.ag (Expr.cl a1))] σ K
def Sat_syntax_reader_made (F:qa→Expr→Option (Expr×qa)):Prop:=∀(a0:qa) (a1:Expr) (r:(Expr×qa)),F a0 a1=some r→Sp_syntax_reader_made a0 a1 r
def Sp_syntax_reader_post (a0:qa)(r:(Expr×qa)):Prop:=∀(σ:Store) (K:PV→Store→Prop) (j0:Nat) (q:Qz),Gx σ j0 (AObj.box 155 (qa.cl q a0))→Qz.ok σ.length q→K (.ag (Expr.cl r.1)) (List.set σ j0 (some (AObj.box 155 (qa.cl q r.2))))→EC Try.prog 131 [(.pt j0 0)] σ K
def Sat_syntax_reader_post (F:qa→Option (Expr×qa)):Prop:=∀(a0:qa) (r:(Expr×qa)),F a0=some r→Sp_syntax_reader_post a0 r
def Sp_slices_Index_string (a0:(List ByteArray))(a1:ByteArray)(r:Int):Prop:=∀(σ:Store) (K:PV→Store→Prop),K (.v (.int .i64 r)) σ→EC Try.prog 133 [(.sl (List.map C_s a0)),(.v (.string a1))] σ K
def Sat_slices_Index_string (F:(List ByteArray)→ByteArray→Option Int):Prop:=∀(a0:(List ByteArray)) (a1:ByteArray) (r:Int),F a0 a1=some r→Sp_slices_Index_string a0 a1 r
def Sp_syntax_reader_sum_c1 (a0:qa)(r:(Expr×qa)):Prop:=∀(σ:Store) (K:PV→Store→Prop) (j0:Nat) (j0_900:Nat) (q:Qz),Gx σ j0 (AObj.box 153 [(.pt j0_900 0)])→Gx σ j0_900 (AObj.box 155 (qa.cl q a0))→j0≠j0_900→Qz.ok σ.length q→K (.ag (Expr.cl r.1)) (List.set σ j0_900 (some (AObj.box 155 (qa.cl q r.2))))→EC Try.prog 135 [(.pt j0 0)] σ K
def Sat_syntax_reader_sum_c1 (F:qa→Option (Expr×qa)):Prop:=∀(a0:qa) (r:(Expr×qa)),F a0=some r→Sp_syntax_reader_sum_c1 a0 r
def Sp_syntax_reader_one (a0:qa)(r:(Expr×qa)):Prop:=∀(σ:Store) (K:PV→Store→Prop) (j0:Nat) (q:Qz),Gx σ j0 (AObj.box 155 (qa.cl q a0))→Qz.ok σ.length q→K (.ag (Expr.cl r.1)) (List.set σ j0 (some (AObj.box 155 (qa.cl q r.2))))→EC Try.prog 136 [(.pt j0 0)] σ K
def Sat_syntax_reader_one (F:qa→Option (Expr×qa)):Prop:=∀(a0:qa) (r:(Expr×qa)),F a0=some r→Sp_syntax_reader_one a0 r
def Sp_syntax_reader_atom (a0:qa)(r:(Expr×qa)):Prop:=∀(σ:Store) (K:PV→Store→Prop) (j0:Nat) (q:Qz),Gx σ j0 (AObj.box 155 (qa.cl q a0))→Qz.ok σ.length q→K (.ag (Expr.cl r.1)) (List.set σ j0 (some (AObj.box 155 (qa.cl q r.2))))→EC Try.prog 137 [(.pt j0 0)] σ K
def Sat_syntax_reader_atom (F:qa→Option (Expr×qa)):Prop:=∀(a0:qa) (r:(Expr×qa)),F a0=some r→Sp_syntax_reader_atom a0 r
def Sp_syntax_reader_atom_c1 (a0:Expr)(a1:qa)(r:(Unit×Expr×qa)):Prop:=∀(σ:Store) (K:PV→Store→Prop) (j0:Nat) (j0_4:Nat) (j1:Nat) (j1_900:Nat) (q:Qz),Gx σ j0 (AObj.box 39 [(.v (.int .i64 a0.kind)),(.v (.string a0.name)),(.v (.int .i64 a0.n)),(.v (.int .i64 a0.d)),(.vc j0_4 (List.length a0.args)),(.v (.int .i64 a0.at_))])→Gx σ j0_4 (vcO 39 6 (Expr.rows a0.args))→Gx σ j1 (AObj.box 153 [(.pt j1_900 0)])→Gx σ j1_900 (AObj.box 155 (qa.cl q a1))→j0≠j1→j0≠j1_900→j1≠j1_900→Qz.ok σ.length q→K (.tu []) (List.set (List.set (List.set σ j0 (some (AObj.box 39 [(.v (.int .i64 r.2.1.kind)),(.v (.string r.2.1.name)),(.v (.int .i64 r.2.1.n)),(.v (.int .i64 r.2.1.d)),(.vc j0_4 (List.length r.2.1.args)),(.v (.int .i64 r.2.1.at_))]))) j0_4 (some (vcO 39 6 (Expr.rows r.2.1.args)))) j1_900 (some (AObj.box 155 (qa.cl q r.2.2))))→EC Try.prog 138 [(.pt j0 0),(.pt j1 0)] σ K
def Sat_syntax_reader_atom_c1 (F:Expr→qa→Option (Unit×Expr×qa)):Prop:=∀(a0:Expr) (a1:qa) (r:(Unit×Expr×qa)),F a0 a1=some r→Sp_syntax_reader_atom_c1 a0 a1 r
def Sp_syntax_reader_list_of_node_c1 (a0:qa)(a1:Node)(r:(Unit×qa×Node)):Prop:=∀(σ:Store) (K:PV→Store→Prop) (j0:Nat) (j1_910:Nat) (j1_911:Nat) (j1_930:Nat) (q:Qz),Gx σ j0 (AObj.box 155 (qa.cl q a0))→Gx σ j1_910 (AObj.box 99 [(.v (.string a1.name)),(.ow j1_911 (List.map C_s a1.params)),(.v (.int .i64 a1.budget)),(.v (.int .i64 a1.body.kind)),(.v (.string a1.body.name)),(.v (.int .i64 a1.body.n)),(.v (.int .i64 a1.body.d)),(.sl (Expr.rows a1.body.args)),(.v (.int .i64 a1.body.at_)),(.v (.int .i64 a1.at_))])→Gx σ j1_911 (tkO 9 1 (List.length a1.params))→Gx σ j1_930 (AObj.box 153 [(.pt j0 0)])→j0≠j1_910→j0≠j1_930→j1_910≠j1_930→Qz.ok σ.length q→K (.tu []) (List.set (List.set (List.set σ j0 (some (AObj.box 155 (qa.cl q r.2.1)))) j1_910 (some (AObj.box 99 [(.v (.string r.2.2.name)),(.ow j1_911 (List.map C_s r.2.2.params)),(.v (.int .i64 r.2.2.budget)),(.v (.int .i64 r.2.2.body.kind)),(.v (.string r.2.2.body.name)),(.v (.int .i64 r.2.2.body.n)),(.v (.int .i64 r.2.2.body.d)),(.sl (Expr.rows r.2.2.body.args)),(.v (.int .i64 r.2.2.body.at_)),(.v (.int .i64 r.2.2.at_))]))) j1_911 (some (tkO 9 1 (List.length r.2.2.params))))→EC Try.prog 117 [(.pt j0 0),(.fn 118 [] [(.pt j1_910 0),(.pt j1_930 0)])] σ K
def Sat_syntax_reader_list_of_node_c1 (F:qa→Node→Option (Unit×qa×Node)):Prop:=∀(a0:qa) (a1:Node) (r:(Unit×qa×Node)),F a0 a1=some r→Sp_syntax_reader_list_of_node_c1 a0 a1 r
def Sp_syntax_reader_row_of_sum_c1 (a0:qa)(a1:(List ByteArray))(a2:Unit)(r:(Expr×qa)):Prop:=∀(σ:Store) (K:PV→Store→Prop) (j0:Nat) (j2_910:Nat) (q:Qz),Gx σ j0 (AObj.box 155 (qa.cl q a0))→Gx σ j2_910 (AObj.box 153 [(.pt j0 0)])→j0≠j2_910→Qz.ok σ.length q→K (.ag (Expr.cl r.1)) (List.set σ j0 (some (AObj.box 155 (qa.cl q r.2))))→EC Try.prog 134 [(.pt j0 0),(.sl (List.map C_s a1)),(.fn 135 [] [(.pt j2_910 0)])] σ K
def Sat_syntax_reader_row_of_sum_c1 (F:qa→(List ByteArray)→Unit→Option (Expr×qa)):Prop:=∀(a0:qa) (a1:(List ByteArray)) (a2:Unit) (r:(Expr×qa)),F a0 a1 a2=some r→Sp_syntax_reader_row_of_sum_c1 a0 a1 a2 r
def Sp_syntax_reader_row_of_one (a0:qa)(a1:(List ByteArray))(a2:Unit)(r:(Expr×qa)):Prop:=∀(σ:Store) (K:PV→Store→Prop) (j0:Nat) (q:Qz),Gx σ j0 (AObj.box 155 (qa.cl q a0))→Qz.ok σ.length q→K (.ag (Expr.cl r.1)) (List.set σ j0 (some (AObj.box 155 (qa.cl q r.2))))→EC Try.prog 134 [(.pt j0 0),(.sl (List.map C_s a1)),(.fn 136 [(.pt j0 0)] [])] σ K
def Sat_syntax_reader_row_of_one (F:qa→(List ByteArray)→Unit→Option (Expr×qa)):Prop:=∀(a0:qa) (a1:(List ByteArray)) (a2:Unit) (r:(Expr×qa)),F a0 a1 a2=some r→Sp_syntax_reader_row_of_one a0 a1 a2 r
def Sp_syntax_reader_list_of_atom_c1 (a0:qa)(a1:Expr)(r:(Unit×qa×Expr)):Prop:=∀(σ:Store) (K:PV→Store→Prop) (j0:Nat) (j1_910:Nat) (j1_914:Nat) (j1_930:Nat) (q:Qz),Gx σ j0 (AObj.box 155 (qa.cl q a0))→Gx σ j1_910 (AObj.box 39 [(.v (.int .i64 a1.kind)),(.v (.string a1.name)),(.v (.int .i64 a1.n)),(.v (.int .i64 a1.d)),(.vc j1_914 (List.length a1.args)),(.v (.int .i64 a1.at_))])→Gx σ j1_914 (vcO 39 6 (Expr.rows a1.args))→Gx σ j1_930 (AObj.box 153 [(.pt j0 0)])→j0≠j1_910→j0≠j1_930→j1_910≠j1_930→Qz.ok σ.length q→K (.tu []) (List.set (List.set (List.set σ j0 (some (AObj.box 155 (qa.cl q r.2.1)))) j1_910 (some (AObj.box 39 [(.v (.int .i64 r.2.2.kind)),(.v (.string r.2.2.name)),(.v (.int .i64 r.2.2.n)),(.v (.int .i64 r.2.2.d)),(.vc j1_914 (List.length r.2.2.args)),(.v (.int .i64 r.2.2.at_))]))) j1_914 (some (vcO 39 6 (Expr.rows r.2.2.args))))→EC Try.prog 117 [(.pt j0 0),(.fn 138 [] [(.pt j1_910 0),(.pt j1_930 0)])] σ K
def Sat_syntax_reader_list_of_atom_c1 (F:qa→Expr→Option (Unit×qa×Expr)):Prop:=∀(a0:qa) (a1:Expr) (r:(Unit×qa×Expr)),F a0 a1=some r→Sp_syntax_reader_list_of_atom_c1 a0 a1 r
def I64 (n:Int):Prop:= -9223372036854775808≤n∧n<9223372036854775808
def U8 (n:Int):Prop:=0≤n∧n<256
inductive Expr.ok:Expr→Prop
 |mk {e:Expr}:I64 e.kind→ByteArray.size e.name≤140737488351232→I64 e.n→I64 e.d→List.length e.args*72≤140737488351232→(∀y∈e.args,Expr.ok y)→I64 e.at_→Expr.ok e
theorem Expr.ok.kind {e:Expr}(h:e.ok):I64 e.kind:=by cases h;first|assumption|(constructor<;>assumption)
theorem Expr.ok.name {e:Expr}(h:e.ok):ByteArray.size e.name≤140737488351232:=by cases h;first|assumption|(constructor<;>assumption)
theorem Expr.ok.n {e:Expr}(h:e.ok):I64 e.n:=by cases h;first|assumption|(constructor<;>assumption)
theorem Expr.ok.d {e:Expr}(h:e.ok):I64 e.d:=by cases h;first|assumption|(constructor<;>assumption)
theorem Expr.ok.args {e:Expr}(h:e.ok):List.length e.args*72≤140737488351232∧∀y∈e.args,Expr.ok y:=by cases h;first|assumption|(constructor<;>assumption)
theorem Expr.ok.at_ {e:Expr}(h:e.ok):I64 e.at_:=by cases h;first|assumption|(constructor<;>assumption)
structure Node.ok (x:Node):Prop where
 name:ByteArray.size x.name≤140737488351232
 params:List.length x.params*16≤140737488351232∧∀y∈x.params,ByteArray.size y≤140737488351232
 budget:I64 x.budget
 body:Expr.ok x.body
 at_:I64 x.at_
structure Input.ok (x:Input):Prop where
 name:ByteArray.size x.name≤140737488351232
 period:I64 x.period
 phase:I64 x.phase
 at_:I64 x.at_
structure Flow.ok (x:Flow):Prop where
 name:ByteArray.size x.name≤140737488351232
 e:Expr.ok x.e
 at_:I64 x.at_
structure Output.ok (x:Output):Prop where
 name:ByteArray.size x.name≤140737488351232
 flow:ByteArray.size x.flow≤140737488351232
 deadline:I64 x.deadline
 at_:I64 x.at_
structure Program.ok (x:Program):Prop where
 nodes:List.length x.nodes*128≤140737488351232∧∀y∈x.nodes,Node.ok y
 inputs:List.length x.inputs*40≤140737488351232∧∀y∈x.inputs,Input.ok y
 flows:List.length x.flows*96≤140737488351232∧∀y∈x.flows,Flow.ok y
 outputs:List.length x.outputs*48≤140737488351232∧∀y∈x.outputs,Output.ok y
theorem maxLen_lt:maxLen<9223372036854775808:=by unfold maxLen;decide
theorem zn {V W:Type}{f:V→Option (V⊕W)}(st:Nat→V→Prop)(n:Nat)(Z:W→Prop)(step:∀i v,i<n→st i v→(∃v',f v=some (.inl v')∧st (i+1) v')∨∃r,f v=some (.inr r)∧Z r)
  (fin:∀v,st n v→∃r,f v=some (.inr r)∧Z r) {v0:V} (h0:st 0 v0):∃r,qA f v0=some r∧Z r:=by
 have main:∀k i v,i+k=n→st i v→∃r,qA f v=some r∧Z r:=by
  intro k;induction k with
  | zero =>
   intro i v hi h;obtain rfl:i=n:=by omega
   obtain⟨r,h1,h2⟩:=fin v h;exact⟨r,Qp h1,h2⟩
  | succ k ih =>
   intro i v hi h;rcases step i v (by omega) h with⟨v',h1,h2⟩|⟨r,h1,h2⟩
   ·rw[ZL h1];exact ih (i+1) v' (by omega) h2
   ·exact⟨r,Qp h1,h2⟩
 exact main n 0 v0 (by omega) h0
theorem zg {α:Type}{xs:List α}{i:Nat}(h:i<xs.length):qS xs (i:Int)=some xs[i]:=by
 unfold qS;rw[if_pos (by omega),Int.toNat_natCast,List.getElem?_eq_getElem h]
theorem dlt {i n:Nat}(h:i<n):decide ((i:Int)<(n:Int))=true:=decide_eq_true (by omega)
theorem dge (n:Nat):decide ((n:Int)<(n:Int))=false:=decide_eq_false (by omega)
theorem Zm {i n:Nat}(h:i<n)(hn:n≤maxLen):IntKind.i64.wrap ((i:Int)+1)=((i+1:Nat):Int):=wrap_inc h (Nat.lt_of_le_of_lt hn maxLen_lt)
section
variable {α β:Type} {P:α→β→Prop} {a:α} {b:β}
open Classical in
noncomputable def pick (P:α→β→Prop)(a:α):Option β:=if h:∃b,P a b then some (Classical.choose h)else none
theorem QY (h:pick P a=some b):P a b:=by
 unfold pick at h;split at h
 ·rename_i hx;obtain rfl:=Option.some.inj h;exact Classical.choose_spec hx
 ·cases h
theorem ZH (h:∃b,P a b):∃b,pick P a=some b∧P a b:=⟨_,by unfold pick;rw[dif_pos h],Classical.choose_spec h⟩
end
theorem qqo (s:ByteArray):s.data.toList.length=s.size:=by rw[Array.length_toList];rfl
theorem getB_at {s:ByteArray}{i:Nat}(h:i<s.size):∃b:UInt8,Zo s (i:Int)=some (b.toNat:Int):=by
 unfold Zo;rw[if_pos (by omega),Int.toNat_natCast,List.getElem?_eq_getElem (by rw[qqo];exact h)];exact⟨_,rfl⟩
theorem zF {n:Int}(h1: -9223372036854775808≤n)(h2:n<9223372036854775808):IntKind.i64.wrap n=n:=wrap_id h1 h2
theorem ml {n:Nat}(h:n≤140737488351232):n≤maxLen:=by unfold maxLen;omega
theorem mlB {n B:Nat}(h:n*B≤140737488351232)(hB:0<B):n≤maxLen:=ml (Nat.le_trans (Nat.le_mul_of_pos_right n hB) h)
theorem Expr.ok.nm {e:Expr}(h:e.ok):e.name.size≤maxLen:=ml h.name
theorem Expr.ok.len {e:Expr}(h:e.ok):e.args.length≤maxLen:=mlB h.args.1 (by omega)
theorem Expr.ok.arg {e:Expr}(h:e.ok):∀x∈e.args,x.ok:=h.args.2
theorem Expr.induct {p:Expr→Prop}(h:∀e,(∀x∈e.args,p x)→p e)(e:Expr):p e:=Expr.ind (fun k s n d xs a ih=>h ⟨k,s,n,d,xs,a⟩ ih) e
end Go.Proofs.Ytohmmfimedgccaa.E
end
section
namespace Go.Proofs.Ytohmmfimedgccaa.E
set_option maxRecDepth 100000
set_option maxHeartbeats 4000000
set_option linter.unusedVariables false
set_option linter.unusedSimpArgs false
noncomputable def B_lex_in (a0:Int)(a1:Bool):Option Bool:=
 ((((if((decide ((48:Int)≤a0))&&(decide (a0≤(57:Int))))then
  some ((decide ((48:Int)≤a0))&&(decide (a0≤(57:Int))))
 else
  some (decide (a0=(95:Int))):Option Bool).bind fun v10=>
 if v10 then
  some (.inr (.inr ()))
 else
  if((decide ((97:Int)≤a0))&&(decide (a0≤(122:Int))))then
   some (.inr (.inl ()))
  else
   some (.inl ()):Option (Unit⊕Unit⊕Unit)).bind fun x=>match x with
 | .inl r=>some (.inl r)
 | .inr (.inl r)=>some (.inr (.inr r))
 | .inr (.inr _) =>
  if a1 then
   some (.inr (.inl false))
  else
   some (.inr (.inr ())):Option (Unit⊕Bool⊕Unit)).bind fun x=>match x with
 | .inl r=>some (.inr r)
 | .inr (.inl r)=>some (.inl r)
 | .inr (.inr _) =>
  some (.inl true):Option (Bool⊕Unit)).bind fun x=>match x with
 | .inl r=>some r
 | .inr _ =>
  some false
theorem W_lex_in:Sat_lex_in (B_lex_in):=by
 intro a0 a1 r h σ K hK;refine zB Try.func107 rfl rfl (by kernel_rfl) ?_;unfold B_lex_in at h;have hP:=Pre.refl σ;have E0:qu [(.v (.int .u8 a0)),(.v (.bool a1))] 0=(.v (.int .u8 a0)):=rfl;have E1:qu [(.v (.int .u8 a0)),(.v (.bool a1))] 1=(.v (.bool a1)):=rfl;have TT:=cj2 Expr.rlen T_5;refine qe (w_x Expr.rlen ?_);refine qg ?_;obtain⟨x1,h2,h⟩:=qb h;refine qh (fun e s=>.inr ()=x1∧Pre σ s) ?_ ?_
 ·refine qn ?_;obtain⟨x3,h4,h2⟩:=qb h2;refine qh (fun e s=>.inr (.inr ())=x3∧Pre σ s) ?_ ?_
  ·refine qn ?_;obtain⟨x5,h6,h4⟩:=qb h4;refine qh (fun e s=>.inr (.inr ())=x5∧eB e 1 a1∧Pre σ s) ?_ ?_
   ·refine qn (qk (qk (qk (qh (fun e s=>e 0=(.v (.int .u8 a0))∧eB e 1 a1∧eB e 5 ((decide ((48:Int)≤a0))&&(decide (a0≤(57:Int))))∧Pre σ s) ?_ ?_))))
    ·cases hb7:(decide ((48:Int)≤a0))
     ·refine w_x (cj3 E0 hb7 TT) ?_;exact qf ⟨E0,E1,(xv (cj3 E0 hb7 TT)),hP⟩
     ·refine w_x (cj3 E0 hb7 TT) ?_;exact qf ⟨E0,E1,(xv (cj3 E0 hb7 TT)),hP⟩
    rintro e s ⟨E0,E1,E5,hP⟩
    obtain⟨x8,h9,h6⟩:=qb h6;refine qh (fun e s=>∃v10,v10=x8∧e 0=(.v (.int .u8 a0))∧eB e 1 a1∧eB e 5 v10∧Pre σ s) ?_ ?_
    ·rcases qj h9 with⟨hb11,h9⟩|⟨hb11,h9⟩
     ·refine xt (cj2 E5 hb11) (qm ?_);obtain rfl:=qc h9;exact qf ⟨_,rfl,E0,E1,E5,hP⟩
     ·refine xf (cj2 E5 hb11) (w_x (cj2 E0 TT) ?_);obtain rfl:=qc h9;exact qf ⟨_,rfl,E0,E1,(xv (cj2 E0 TT)),hP⟩
    rintro e s ⟨v10,rfl,E0,E1,E5,hP⟩
    (try dsimp only at h6);refine qe ?_;rcases qj h6 with⟨hb12,h6⟩|⟨hb12,h6⟩
    ·refine xt (cj2 E5 hb12) (qz (qT (qG ?_)));obtain rfl:=qc h6;exact qf ⟨rfl,E1,hP⟩
    ·refine xf (cj2 E5 hb12) (qm (qg (qk (qh (fun e s=>eB e 14 ((decide ((97:Int)≤a0))&&(decide (a0≤(122:Int))))∧Pre σ s) ?_ ?_))))
     ·cases hb13:(decide ((97:Int)≤a0))
      ·refine w_x (cj3 E0 hb13 TT) ?_;exact qf ⟨(xv (cj3 E0 hb13 TT)),hP⟩
      ·refine w_x (cj3 E0 hb13 TT) ?_;exact qf ⟨(xv (cj3 E0 hb13 TT)),hP⟩
     rintro e s ⟨E14,hP⟩
     refine qe ?_;rcases qj h6 with⟨hb14,h6⟩|⟨hb14,h6⟩
     ·refine xt (cj2 E14 hb14) (qz (qT (ZY (by decide) ?_)));obtain rfl:=qc h6;refine cw_x ?_;(try dsimp only at h4);refine qG ?_;obtain rfl:=qc h4;exact qf ⟨rfl,hP⟩
     ·refine xf (cj2 E14 hb14) (qm (qg (qz (ZY (by decide) ?_))));obtain rfl:=qc h6;refine cw_x ?_;(try dsimp only at h4);refine ZY (by decide) ?_;obtain rfl:=qc h4;refine cw_x ?_;(try dsimp only at h2);refine qG ?_;obtain rfl:=qc h2;exact qf ⟨rfl,hP⟩
   rintro e s ⟨rfl,E1,hP⟩
   (try dsimp only at h4);refine qe (w_x (cj2 E1 TT) ?_);refine qg ?_;rcases qj h4 with⟨hb15,h4⟩|⟨hb15,h4⟩
   ·refine xt hb15 (qe (w_x Expr.rlen ?_));refine qg (qo (qx ?_));obtain rfl:=qc h4;refine qO ?_;(try dsimp only at h2);refine qx ?_;obtain rfl:=qc h2;refine qO ?_;(try dsimp only at h);obtain rfl:=qc h;exact qq (fun _=>rfl) (xr (rs:= #[.tmp 4]) TT) hP (.refl _) (.v _) hK
   ·refine xf hb15 (qm (zc ?_));obtain rfl:=qc h4;exact qf ⟨rfl,hP⟩
  rintro e s ⟨rfl,hP⟩
  (try dsimp only at h2);refine qe (qe (w_x Expr.rlen ?_));refine qg (qo (ze (qx ?_)));obtain rfl:=qc h2;refine qO ?_;(try dsimp only at h);obtain rfl:=qc h;exact qq (fun _=>rfl) (xr (rs:= #[.tmp 4]) TT) hP (.refl _) (.v _) hK
 rintro e s ⟨rfl,hP⟩
 (try dsimp only at h);refine qe (w_x Expr.rlen ?_);refine qg (qo ?_);obtain rfl:=qc h;exact qq (fun _=>rfl) (xr (rs:= #[.tmp 4]) TT) hP (.refl _) (.v _) hK
noncomputable def B_lex_next_c1 (f0:Int→Bool→Option Bool)(a0:Int):Option Bool:=
 (f0 a0 false).bind fun y1=>
 some y1
theorem W_lex_next_c1 (f0)(S0:Sat_lex_in f0):Sat_lex_next_c1 (B_lex_next_c1 f0):=by
 intro a0 r h σ K hK;refine zB Try.func109 rfl rfl (by kernel_rfl) ?_;unfold B_lex_next_c1 at h;have hP:=Pre.refl σ;have E0:qu [(.v (.int .u8 a0))] 0=(.v (.int .u8 a0)):=rfl;have TT:=cj3 Expr.rlen T_4 T_5;refine qe (w_x Expr.rlen ?_);refine qg (qe ?_);obtain⟨y1,h2,h⟩:=qb h;refine w_x (cj2 E0 TT) ?_;refine S0 _ _ _ h2 _ _ ?_;refine w_y (cj2 E0 TT) ?_;refine qg (qo ?_);obtain rfl:=qc h;exact qq (fun _=>rfl) (xr (rs:= #[.tmp 2]) TT) hP (.refl _) (.v _) hK
noncomputable def B_lex_digit (a0:Int):Option Bool:=
 some ((decide ((48:Int)≤a0))&&(decide (a0≤(57:Int))))
theorem W_lex_digit:Sat_lex_digit (B_lex_digit):=by
 intro a0 r h σ K hK;refine zB Try.func110 rfl rfl (by kernel_rfl) ?_;unfold B_lex_digit at h;have hP:=Pre.refl σ;have E0:qu [(.v (.int .u8 a0))] 0=(.v (.int .u8 a0)):=rfl;have TT:=cj2 Expr.rlen T_5;refine qe (w_x Expr.rlen ?_);refine qg (qh (fun e s=>eB e 2 ((decide ((48:Int)≤a0))&&(decide (a0≤(57:Int))))∧Pre σ s) ?_ ?_)
 ·cases hb1:(decide ((48:Int)≤a0))
  ·refine w_x (cj3 E0 hb1 TT) ?_;exact qf ⟨(xv (cj3 E0 hb1 TT)),hP⟩
  ·refine w_x (cj3 E0 hb1 TT) ?_;exact qf ⟨(xv (cj3 E0 hb1 TT)),hP⟩
 rintro e s ⟨E2,hP⟩
 refine qo ?_;obtain rfl:=qc h;exact qq (fun _=>rfl) (xr (rs:= #[.tmp 2]) (cj2 E2 TT)) hP (.refl _) (.v _) hK
noncomputable def Zv (a0:ByteArray)(a1:(Int→Option Bool)):Int→Option (Int⊕Int)
 | v4 =>
  (if(decide (v4<((ByteArray.size a0:Nat):Int)))then
   (Zo a0 v4).bind fun y7=>
   (a1 y7).bind fun y9=>
   some y9
  else
   some false).bind fun w11=>
  if((decide (v4<((ByteArray.size a0:Nat):Int)))&&w11)then
   (some (IntKind.i64.wrap (v4+(1:Int))):Option Int).bind fun v18=>
   some (.inl v18)
  else
   some (.inr v4)
noncomputable def B_lex_while (a0:ByteArray)(a1:(Int→Option Bool)):Option Int:=
 (qA (Zv a0 a1) (0:Int):Option Int).bind fun v3=>
 some v3
theorem W_lex_while:Sat_lex_while (B_lex_while):=by
 intro a0 a1 r h σ K fid1 caps1 hg1 hK;refine zB Try.func108 rfl rfl (by kernel_rfl) ?_;unfold B_lex_while at h;have hP:=Pre.refl σ;have E0:qu [(.v (.string a0)),(.fn fid1 [] caps1)] 0=(.v (.string a0)):=rfl;have E1:qu [(.v (.string a0)),(.fn fid1 [] caps1)] 1=(.fn fid1 [] caps1):=rfl;have TT:=cj4 Expr.rlen T_3 T_5 T_9;refine qe (w_x Expr.rlen ?_);refine qg (qe (w_x Expr.rlen ?_));refine qg ?_;obtain⟨x1,h2,h⟩:=qb h;refine qh (fun e s=>∃v3,v3=x1∧eI e 5 v3∧Pre σ s) ?_ ?_
 ·refine qn (qX h2 (fun v e s=>∃v4,v4=v∧eT e 0 a0∧e 1=(.fn fid1 [] caps1)∧eI e 5 v4∧Pre σ s) ⟨_,WkE.refl _,_,rfl,E0,E1,(xv TT),hP⟩ ?_)
  rintro v x5 e s hf6 ⟨v4,rfl,E0,E1,E5,hP⟩
  unfold Zv at hf6;(try dsimp only at hf6);refine qk ?_;obtain⟨w11,h12,hf6⟩:=qb hf6;refine qh (fun e s=>eT e 0 a0∧e 1=(.fn fid1 [] caps1)∧eI e 5 v4∧eB e 16 ((decide (v4<((ByteArray.size a0:Nat):Int)))&&w11)∧Pre σ s) ?_ ?_
  ·cases hb13:(decide (v4<((ByteArray.size a0:Nat):Int)))
   ·replace h12:=zx (by simp only[hb13,Bool.or_true,Bool.true_or,Bool.or_false,Bool.false_or,Bool.and_true,Bool.true_and,Bool.and_false,Bool.false_and,Bool.not_true,Bool.not_false,cond_true,cond_false]) h12;obtain rfl:=qc h12;refine w_x (cj5 E0 E1 E5 hb13 TT) ?_;exact qf ⟨E0,E1,E5,(xv (cj5 E0 E1 E5 hb13 TT)),hP⟩
   ·replace h12:=qI (by simp only[hb13,Bool.or_true,Bool.true_or,Bool.or_false,Bool.false_or,Bool.and_true,Bool.true_and,Bool.and_false,Bool.false_and,Bool.not_true,Bool.not_false,cond_true,cond_false]) h12;obtain⟨y7,h8,h12⟩:=qb h12;obtain⟨y9,h10,h12⟩:=qb h12;obtain rfl:=qc h12;obtain⟨k14a,k14b,k14c,k14d⟩:=JT h8;have q1:=cj8 E0 E1 E5 hb13 k14a k14c k14d TT;refine w_x q1 ?_;refine hg1 _ _ h10 _ _ hP ?_;refine w_y q1 ?_;exact qf ⟨E0,E1,E5,(xv q1),hP⟩
  rintro e s ⟨E0,E1,E5,E16,hP⟩
  refine qe ?_;rcases qj hf6 with⟨hb15,hf6⟩|⟨hb15,hf6⟩
  ·refine xt (cj2 E16 hb15) (qm (qg ?_));obtain⟨x16,h17,hf6⟩:=qb hf6;refine QE (fun e s=>∃v18,v18=x16∧eT e 0 a0∧e 1=(.fn fid1 [] caps1)∧eI e 5 v18∧Pre σ s) ?_ ?_
   ·refine qn (w_x (cj2 E5 TT) ?_);refine zc ?_;obtain rfl:=qc h17;exact zr ⟨_,rfl,E0,E1,(xv (cj2 E5 TT)),hP⟩
   rintro e s ⟨v18,rfl,E0,E1,E5,hP⟩
   (try dsimp only at hf6);obtain rfl:=qc hf6;exact zK rfl ⟨_,rfl,E0,E1,E5,hP⟩
  ·refine xf (cj2 E16 hb15) (qz (qT ?_));obtain rfl:=qc hf6;refine zo rfl fun hr19=> ?_;obtain rfl:=hr19;exact qG (qf ⟨_,rfl,E5,hP⟩)
 rintro e s ⟨v3,rfl,E5,hP⟩
 (try dsimp only at h);refine qe (w_x (cj2 E5 TT) ?_);refine qg (qo ?_);obtain rfl:=qc h;exact qq (fun _=>rfl) (xr (rs:= #[.tmp 4]) TT) hP (.refl _) (.v _) hK
noncomputable def zZ (a0:ByteArray):(Int×Int)→Option ((Int×Int)⊕((Int×Bool)⊕Int))
 | (v4, v5) =>
  if(decide (v5<((List.length (Qr a0):Nat):Int)))then
   ((qS (Qr a0) v5).bind fun y12=>
   if(decide ((1000000000:Int)<(IntKind.i64.wrap ((IntKind.i64.wrap (v4*(10:Int)))+(IntKind.i64.wrap (IntKind.u8.wrap (y12 - (48:Int))))))))then
    some (.inl ((0:Int),false))
   else
    some (.inr (IntKind.i64.wrap ((IntKind.i64.wrap (v4*(10:Int)))+(IntKind.i64.wrap (IntKind.u8.wrap (y12 - (48:Int))))))):Option ((Int×Bool)⊕Int)).bind fun x=>match x with
   | .inl r=>some (.inr (.inl r))
   | .inr v11 =>
    some (.inl (v11,(IntKind.i64.wrap (v5+(1:Int)))))
  else
   some (.inr (.inr v4))
noncomputable def B_lex_number (a0:ByteArray):Option (Int×Bool):=
 (qA (zZ a0) ((0:Int),(0:Int)):Option ((Int×Bool)⊕Int)).bind fun x=>match x with
 | .inl r=>some r
 | .inr v3 =>
  some (v3,true)
theorem W_lex_number:Sat_lex_number (B_lex_number):=by
 intro a0 r h σ K hK;refine zB Try.func111 rfl rfl (by kernel_rfl) ?_;unfold B_lex_number at h;have hP:=Pre.refl σ;have E0:qu [(.v (.string a0))] 0=(.v (.string a0)):=rfl;have TT:=cj6 Expr.rlen T_2 T_3 T_5 T_89 T_9;refine qe (w_x Expr.rlen ?_);refine qg (qe (w_x Expr.rlen ?_));refine qg (qk (qe (w_x (cj3 E0 (s2b_rows a0) TT) ?_)));refine qg ?_;obtain⟨x1,h2,h⟩:=qb h;refine qh (fun e s=>∃v3:Int,.inr v3=x1∧eI e 4 v3∧Pre σ s) ?_ ?_
 ·refine qn (qX h2 (fun v e s=>∃v4 v5,(v4,v5)=v∧eI e 4 v4∧eS e 8 C_u8 (Qr a0)∧eL e 9 (Qr a0)∧eI e 10 v5∧Pre σ s) ⟨_,WkE.refl _,_,_,rfl,(xv TT),(xv TT),(xv TT),(xv TT),hP⟩ ?_)
  rintro v x6 e s hf7 ⟨v4,v5,rfl,E4,E8,E9,E10,hP⟩
  unfold zZ at hf7;(try dsimp only at hf7);refine qe (w_x (cj3 E9 E10 TT) ?_);refine qg (qe ?_);rcases qj hf7 with⟨hb8,hf7⟩|⟨hb8,hf7⟩
  ·refine xt hb8 (qm (qg ?_));obtain⟨x9,h10,hf7⟩:=qb hf7;refine qh (fun e s=>∃v11:Int,.inr v11=x9∧eI e 4 v11∧eS e 8 C_u8 (Qr a0)∧eL e 9 (Qr a0)∧eI e 10 v5∧Pre σ s) ?_ ?_
   ·refine qn (qe ?_);obtain⟨y12,h13,h10⟩:=qb h10;have R14:(List.map C_u8 (Qr a0))[(v5).toNat]? =some [(.v (.int .u8 y12))]:=zw (qp h13).2;refine w_x (cj5 E8 E10 R14 (qp h13).1 TT) ?_;refine qg (qe (w_x (cj2 E4 TT) ?_));refine qg (qe (w_x (cj2 E4 TT) ?_));refine qg ?_;rcases qj h10 with⟨hb15,h10⟩|⟨hb15,h10⟩
    ·refine xt hb15 (qe (w_x Expr.rlen ?_));refine qg (qo (qx ?_));obtain rfl:=qc h10;refine qO ?_;(try dsimp only at hf7);obtain rfl:=qc hf7;refine Zz rfl fun hr16=> ?_;obtain rfl:=hr16;refine qx (qO ?_);(try dsimp only at h);obtain rfl:=qc h;exact qq (fun _=>rfl) (xr (rs:= #[.tmp 2,.tmp 3]) TT) hP (.refl _) (.tu (CnL.cons (.v _) (CnL.cons (.v _) CnL.nil))) hK
    ·refine xf hb15 (qm (zc ?_));obtain rfl:=qc h10;exact qf ⟨_,rfl,(xv TT),E8,E9,E10,hP⟩
   rintro e s ⟨v11,rfl,E4,E8,E9,E10,hP⟩
   (try dsimp only at hf7);refine w_x (cj2 E10 TT) ?_;obtain rfl:=qc hf7;exact zK rfl ⟨_,_,rfl,E4,E8,E9,(xv (cj2 E10 TT)),hP⟩
  ·refine xf hb8 (qz (qT ?_));obtain rfl:=qc hf7;refine zo rfl fun hr17=> ?_;obtain rfl:=hr17;exact qG (qf ⟨_,rfl,E4,hP⟩)
 rintro e s ⟨v3,rfl,E4,hP⟩
 (try dsimp only at h);refine qe (w_x (cj2 E4 TT) ?_);refine qg (qo ?_);obtain rfl:=qc h;exact qq (fun _=>rfl) (xr (rs:= #[.tmp 2,.tmp 3]) TT) hP (.refl _) (.tu (CnL.cons (.v _) (CnL.cons (.v _) CnL.nil))) hK
def qQ:(List ByteArray):=[(⟨#[42,94]⟩:ByteArray),(⟨#[47,94]⟩:ByteArray),(⟨#[126,62]⟩:ByteArray),(⟨#[58,58]⟩:ByteArray),(⟨#[61,61]⟩:ByteArray),(⟨#[40]⟩:ByteArray),(⟨#[41]⟩:ByteArray),(⟨#[123]⟩:ByteArray),(⟨#[125]⟩:ByteArray),(⟨#[44]⟩:ByteArray),(⟨#[59]⟩:ByteArray),(⟨#[61]⟩:ByteArray),(⟨#[43]⟩:ByteArray),(⟨#[45]⟩:ByteArray),(⟨#[42]⟩:ByteArray),(⟨#[47]⟩:ByteArray),(⟨#[37]⟩:ByteArray),(⟨#[60]⟩:ByteArray),(⟨#[63]⟩:ByteArray),(⟨#[58]⟩:ByteArray)]
noncomputable def B_lex_signs:Option (List ByteArray):=
 some qQ
theorem W_lex_signs:Sat_lex_signs (B_lex_signs):=by
 intro r h σ K hK;refine zB Try.func112 rfl rfl (by kernel_rfl) ?_;unfold B_lex_signs at h;have hP:=Pre.refl σ;have TT:=cj3 Expr.rlen T_9 T_97;refine qe (w_x Expr.rlen ?_);refine qg (qe (w_x TT ?_));refine qg (qo ?_);obtain rfl:=qc h;exact qq (fun _=>rfl) (xr (rs:= #[.tmp 0]) TT) hP (Wk.of_eq rfl) (Cn.rows (fun _=>CnL.cons (.v _) CnL.nil) _) hK
noncomputable def B_strings_HasPrefix (f0:ByteArray→ByteArray→Option Bool)(a0:ByteArray)(a1:ByteArray):Option Bool:=
 (f0 a0 a1).bind fun y1=>
 some y1
theorem W_strings_HasPrefix (f0)(S0:Sat_stringslite_HasPrefix f0):Sat_strings_HasPrefix (B_strings_HasPrefix f0):=by
 intro a0 a1 r h σ K hK;refine zB Try.func113 rfl rfl (by kernel_rfl) ?_;unfold B_strings_HasPrefix at h;have hP:=Pre.refl σ;have E0:qu [(.v (.string a0)),(.v (.string a1))] 0=(.v (.string a0)):=rfl;have E1:qu [(.v (.string a0)),(.v (.string a1))] 1=(.v (.string a1)):=rfl;have TT:=cj2 Expr.rlen T_9;refine qe (w_x Expr.rlen ?_);refine qg (qe ?_);obtain⟨y1,h2,h⟩:=qb h;refine w_x (cj3 E0 E1 TT) ?_;refine S0 _ _ _ h2 _ _ ?_;refine w_y (cj3 E0 E1 TT) ?_;refine qg (qo ?_);obtain rfl:=qc h;exact qq (fun _=>rfl) (xr (rs:= #[.tmp 4]) TT) hP (.refl _) (.v _) hK
noncomputable def B_stringslite_HasPrefix (a0:ByteArray)(a1:ByteArray):Option Bool:=
 (if(decide (((ByteArray.size a1:Nat):Int)≤((ByteArray.size a0:Nat):Int)))then
  (Zn a0 (0:Int) ((ByteArray.size a1:Nat):Int)).bind fun y1=>
  some (decide (y1=a1))
 else
  some false).bind fun w3=>
 some ((decide (((ByteArray.size a1:Nat):Int)≤((ByteArray.size a0:Nat):Int)))&&w3)
theorem W_stringslite_HasPrefix:Sat_stringslite_HasPrefix (B_stringslite_HasPrefix):=by
 intro a0 a1 r h σ K hK;refine zB Try.func126 rfl rfl (by kernel_rfl) ?_;unfold B_stringslite_HasPrefix at h;have hP:=Pre.refl σ;have E0:qu [(.v (.string a0)),(.v (.string a1))] 0=(.v (.string a0)):=rfl;have E1:qu [(.v (.string a0)),(.v (.string a1))] 1=(.v (.string a1)):=rfl;have TT:=cj3 Expr.rlen T_3 T_9;refine qe (w_x Expr.rlen ?_);refine qg ?_;obtain⟨w3,h4,h⟩:=qb h;refine qh (fun e s=>eB e 4 ((decide (((ByteArray.size a1:Nat):Int)≤((ByteArray.size a0:Nat):Int)))&&w3)∧Pre σ s) ?_ ?_
 ·cases hb5:(decide (((ByteArray.size a1:Nat):Int)≤((ByteArray.size a0:Nat):Int)))
  ·replace h4:=zx (by simp only[hb5,Bool.or_true,Bool.true_or,Bool.or_false,Bool.false_or,Bool.and_true,Bool.true_and,Bool.and_false,Bool.false_and,Bool.not_true,Bool.not_false,cond_true,cond_false]) h4;obtain rfl:=qc h4;refine w_x (cj4 E0 E1 hb5 TT) ?_;exact qf ⟨(xv (cj4 E0 E1 hb5 TT)),hP⟩
  ·replace h4:=qI (by simp only[hb5,Bool.or_true,Bool.true_or,Bool.or_false,Bool.false_or,Bool.and_true,Bool.true_and,Bool.and_false,Bool.false_and,Bool.not_true,Bool.not_false,cond_true,cond_false]) h4;obtain⟨y1,h2,h4⟩:=qb h4;obtain rfl:=qc h4;have q1:=cj6 E0 E1 hb5 (qH h2).1 (qH h2).2 TT;refine w_x q1 ?_;exact qf ⟨(xv q1),hP⟩
 rintro e s ⟨E4,hP⟩
 refine qo ?_;obtain rfl:=qc h;exact qq (fun _=>rfl) (xr (rs:= #[.tmp 4]) (cj2 E4 TT)) hP (.refl _) (.v _) hK
noncomputable def ZR (y26:(List ByteArray))(a0:ByteArray)(f6:ByteArray→ByteArray→Option Bool):(Int×qd)→Option ((Int×qd)⊕((qd×Int)⊕qd))
 | (v31, v32) =>
  if(decide (v31<((List.length y26:Nat):Int)))then
   ((qS y26 v31).bind fun y39=>
   (f6 a0 y39).bind fun y42=>
   if y42 then
    some (.inl ((qd.mk (3:Int) y39 (0:Int) (0:Int)),(0:Int)))
   else
    some (.inr v32):Option ((qd×Int)⊕qd)).bind fun x=>match x with
   | .inl r=>some (.inr (.inl r))
   | .inr v38 =>
    some (.inl ((IntKind.i64.wrap (v31+(1:Int))),v38))
  else
   some (.inr (.inr v32))
noncomputable def B_lex_next (f0:Int→Bool→Option Bool)(f1:ByteArray→(Int→Option Bool)→Option Int)(f2:Int→Option Bool)(f3:Int→Option Bool)(f4:ByteArray→Option (Int×Bool))(f5:Option (List ByteArray))(f6:ByteArray→ByteArray→Option Bool)(a0:ByteArray):Option (qd×Int):=
 (Zo a0 (0:Int)).bind fun y1=>
 (f0 y1 true).bind fun y3=>
 if y3 then
  (f1 a0 (fun z0=>f2 z0)).bind fun y7=>
  (Zn a0 (0:Int) y7).bind fun y9=>
  some ((qd.mk (1:Int) y9 (0:Int) (0:Int)),(0:Int))
 else
  (Zo a0 (0:Int)).bind fun y11=>
  (f3 y11).bind fun y13=>
  if y13 then
   (f1 a0 (fun z0=>f3 z0)).bind fun y17=>
   (Zn a0 (0:Int) y17).bind fun y19=>
   (f4 y19).bind fun y21=>
   if(!y21.2)then
    some ((qd.mk (0:Int) (⟨#[]⟩:ByteArray) (0:Int) (0:Int)),(7:Int))
   else
    (Zn a0 (0:Int) y17).bind fun y24=>
    some ((qd.mk (2:Int) y24 y21.1 (0:Int)),(0:Int))
  else
   (f5).bind fun y26=>
   (qA (ZR y26 a0 f6) ((0:Int),(qd.mk (0:Int) (⟨#[]⟩:ByteArray) (0:Int) (0:Int))):Option ((qd×Int)⊕qd)).bind fun x=>match x with
   | .inl r=>some r
   | .inr v30 =>
    some ((qd.mk (0:Int) (⟨#[]⟩:ByteArray) (0:Int) (0:Int)),(1:Int))
abbrev C78_0 (z0 z1:Store)(z2:Nat):Prop:=Bx z0 z1 z2 85 [(.v (.int .i64 (0:Int))),(.v (.string (⟨#[]⟩:ByteArray))),(.v (.int .i64 (0:Int))),(.v (.int .i64 (0:Int)))]
theorem W_lex_next (f0 f1 f2 f3 f4 f5 f6)(S0:Sat_lex_in f0)(S1:Sat_lex_while f1)(S2:Sat_lex_next_c1 f2)(S3:Sat_lex_digit f3)(S4:Sat_lex_number f4)(S5:Sat_lex_signs f5)(S6:Sat_strings_HasPrefix f6):Sat_lex_next (B_lex_next f0 f1 f2 f3 f4 f5 f6):=by
 intro a0 r h σ K hK;refine zB Try.func78 rfl rfl (by kernel_rfl) ?_;unfold B_lex_next at h;have hP:=Pre.refl σ;have E0:qu [(.v (.string a0))] 0=(.v (.string a0)):=rfl;have TT:=cj10 Expr.rlen T_158 T_2 T_3 T_4 T_5 T_85 T_9 T_97 qd.cle;refine qh (fun e s=>∃i2:Nat,C78_0 σ s i2∧eT e 0 a0∧eP e 2 i2∧Pre σ s) ?_ ?_
 ·refine w_x TT ?_;exact qf ⟨σ.length,(Bx.new hP _ _),E0,(xv TT),(hP.app _)⟩
 rintro e s ⟨i2,X2,E0,E2,hP⟩
 refine qk (qe ?_);obtain⟨y1,h2,h⟩:=qb h;obtain⟨y3,h4,h⟩:=qb h;obtain⟨k5a,k5b,k5c,k5d⟩:=JT h2;refine w_x (cj5 E0 k5a k5c k5d TT) ?_;refine S0 _ _ _ h4 _ _ ?_;refine w_y (cj5 E0 k5a k5c k5d TT) ?_;refine qg (qe ?_);rcases qj h with⟨hb6,h⟩|⟨hb6,h⟩
 ·refine xt hb6 (qe ?_);obtain⟨y7,h8,h⟩:=qb h;refine w_x (cj2 E0 TT) ?_;refine S1 _ _ _ h8 _ _ _ _ (fun z0 b hg s' K hq hk=>by obtain⟨ex,rfl⟩:=hq;exact S2 z0 b hg _ _ hk) ?_;refine w_y (cj2 E0 TT) ?_;refine qg ?_;obtain⟨y9,h10,h⟩:=qb h;refine qh (fun e s=>Bx σ s i2 85 [(.v (.int .i64 (1:Int))),(.v (.string y9)),(.v (.int .i64 (0:Int))),(.v (.int .i64 (0:Int)))]∧eP e 2 i2∧eI e 3 (0:Int)∧Pre σ s) ?_ ?_
  ·have q1:=X2.same 85 [(.v (.int .i64 (1:Int))),(.v (.string y9)),(.v (.int .i64 (0:Int))),(.v (.int .i64 (0:Int)))];have q2:=cj7 E0 E2 X2.get (qH h10).1 (qH h10).2 q1.get TT;refine w_x q2 ?_;exact qf ⟨q1,E2,(xv q2),(hP.set X2.le (some (AObj.box 85 [(.v (.int .i64 (1:Int))),(.v (.string y9)),(.v (.int .i64 (0:Int))),(.v (.int .i64 (0:Int)))])))⟩
  rintro e s ⟨X2,E2,E3,hP⟩
  refine qo (ze ?_);obtain rfl:=qc h;exact qq (fun _=>rfl) (xr (rs:= #[.cell 2 85,.tmp 3]) (cj4 X2.get E2 E3 TT)) hP (.refl _) (.tu (CnL.cons (.ag (CnL.cons (.v _) (CnL.cons (.v _) (CnL.cons (.v _) (CnL.cons (.v _) CnL.nil))))) (CnL.cons (.v _) CnL.nil))) hK
 ·refine xf hb6 (qm (qg (qk (qe ?_))));obtain⟨y11,h12,h⟩:=qb h;obtain⟨y13,h14,h⟩:=qb h;obtain⟨k15a,k15b,k15c,k15d⟩:=JT h12;refine w_x (cj5 E0 k15a k15c k15d TT) ?_;refine S3 _ _ h14 _ _ ?_;refine w_y (cj5 E0 k15a k15c k15d TT) ?_;refine qg (qe ?_);rcases qj h with⟨hb16,h⟩|⟨hb16,h⟩
  ·refine xt hb16 (qe ?_);obtain⟨y17,h18,h⟩:=qb h;refine w_x (cj2 E0 TT) ?_;refine S1 _ _ _ h18 _ _ _ _ (fun z0 b hg s' K hq hk=>by obtain⟨ex,rfl⟩:=hq;exact S3 z0 b hg _ _ hk) ?_;refine w_y (cj2 E0 TT) ?_;refine qg (qe ?_);obtain⟨y19,h20,h⟩:=qb h;obtain⟨y21,h22,h⟩:=qb h;have q3:=cj4 E0 (qH h20).1 (qH h20).2 TT;refine w_x q3 ?_;refine S4 _ _ h22 _ _ ?_;refine w_y q3 ?_;refine qg (qk (qe (w_x Expr.rlen ?_)));refine qg (qe ?_);rcases qj h with⟨hb23,h⟩|⟨hb23,h⟩
   ·refine xt hb23 (qh (fun e s=>C78_0 σ s i2∧eP e 2 i2∧eI e 3 (7:Int)∧Pre σ s) ?_ ?_)
    ·have q4:=X2.same 85 [(.v (.int .i64 (0:Int))),(.v (.string (⟨#[]⟩:ByteArray))),(.v (.int .i64 (0:Int))),(.v (.int .i64 (0:Int)))];refine w_x (cj4 E2 X2.get q4.get TT) ?_;exact qf ⟨q4,E2,(xv (cj4 E2 X2.get q4.get TT)),(hP.set X2.le (some (AObj.box 85 [(.v (.int .i64 (0:Int))),(.v (.string (⟨#[]⟩:ByteArray))),(.v (.int .i64 (0:Int))),(.v (.int .i64 (0:Int)))])))⟩
    rintro e s ⟨X2,E2,E3,hP⟩
    refine qo (ze (ze ?_));obtain rfl:=qc h;exact qq (fun _=>rfl) (xr (rs:= #[.cell 2 85,.tmp 3]) (cj4 X2.get E2 E3 TT)) hP (.refl _) (.tu (CnL.cons (.ag (CnL.cons (.v _) (CnL.cons (.v _) (CnL.cons (.v _) (CnL.cons (.v _) CnL.nil))))) (CnL.cons (.v _) CnL.nil))) hK
   ·refine xf hb23 (qm (qg ?_));obtain⟨y24,h25,h⟩:=qb h;refine qh (fun e s=>Bx σ s i2 85 [(.v (.int .i64 (2:Int))),(.v (.string y24)),(.v (.int .i64 y21.1)),(.v (.int .i64 (0:Int)))]∧eP e 2 i2∧eI e 3 (0:Int)∧Pre σ s) ?_ ?_
    ·have q5:=X2.same 85 [(.v (.int .i64 (2:Int))),(.v (.string y24)),(.v (.int .i64 y21.1)),(.v (.int .i64 (0:Int)))];have q6:=cj7 E0 E2 X2.get (qH h25).1 (qH h25).2 q5.get TT;refine w_x q6 ?_;exact qf ⟨q5,E2,(xv q6),(hP.set X2.le (some (AObj.box 85 [(.v (.int .i64 (2:Int))),(.v (.string y24)),(.v (.int .i64 y21.1)),(.v (.int .i64 (0:Int)))])))⟩
    rintro e s ⟨X2,E2,E3,hP⟩
    refine qo (ze ?_);obtain rfl:=qc h;exact qq (fun _=>rfl) (xr (rs:= #[.cell 2 85,.tmp 3]) (cj4 X2.get E2 E3 TT)) hP (.refl _) (.tu (CnL.cons (.ag (CnL.cons (.v _) (CnL.cons (.v _) (CnL.cons (.v _) (CnL.cons (.v _) CnL.nil))))) (CnL.cons (.v _) CnL.nil))) hK
  ·refine xf hb16 (qm (qg (qk (qe ?_))));obtain⟨y26,h27,h⟩:=qb h;refine w_x TT ?_;refine S5 _ h27 _ _ ?_;refine w_y TT ?_;refine qg ?_;obtain⟨x28,h29,h⟩:=qb h;refine qh (fun e s=>∃v30:qd,.inr v30=x28∧Bx σ s i2 85 (qd.cl v30)∧eP e 2 i2∧Pre σ s) ?_ ?_
   ·refine qn (qX h29 (fun v e s=>∃v31 v32,(v31,v32)=v∧Bx σ s i2 85 (qd.cl v32)∧eT e 0 a0∧eP e 2 i2∧eS e 39 C_s y26∧eL e 40 y26∧eI e 41 v31∧Pre σ s) ⟨_,WkE.refl _,_,_,rfl,X2,E0,E2,(xv TT),(xv TT),(xv TT),hP⟩ ?_)
    rintro v x33 e s hf34 ⟨v31,v32,rfl,X2,E0,E2,E39,E40,E41,hP⟩
    unfold ZR at hf34;(try dsimp only at hf34);refine qe (w_x (cj3 E40 E41 TT) ?_);refine qg (qe ?_);rcases qj hf34 with⟨hb35,hf34⟩|⟨hb35,hf34⟩
    ·refine xt hb35 (qm (qg ?_));obtain⟨x36,h37,hf34⟩:=qb hf34;refine qh (fun e s=>∃v38:qd,.inr v38=x36∧Bx σ s i2 85 (qd.cl v38)∧eT e 0 a0∧eP e 2 i2∧eS e 39 C_s y26∧eL e 40 y26∧eI e 41 v31∧Pre σ s) ?_ ?_
     ·refine qn (qe ?_);obtain⟨y39,h40,h37⟩:=qb h37;have R41:(List.map C_s y26)[(v31).toNat]? =some [(.v (.string y39))]:=zw (qp h40).2;refine w_x (cj5 E39 E41 R41 (qp h40).1 TT) ?_;refine qg (qe ?_);obtain⟨y42,h43,h37⟩:=qb h37;refine w_x (cj2 E0 TT) ?_;refine S6 _ _ _ h43 _ _ ?_;refine w_y (cj2 E0 TT) ?_;refine qg ?_;rcases qj h37 with⟨hb44,h37⟩|⟨hb44,h37⟩
      ·refine xt hb44 (qh (fun e s=>Bx σ s i2 85 [(.v (.int .i64 (3:Int))),(.v (.string y39)),(.v (.int .i64 (0:Int))),(.v (.int .i64 (0:Int)))]∧eP e 2 i2∧eI e 3 (0:Int)∧Pre σ s) ?_ ?_)
       ·have q7:=X2.same 85 [(.v (.int .i64 (3:Int))),(.v (.string y39)),(.v (.int .i64 (0:Int))),(.v (.int .i64 (0:Int)))];refine w_x (cj4 E2 X2.get q7.get TT) ?_;exact qf ⟨q7,E2,(xv (cj4 E2 X2.get q7.get TT)),(hP.set X2.le (some (AObj.box 85 [(.v (.int .i64 (3:Int))),(.v (.string y39)),(.v (.int .i64 (0:Int))),(.v (.int .i64 (0:Int)))])))⟩
       rintro e s ⟨X2,E2,E3,hP⟩
       refine qo (qx ?_);obtain rfl:=qc h37;refine qO ?_;(try dsimp only at hf34);obtain rfl:=qc hf34;refine Zz rfl fun hr45=> ?_;obtain rfl:=hr45;refine qx (qO ?_);(try dsimp only at h);obtain rfl:=qc h;exact qq (fun _=>rfl) (xr (rs:= #[.cell 2 85,.tmp 3]) (cj4 X2.get E2 E3 TT)) hP (.refl _) (.tu (CnL.cons (.ag (CnL.cons (.v _) (CnL.cons (.v _) (CnL.cons (.v _) (CnL.cons (.v _) CnL.nil))))) (CnL.cons (.v _) CnL.nil))) hK
      ·refine xf hb44 (qm (zc ?_));obtain rfl:=qc h37;exact qf ⟨_,rfl,X2,E0,E2,E39,E40,E41,hP⟩
     rintro e s ⟨v38,rfl,X2,E0,E2,E39,E40,E41,hP⟩
     (try dsimp only at hf34);refine w_x (cj2 E41 TT) ?_;obtain rfl:=qc hf34;exact zK rfl ⟨_,_,rfl,X2,E0,E2,E39,E40,(xv (cj2 E41 TT)),hP⟩
    ·refine xf hb35 (qz (qT ?_));obtain rfl:=qc hf34;refine zo rfl fun hr46=> ?_;obtain rfl:=hr46;exact qG (qf ⟨_,rfl,X2,E2,hP⟩)
   rintro e s ⟨v30,rfl,X2,E2,hP⟩
   (try dsimp only at h);refine qh (fun e s=>C78_0 σ s i2∧eP e 2 i2∧eI e 3 (1:Int)∧Pre σ s) ?_ ?_
   ·have q8:=X2.same 85 [(.v (.int .i64 (0:Int))),(.v (.string (⟨#[]⟩:ByteArray))),(.v (.int .i64 (0:Int))),(.v (.int .i64 (0:Int)))];refine w_x (cj4 E2 X2.get q8.get TT) ?_;exact qf ⟨q8,E2,(xv (cj4 E2 X2.get q8.get TT)),(hP.set X2.le (some (AObj.box 85 [(.v (.int .i64 (0:Int))),(.v (.string (⟨#[]⟩:ByteArray))),(.v (.int .i64 (0:Int))),(.v (.int .i64 (0:Int)))])))⟩
   rintro e s ⟨X2,E2,E3,hP⟩
   refine qo ?_;obtain rfl:=qc h;exact qq (fun _=>rfl) (xr (rs:= #[.cell 2 85,.tmp 3]) (cj4 X2.get E2 E3 TT)) hP (.refl _) (.tu (CnL.cons (.ag (CnL.cons (.v _) (CnL.cons (.v _) (CnL.cons (.v _) (CnL.cons (.v _) CnL.nil))))) (CnL.cons (.v _) CnL.nil))) hK
noncomputable def Qe (a0:ByteArray):Int→Option (Int⊕(Int⊕Int))
 | v4 =>
  if(decide (v4<((ByteArray.size a0:Nat):Int)))then
   ((Zo a0 v4).bind fun y11=>
   ((((if(decide (y11=(35:Int)))then
    some (.inr (.inr ()))
   else
    (if(decide (y11=(32:Int)))then
     some (decide (y11=(32:Int)))
    else
     (if(decide (y11=(9:Int)))then
      some (decide (y11=(9:Int)))
     else
      some (decide (y11=(10:Int))):Option Bool).bind fun v32=>
     some v32:Option Bool).bind fun v28=>
    if v28 then
     some (.inl v4)
    else
     some (.inr (.inl v4)):Option (Int⊕Int⊕Unit)).bind fun x=>match x with
   | .inl r=>some (.inr (.inr r))
   | .inr (.inl r)=>some (.inl r)
   | .inr (.inr _) =>
    (Zn a0 v4 ((ByteArray.size a0:Nat):Int)).bind fun y35=>
    none:Option (Int⊕Int⊕Int)).bind fun x=>match x with
   | .inl r=>some (.inr (.inr r))
   | .inr (.inl r)=>some (.inr (.inl r))
   | .inr (.inr v22) =>
    some (.inl (IntKind.i64.wrap (v22+(1:Int)))):Option (Int⊕Int⊕Int)).bind fun x=>match x with
   | .inl r=>some (.inr r)
   | .inr (.inl r)=>some (.inl r)
   | .inr (.inr v19) =>
    some (.inl v19):Option (Int⊕Int)).bind fun x=>match x with
   | .inl r=>some (.inl r)
   | .inr v16 =>
    some (.inr v16):Option (Int⊕Int)).bind fun x=>match x with
   | .inl r=>some (.inr (.inl r))
   | .inr v10 =>
    some (.inl v10)
  else
   some (.inr (.inr v4))
noncomputable def B_lex_blank (a0:ByteArray):Option Int:=
 (qA (Qe a0) (0:Int):Option (Int⊕Int)).bind fun x=>match x with
 | .inl r=>some r
 | .inr v3 =>
  some v3
theorem W_lex_blank:Sat_lex_blank (B_lex_blank):=by
 intro a0 r h σ K hK;refine zB Try.func77 rfl rfl (by kernel_rfl) ?_;unfold B_lex_blank at h;have hP:=Pre.refl σ;have E0:qu [(.v (.string a0))] 0=(.v (.string a0)):=rfl;have TT:=cj4 Expr.rlen T_3 T_5 T_9;refine qe (w_x Expr.rlen ?_);refine qg (qe (w_x Expr.rlen ?_));refine qg ?_;obtain⟨x1,h2,h⟩:=qb h;refine qh (fun e s=>∃v3:Int,.inr v3=x1∧eI e 3 v3∧Pre σ s) ?_ ?_
 ·refine qn (qX h2 (fun v e s=>∃v4,v4=v∧eT e 0 a0∧eI e 3 v4∧Pre σ s) ⟨_,WkE.refl _,_,rfl,E0,(xv TT),hP⟩ ?_)
  rintro v x5 e s hf6 ⟨v4,rfl,E0,E3,hP⟩
  unfold Qe at hf6;(try dsimp only at hf6);refine qk (qe (w_x (cj3 E0 E3 TT) ?_));refine qg (qe ?_);rcases qj hf6 with⟨hb7,hf6⟩|⟨hb7,hf6⟩
  ·refine xt hb7 (qm (qg ?_));obtain⟨x8,h9,hf6⟩:=qb hf6;refine QE (fun e s=>∃v10:Int,.inr v10=x8∧eT e 0 a0∧eI e 3 v10∧Pre σ s) ?_ ?_
   ·refine qn (qe ?_);obtain⟨y11,h12,h9⟩:=qb h9;obtain⟨k13a,k13b,k13c,k13d⟩:=JT h12;refine w_x (cj6 E0 E3 k13a k13c k13d TT) ?_;refine qg ?_;obtain⟨x14,h15,h9⟩:=qb h9;refine QE (fun e s=>∃v16:Int,.inr v16=x14∧eT e 0 a0∧eI e 3 v16∧Pre σ s) ?_ ?_
    ·refine qn ?_;obtain⟨x17,h18,h15⟩:=qb h15;refine qh (fun e s=>∃v19:Int,.inr (.inr v19)=x17∧eI e 3 v19∧Pre σ s) ?_ ?_
     ·refine qn ?_;obtain⟨x20,h21,h18⟩:=qb h18;refine qh (fun e s=>∃v22:Int,.inr (.inr v22)=x20∧eT e 0 a0∧eI e 3 v22∧Pre σ s) ?_ ?_
      ·refine qn ?_;obtain⟨x23,h24,h21⟩:=qb h21;refine qh (fun e s=>.inr (.inr ())=x23∧eT e 0 a0∧eI e 3 v4∧Pre σ s) ?_ ?_
       ·refine qn (qk (qk (qe (w_x TT ?_))));refine qg (qe ?_);rcases qj h24 with⟨hb25,h24⟩|⟨hb25,h24⟩
        ·refine xt hb25 (qz (qT (qG ?_)));obtain rfl:=qc h24;exact qf ⟨rfl,E0,E3,hP⟩
        ·refine xf hb25 (qm (qg (qk (qk (qe (w_x TT ?_))))));refine qg ?_;obtain⟨x26,h27,h24⟩:=qb h24;refine qh (fun e s=>∃v28,v28=x26∧eT e 0 a0∧eI e 3 v4∧eB e 14 v28∧Pre σ s) ?_ ?_
         ·rcases qj h27 with⟨hb29,h27⟩|⟨hb29,h27⟩
          ·refine xt hb29 (qm ?_);obtain rfl:=qc h27;exact qf ⟨_,rfl,E0,E3,(xv TT),hP⟩
          ·refine xf hb29 (qe (w_x TT ?_));refine qg ?_;obtain⟨x30,h31,h27⟩:=qb h27;refine QE (fun e s=>∃v32,v32=x30∧eT e 0 a0∧eI e 3 v4∧eB e 14 v32∧Pre σ s) ?_ ?_
           ·rcases qj h31 with⟨hb33,h31⟩|⟨hb33,h31⟩
            ·refine xt hb33 (qm ?_);obtain rfl:=qc h31;exact zr ⟨_,rfl,E0,E3,(xv TT),hP⟩
            ·refine xf hb33 (w_x TT ?_);obtain rfl:=qc h31;exact zr ⟨_,rfl,E0,E3,(xv TT),hP⟩
           rintro e s ⟨v32,rfl,E0,E3,E14,hP⟩
           (try dsimp only at h27);obtain rfl:=qc h27;exact qf ⟨_,rfl,E0,E3,E14,hP⟩
         rintro e s ⟨v28,rfl,E0,E3,E14,hP⟩
         (try dsimp only at h24);refine qe ?_;rcases qj h24 with⟨hb34,h24⟩|⟨hb34,h24⟩
         ·refine xt (cj2 E14 hb34) (qz (qT (ZY (by decide) ?_)));obtain rfl:=qc h24;refine cw_x ?_;(try dsimp only at h21);refine qG ?_;obtain rfl:=qc h21;exact qf ⟨_,rfl,E0,E3,hP⟩
         ·refine xf (cj2 E14 hb34) (qm (qg (qz (ZY (by decide) ?_))));obtain rfl:=qc h24;refine cw_x ?_;(try dsimp only at h21);refine ZY (by decide) ?_;obtain rfl:=qc h21;refine cw_x ?_;(try dsimp only at h18);refine qG ?_;obtain rfl:=qc h18;exact qf ⟨_,rfl,E3,hP⟩
       rintro e s ⟨rfl,E0,E3,hP⟩
       (try dsimp only at h21);obtain⟨y35,h36,h21⟩:=qb h21;cases h21
      rintro e s ⟨v22,rfl,E0,E3,hP⟩
      (try dsimp only at h18);refine qe (w_x (cj2 E3 TT) ?_);refine qg (qz (ZY (by decide) ?_));obtain rfl:=qc h18;refine cw_x ?_;(try dsimp only at h15);refine qG ?_;obtain rfl:=qc h15;exact zr ⟨_,rfl,E0,(xv TT),hP⟩
     rintro e s ⟨v19,rfl,E3,hP⟩
     (try dsimp only at h15);refine qe (qe (w_x (cj2 E3 TT) ?_));refine qg (qo (ze (qx ?_)));obtain rfl:=qc h15;refine ct_r ?_;(try dsimp only at h9);refine qx ?_;obtain rfl:=qc h9;refine ct_r ?_;(try dsimp only at hf6);obtain rfl:=qc hf6;refine Zz rfl fun hr37=> ?_;obtain rfl:=hr37;refine qx (qO ?_);(try dsimp only at h);obtain rfl:=qc h;exact qq (fun _=>rfl) (xr (rs:= #[.tmp 2]) TT) hP (.refl _) (.v _) hK
    rintro e s ⟨v16,rfl,E0,E3,hP⟩
    (try dsimp only at h9);refine zc ?_;obtain rfl:=qc h9;exact zr ⟨_,rfl,E0,E3,hP⟩
   rintro e s ⟨v10,rfl,E0,E3,hP⟩
   (try dsimp only at hf6);obtain rfl:=qc hf6;exact zK rfl ⟨_,rfl,E0,E3,hP⟩
  ·refine xf hb7 (qz (qT ?_));obtain rfl:=qc hf6;refine zo rfl fun hr38=> ?_;obtain rfl:=hr38;exact qG (qf ⟨_,rfl,E3,hP⟩)
 rintro e s ⟨v3,rfl,E3,hP⟩
 (try dsimp only at h);refine qe (w_x (cj2 E3 TT) ?_);refine qg (qo ?_);obtain rfl:=qc h;exact qq (fun _=>rfl) (xr (rs:= #[.tmp 2]) TT) hP (.refl _) (.v _) hK
noncomputable def Za (a0:ByteArray)(f0:ByteArray→Option Int)(f1:ByteArray→Option (qd×Int)):((List qd)×Int)→Option (((List qd)×Int)⊕(((List qd)×Int×Int)⊕(List qd)))
 | (v7, v8) =>
  if(decide (v8<((ByteArray.size a0:Nat):Int)))then
   ((Zn a0 v8 ((ByteArray.size a0:Nat):Int)).bind fun y16=>
   (f1 y16).bind fun y18=>
   if(!decide (y18.2=(0:Int)))then
    some (.inl ([],v8,y18.2))
   else
    (Ql 40 v7 ([(qd.mk y18.1.kind y18.1.text y18.1.n v8)])).bind fun y22=>
    some (.inr (y22,(IntKind.i64.wrap (v8+((ByteArray.size y18.1.text:Nat):Int))))):Option (((List qd)×Int×Int)⊕((List qd)×Int))).bind fun x=>match x with
   | .inl r=>some (.inr (.inl r))
   | .inr (v14, v15) =>
    (Zn a0 v15 ((ByteArray.size a0:Nat):Int)).bind fun y36=>
    (f0 y36).bind fun y38=>
    some (.inl (v14,(IntKind.i64.wrap (v15+y38))))
  else
   some (.inr (.inr v7))
noncomputable def B_lex_Lex (f0:ByteArray→Option Int)(f1:ByteArray→Option (qd×Int))(a0:ByteArray):Option ((List qd)×Int×Int):=
 if(decide ((4000:Int)<((ByteArray.size a0:Nat):Int)))then
  some ([],(0:Int),(8:Int))
 else
  (f0 a0).bind fun y2=>
  (qA (Za a0 f0 f1) ([],y2):Option (((List qd)×Int×Int)⊕(List qd))).bind fun x=>match x with
  | .inl r=>some r
  | .inr v6 =>
   some (v6,(0:Int),(0:Int))
abbrev C34_0 (z0 z1:Store)(z2:PV)(z3:(List qd)):Prop:=Acc z0 z1 z2 85 4 (List.map qd.cl z3)
theorem W_lex_Lex (f0 f1)(S0:Sat_lex_blank f0)(S1:Sat_lex_next f1):Sat_lex_Lex (B_lex_Lex f0 f1):=by
 intro a0 r h σ K hK;refine zB Try.func34 rfl rfl (by kernel_rfl) ?_;unfold B_lex_Lex at h;have hP:=Pre.refl σ;have E0:qu [(.v (.string a0))] 0=(.v (.string a0)):=rfl;have TT:=cj8 Expr.rlen T_2 T_3 T_30 T_81 T_85 T_9 qd.cle;refine qe (w_x Expr.rlen ?_);refine qg (qk (qe (w_x (cj2 E0 TT) ?_)));refine qg (qe ?_);rcases qj h with⟨hb1,h⟩|⟨hb1,h⟩
 ·refine xt hb1 (qe (w_x Expr.rlen ?_));refine qg (qo (ze ?_));obtain rfl:=qc h;exact qq (fun _=>rfl) (xr (rs:= #[.tmp 2,.tmp 3,.tmp 4]) TT) hP (Wk.tul (.cons .nil (.cons (.refl _) (.cons (.refl _) .nil)))) (.tu (CnL.cons Cn.sl0 (CnL.cons (.v _) (CnL.cons (.v _) CnL.nil)))) hK
 ·refine xf hb1 (qm (qg (qe (w_x Expr.rlen ?_))));refine qg (qk (qe ?_));obtain⟨y2,h3,h⟩:=qb h;refine w_x (cj2 E0 TT) ?_;refine S0 _ _ h3 _ _ ?_;refine w_y (cj2 E0 TT) ?_;refine qg ?_;obtain⟨x4,h5,h⟩:=qb h;refine qh (fun e s=>∃v6:(List qd),∃p5:PV,.inr v6=x4∧e 5=p5∧C34_0 σ s p5 v6∧Pre σ s) ?_ ?_
  ·refine qn (qX h5 (fun v e s=>∃v7 v8,∃p5:PV,(v7,v8)=v∧eT e 0 a0∧e 5=p5∧C34_0 σ s p5 v7∧eI e 6 v8∧Pre σ s) ⟨_,WkE.refl _,_,_,(.v (.slice none 0 0)),rfl,E0,(xv TT),(Acc.nil _ _ _ _),(xv TT),hP⟩ ?_)
   rintro v x9 e s hf10 ⟨v7,v8,p5,rfl,E0,E5,A5,E6,hP⟩
   unfold Za at hf10;(try dsimp only at hf10);refine qk (qe (w_x (cj4 E0 E6 A5.rowsOf TT) ?_));refine qg (qe ?_);rcases qj hf10 with⟨hb11,hf10⟩|⟨hb11,hf10⟩
   ·refine xt hb11 (qm (qg ?_));obtain⟨x12,h13,hf10⟩:=qb hf10;refine qh (fun e s=>∃v14:(List qd),∃v15:Int,∃p5:PV,.inr (v14,v15)=x12∧eT e 0 a0∧e 5=p5∧C34_0 σ s p5 v14∧eI e 6 v15∧Pre σ s) ?_ ?_
    ·refine qn ?_;obtain⟨y16,h17,h13⟩:=qb h13;obtain⟨y18,h19,h13⟩:=qb h13;refine qh (fun e s=>∃i7:Nat,∃p5:PV,Bx σ s i7 85 (qd.cl y18.1)∧eT e 0 a0∧e 5=p5∧C34_0 σ s p5 v7∧eI e 6 v8∧eP e 7 i7∧eI e 8 y18.2∧Pre σ s) ?_ ?_
     ·have q1:=cj6 E0 E6 A5.rowsOf (qH h17).1 (qH h17).2 TT;refine w_x q1 ?_;refine S1 _ _ h19 _ _ ?_;refine w_y q1 ?_;exact qf ⟨s.length,p5,(Bx.new hP _ _),E0,(xv (cj7 E5 E0 E6 A5.rowsOf (qH h17).1 (qH h17).2 TT)),(A5.app [some (AObj.box 85 (qd.cl y18.1))]),E6,(xv q1),(xv q1),(hP.app _)⟩
     rintro e s ⟨i7,p5,X7,E0,E5,A5,E6,E7,E8,hP⟩
     refine qk (qe (w_x (cj3 E8 A5.rowsOf TT) ?_));refine qg (qe ?_);rcases qj h13 with⟨hb20,h13⟩|⟨hb20,h13⟩
     ·refine xt hb20 (qe (w_x (cj4 E6 E8 A5.rowsOf TT) ?_));refine qg (qo (ze (qx ?_)));obtain rfl:=qc h13;refine qO ?_;(try dsimp only at hf10);obtain rfl:=qc hf10;refine Zz rfl fun hr21=> ?_;obtain rfl:=hr21;refine qx (qO ?_);(try dsimp only at h);obtain rfl:=qc h;exact qq (fun _=>rfl) (xr (rs:= #[.tmp 2,.tmp 3,.tmp 4]) TT) hP (Wk.tul (.cons .nil (.cons (.refl _) (.cons (.refl _) .nil)))) (.tu (CnL.cons Cn.sl0 (CnL.cons (.v _) (CnL.cons (.v _) CnL.nil)))) hK
     ·refine xf hb20 (qm (qg (qh (fun e s=>∃p5:PV,Bx σ s i7 85 [(.v (.int .i64 y18.1.kind)),(.v (.string y18.1.text)),(.v (.int .i64 y18.1.n)),(.v (.int .i64 v8))]∧eT e 0 a0∧e 5=p5∧C34_0 σ s p5 v7∧eI e 6 v8∧eP e 7 i7∧Pre σ s) ?_ ?_)))
      ·have q2:=X7.same 85 [(.v (.int .i64 y18.1.kind)),(.v (.string y18.1.text)),(.v (.int .i64 y18.1.n)),(.v (.int .i64 v8))];refine w_x (cj6 E6 E7 X7.get A5.rowsOf q2.get TT) ?_;exact qf ⟨p5,q2,E0,(xv (cj7 E5 E6 E7 X7.get A5.rowsOf q2.get TT)),(A5.setg X7.gx (by intro a b c h;cases h) (some (AObj.box 85 [(.v (.int .i64 y18.1.kind)),(.v (.string y18.1.text)),(.v (.int .i64 y18.1.n)),(.v (.int .i64 v8))]))),E6,E7,(hP.set X7.le (some (AObj.box 85 [(.v (.int .i64 y18.1.kind)),(.v (.string y18.1.text)),(.v (.int .i64 y18.1.n)),(.v (.int .i64 v8))])))⟩
      rintro e s ⟨p5,X7,E0,E5,A5,E6,E7,hP⟩
      obtain⟨y22,h23,h13⟩:=qb h13;refine qh (fun e s=>∃p5:PV,Bx σ s i7 85 [(.v (.int .i64 y18.1.kind)),(.v (.string y18.1.text)),(.v (.int .i64 y18.1.n)),(.v (.int .i64 v8))]∧eT e 0 a0∧e 5=p5∧C34_0 σ s p5 y22∧eI e 6 v8∧eP e 7 i7∧Pre σ s) ?_ ?_
      ·obtain⟨p27,s28,ha32,A290,hP33,K30,Q31,U34,V35⟩:=Acc.push (ns:=[[(.v (.int .i64 y18.1.kind)),(.v (.string y18.1.text)),(.v (.int .i64 y18.1.n)),(.v (.int .i64 v8))]]) (rows:=(List.map qd.cl v7)) T_81 T_85 A5 hP (ZI (f:=qd.cl) (n:=4) (fun _=>rfl) _) (by simp) (by simp) (by decide) (by simpa [Expr.rlen] using (zG h23).1);have ha32:=ha32 (.sl [[(.v (.int .i64 y18.1.kind)),(.v (.string y18.1.text)),(.v (.int .i64 y18.1.n)),(.v (.int .i64 v8))]]) rfl;have A29:Acc σ s28 p27 85 4 (List.map qd.cl y22):=by rw[←(zG h23).2];rw[List.map_append];exact A290
       have q3:=cj7 E5 E7 X7.get A5.rowsOf ha32 (X7.keep A5 K30).get TT;refine w_x q3 ?_;exact qf ⟨p27,(X7.keep A5 K30),E0,(xv q3),A29,E6,E7,hP33⟩
      rintro e s ⟨p5,X7,E0,E5,A5,E6,E7,hP⟩
      have q4:=cj5 E6 E7 X7.get A5.rowsOf TT;refine w_x q4 ?_;refine zc ?_;obtain rfl:=qc h13;exact qf ⟨_,_,p5,rfl,E0,(xv (cj6 E5 E6 E7 X7.get A5.rowsOf TT)),A5,(xv q4),hP⟩
    rintro e s ⟨v14,v15,p5,rfl,E0,E5,A5,E6,hP⟩
    (try dsimp only at hf10);obtain⟨y36,h37,hf10⟩:=qb hf10;obtain⟨y38,h39,hf10⟩:=qb hf10;have q5:=cj6 E0 E6 A5.rowsOf (qH h37).1 (qH h37).2 TT;refine w_x q5 ?_;refine S0 _ _ h39 _ _ ?_;refine w_y q5 ?_;obtain rfl:=qc hf10;exact zK rfl ⟨_,_,p5,rfl,E0,(xv (cj7 E5 E0 E6 A5.rowsOf (qH h37).1 (qH h37).2 TT)),A5,(xv q5),hP⟩
   ·refine xf hb11 (qz (qT ?_));obtain rfl:=qc hf10;refine zo rfl fun hr40=> ?_;obtain rfl:=hr40;exact qG (qf ⟨_,p5,rfl,(xv (cj2 E5 TT)),A5,hP⟩)
  rintro e s ⟨v6,p5,rfl,E5,A5,hP⟩
  (try dsimp only at h);refine qe (w_x (cj3 E5 A5.rowsOf TT) ?_);refine qg (qo ?_);obtain rfl:=qc h;exact qq (fun _=>rfl) (xr (rs:= #[.tmp 2,.tmp 3,.tmp 4]) TT) hP (Wk.tul (.cons A5.wk (.cons (.refl _) (.cons (.refl _) .nil)))) (.tu (CnL.cons (Cn.rows qd.cn _) (CnL.cons (.v _) (CnL.cons (.v _) CnL.nil)))) hK
end Go.Proofs.Ytohmmfimedgccaa.E
end
section
namespace Go.Proofs.Ytohmmfimedgccaa.E
set_option linter.unusedVariables false
set_option linter.unusedSimpArgs false
def bs (l:List UInt8):ByteArray:=⟨l.toArray⟩
theorem zE (l:List UInt8):(bs l).size=l.length:=by show l.toArray.size=_;simp
theorem bs_list (l:List UInt8):(bs l).data.toList=l:=by simp[bs]
theorem YE {a b:List UInt8}:bs a=bs b↔a=b:=by
 constructor
 ·intro h;have:=congrArg (fun x=>x.data.toList) h;simpa [bs] using this
 ·rintro rfl;rfl
theorem JX (l:List UInt8)(i j:Nat)(h:i≤j)(hj:j≤l.length):Zn (bs l) (i:Int) (j:Int)=some (bs ((l.take j).drop i)):=by
 unfold Zn;rw[if_pos ⟨by omega,by omega,by rw[zE];omega⟩];congr 1;apply ByteArray.ext;apply Array.ext';rw[ByteArray.data_extract,bs_list,Array.toList_extract];simp[bs,List.extract_eq_take_drop,List.drop_take]
theorem qt (a b:List UInt8)(h:a.length+b.length≤9223372036854775807):qw (bs a) (bs b)=some (bs (a++b)):=by
 unfold qw;rw[if_pos (by rw[zE,zE];exact h)];refine congrArg some (ByteArray.ext ?_);simp[bs]
theorem YX (a:List UInt8)(c:UInt8)(r:List UInt8):Zo (bs (a++c::r)) (a.length:Int)=some (c.toNat:Int):=by
 unfold Zo;rw[if_pos (by omega),bs_list];simp
theorem bs_get0 (c:UInt8)(r:List UInt8):Zo (bs (c::r)) 0=some (c.toNat:Int):=YX [] c r
noncomputable def m_in:=B_lex_in
noncomputable def m_nc1:=B_lex_next_c1 m_in
noncomputable def qqi:=B_lex_digit
noncomputable def qqR:=B_lex_while
noncomputable def JP:=B_lex_number
noncomputable def m_signs:=B_lex_signs
noncomputable def m_hasP0:=B_stringslite_HasPrefix
noncomputable def qqA:=B_strings_HasPrefix m_hasP0
noncomputable def Zk:=B_lex_next m_in qqR m_nc1 qqi JP m_signs qqA
noncomputable def JA:=B_lex_blank
noncomputable def m_Lex:=B_lex_Lex JA Zk
theorem s_in:Sat_lex_in m_in:=W_lex_in
theorem s_nc1:Sat_lex_next_c1 m_nc1:=W_lex_next_c1 _ s_in
theorem s_dig:Sat_lex_digit qqi:=W_lex_digit
theorem s_while:Sat_lex_while qqR:=W_lex_while
theorem s_lnum:Sat_lex_number JP:=W_lex_number
theorem s_signs:Sat_lex_signs m_signs:=W_lex_signs
theorem s_hasP0:Sat_stringslite_HasPrefix m_hasP0:=W_stringslite_HasPrefix
theorem s_hasP:Sat_strings_HasPrefix qqA:=W_strings_HasPrefix _ s_hasP0
theorem s_next:Sat_lex_next Zk:=W_lex_next _ _ _ _ _ _ _ s_in s_while s_nc1 s_dig s_lnum s_signs s_hasP
theorem s_blank:Sat_lex_blank JA:=W_lex_blank
theorem s_Lex:Sat_lex_Lex m_Lex:=W_lex_Lex _ _ s_blank s_next
def zM (c:Int):Bool:=(decide (48≤c)&&decide (c≤57))||decide (c=95)||(decide (97≤c)&&decide (c≤122))
theorem t_in0 (c:Int):m_in c false=some (zM c):=by
 unfold m_in B_lex_in zM;by_cases h1:48≤c<;>by_cases h2:c≤57<;>by_cases h3:c=95<;>by_cases h4:97≤c<;>by_cases h5:c≤122<;>simp[h1,h2,h3,h4,h5]<;>(first|omega|(subst h3;simp at*))
theorem t_in1 {c:Int}(h:97≤c∧c≤122):m_in c true=some true:=by
 unfold m_in B_lex_in;have h1:¬c≤57:=by omega
 have h2:¬c=95:=by omega
 simp[h1,h2,h.1,h.2]
theorem t_in1' {c:Int}(h:¬(97≤c∧c≤122)):m_in c true=some false:=by
 unfold m_in B_lex_in;by_cases h1:48≤c<;>by_cases h2:c≤57<;>by_cases h3:c=95<;>by_cases h4:97≤c<;>by_cases h5:c≤122<;>simp[h1,h2,h3,h4,h5]<;>(first|omega|(subst h3;simp at*)|(exact absurd ⟨h4,h5⟩ h))
theorem t_nc1 (c:Int):m_nc1 c=some (zM c):=by
 unfold m_nc1 B_lex_next_c1;rw[t_in0];rfl
theorem t_while (p:Int→Bool)(f:Int→Option Bool)(hf:∀c,f c=some (p c))(w r:List UInt8)(hw:∀b∈w,p (b.toNat:Int)=true)(hr:∀c,r.head? =some c→p (c.toNat:Int)=false)(hl:w.length+r.length≤140737488351232):
  qqR (bs (w++r)) f=some (w.length:Int):=by
 unfold qqR B_lex_while;have hsz:(bs (w++r)).size=w.length+r.length:=by rw[zE,List.length_append]
 obtain⟨v,h1,h2⟩:=zn (f:=Zv (bs (w++r)) f) (fun i v=>v=(i:Int)) w.length (fun v=>v=(w.length:Int)) (fun i v hi hv=>by
  subst hv;left;refine⟨_,?_,rfl⟩;unfold Zv;dsimp only;rw[hsz,dlt (by omega:i<w.length+r.length)];have hsp:w++r=w.take i++w[i]::(w.drop (i+1)++r):=by
   rw[←List.cons_append,←List.append_assoc,List.getElem_cons_drop,List.take_append_drop]
  have hg:Zo (bs (w++r)) (i:Int)=some ((w[i]).toNat:Int):=by
   have:=YX (w.take i) w[i] (w.drop (i+1)++r);rw[←hsp,List.length_take,Nat.min_eq_left (by omega)]at this;exact this
  simp only[if_true,hg,Option.bind_some,hf,hw _ (List.getElem_mem hi),Bool.and_self,Zm hi (ml (by omega))]) (fun v hv=>by
  subst hv;refine⟨_,?_,rfl⟩;unfold Zv;dsimp only;rw[hsz];cases r with
  |nil=>rw[List.length_nil,Nat.add_zero,dge];simp
  | cons c r =>
   rw[dlt (by simp:w.length<w.length+(c::r).length),YX];simp[hf,hr c rfl]) (v0:=(0:Int)) rfl
 rw[h1,h2];rfl
theorem t_hasP (a s:List UInt8):qqA (bs a) (bs s)=some (s.isPrefixOf a):=by
 unfold qqA B_strings_HasPrefix m_hasP0 B_stringslite_HasPrefix;rw[zE,zE];by_cases h:s.length≤a.length
 ·have e:decide (((s.length:Nat):Int)≤((a.length:Nat):Int))=true:=decide_eq_true (by omega);have:=JX a 0 s.length (by omega) h;rw[e];simp only[if_true,Bool.true_and];rw[show((0:Nat):Int)=0 from rfl]at this;rw[this];simp only[Option.bind_some,List.drop_zero,Option.some.injEq,YE];by_cases hp:s<+:a
  ·rw[List.isPrefixOf_iff_prefix.2 hp,List.prefix_iff_eq_take.1 hp];simp
  ·have:s.isPrefixOf a=false:=by
    cases hb:s.isPrefixOf a with
    |false=>rfl
    |true=>exact absurd (List.isPrefixOf_iff_prefix.1 hb) hp
   rw[this];refine decide_eq_false fun he=>hp ?_;exact List.prefix_iff_eq_take.2 he.symm
 ·have e:decide (((s.length:Nat):Int)≤((a.length:Nat):Int))=false:=decide_eq_false (by omega);rw[e];have:s.isPrefixOf a=false:=by
   cases hb:s.isPrefixOf a with
   |false=>rfl
   |true=>exact absurd (List.isPrefixOf_iff_prefix.1 hb).length_le h
  rw[this];rfl
theorem nx_name (w r:List UInt8)(c:UInt8)(u:List UInt8)(hw:w=c::u)(hc:97≤(c.toNat:Int)∧(c.toNat:Int)≤122)(ha:∀b∈w,zM (b.toNat:Int)=true)(hr:∀c,r.head? =some c→zM (c.toNat:Int)=false)(hl:w.length+r.length≤140737488351232):
  Zk (bs (w++r))=some (⟨1,bs w,0,0⟩,0):=by
 unfold Zk B_lex_next;have hg:Zo (bs (w++r)) 0=some (c.toNat:Int):=by rw[hw,List.cons_append,bs_get0]
 rw[hg];simp only[Option.bind_some,t_in1 hc,if_true];rw[t_while zM _ (fun c=>t_nc1 c) w r ha hr hl];have:=JX (w++r) 0 w.length (by omega) (by simp);rw[show((0:Nat):Int)=0 from rfl]at this;simp only[Option.bind_some,this,List.drop_zero,List.take_left']
def YD (c:Int):Bool:=decide (48≤c)&&decide (c≤57)
theorem zv (w r:List UInt8)(j:Nat)(c:UInt8)(u:List UInt8)(hw:w=c::u)(hc:zM (c.toNat:Int)=false)(hj:qQ[j]? =some (bs w))(hno:((qQ.take j).all fun s=> !(s.data.toList.isPrefixOf (w++r)))=true):
  Zk (bs (w++r))=some (⟨3,bs w,0,0⟩,0):=by
 have hjl:=(List.getElem?_eq_some_iff.1 hj).1;have hg:Zo (bs (w++r)) 0=some (c.toNat:Int):=by rw[hw,List.cons_append,bs_get0]
 unfold zM at hc;simp only[Bool.or_eq_false_iff,Bool.and_eq_false_iff,decide_eq_false_iff_not]at hc;have hd:qqi (c.toNat:Int)=some false:=by
  unfold qqi B_lex_digit;rcases hc.1.1 with h|h
  ·rw[decide_eq_false h];rfl
  ·rw[decide_eq_false h,Bool.and_false]
 have hin:m_in (c.toNat:Int) true=some false:=t_in1' (by rcases hc.2 with h|h<;>omega);obtain⟨v,h1,h2⟩:=zn (f:=ZR qQ (bs (w++r)) qqA) (fun i v=>v=((i:Int),qd.mk 0 (bs []) 0 0)) j (fun v=>v=.inl (qd.mk 3 (bs w) 0 0,0)) (fun i v hi hv=>by
  subst hv;left;refine⟨_,?_,rfl⟩;unfold ZR;dsimp only;have hb:(qQ[i]'(by omega)).data.toList.isPrefixOf (w++r)=false:=by
   have:=List.all_eq_true.1 hno (qQ[i]'(by omega)) (by rw[←List.getElem_take (j:=j) (h:=by rw[List.length_take];omega)];exact List.getElem_mem _);simpa using this
  have hbs:qQ[i]'(by omega)=bs (qQ[i]'(by omega)).data.toList:=by simp[bs]
  simp only[dlt (by omega:i<qQ.length),if_true,zg (by omega:i<qQ.length),Option.bind_some];rw[hbs,t_hasP,hb];simp only[Option.bind_some,Bool.false_eq_true,if_false,Zm (by omega:i<qQ.length) (by unfold maxLen;decide)]) (fun v hv=>by
  subst hv;refine⟨_,?_,rfl⟩;unfold ZR;dsimp only;have hjj:qQ[j]=bs w:=by have:=List.getElem?_eq_getElem hjl;rw[hj]at this;exact(Option.some.inj this).symm
  simp only[dlt hjl,if_true,zg hjl,Option.bind_some];rw[hjj,t_hasP,List.isPrefixOf_iff_prefix.2 (List.prefix_append _ _)];simp) (v0:=((0:Int),qd.mk 0 (bs []) 0 0)) rfl
 unfold Zk B_lex_next;rw[hg];simp only[Option.bind_some,hin,Bool.false_eq_true,if_false,hd];unfold m_signs B_lex_signs;simp only[Option.bind_some];rw[show(⟨#[]⟩:ByteArray)=bs [] from rfl,h1,h2];rfl
def nbl (c:UInt8):Bool:=c != 35&&c != 32&&c != 9&&c != 10
theorem nbl_ne {c:UInt8}(h:nbl c=true):(c.toNat:Int)≠35∧(c.toNat:Int)≠32∧(c.toNat:Int)≠9∧(c.toNat:Int)≠10:=by
 unfold nbl at h;simp only[Bool.and_eq_true,bne_iff_ne,ne_eq]at h;refine⟨fun e=>h.1.1.1 ?_,fun e=>h.1.1.2 ?_,fun e=>h.1.2 ?_,fun e=>h.2 ?_⟩<;>exact UInt8.toNat_inj.1 (by have:=Int.ofNat.inj e;exact this)
theorem bl_stop {a:List UInt8}{c:UInt8}{r:List UInt8}(hc:nbl c=true)(hl:(a++c::r).length≤140737488351232):Qe (bs (a++c::r)) (a.length:Int)=some (.inr (.inl (a.length:Int))):=by
 obtain⟨h1,h2,h3,h4⟩:=nbl_ne hc;unfold Qe;dsimp only;rw[zE,dlt (by simp:a.length<(a++c::r).length),YX];simp[h1,h2,h3,h4]
def blk (c:UInt8):Bool:=c==32||c==10
theorem bl_step {a:List UInt8}{c:UInt8}{r:List UInt8}(hc:blk c=true)(hl:(a++c::r).length≤140737488351232):Qe (bs (a++c::r)) (a.length:Int)=some (.inl ((a.length+1:Nat):Int)):=by
 have hw:IntKind.i64.wrap ((a.length:Int)+1)=((a.length+1:Nat):Int):=by
  have:a.length<(a++c::r).length:=by simp
  rw[zF (by omega) (by omega)];rfl
 unfold Qe;dsimp only;rw[zE,dlt (by simp:a.length<(a++c::r).length),YX];unfold blk at hc;rw[Bool.or_eq_true,beq_iff_eq,beq_iff_eq]at hc;rcases hc with rfl|rfl<;>simp[hw]
theorem bl_all {b r:List UInt8}(hb:∀c∈b,blk c=true)(hr:∀c,r.head? =some c→nbl c=true)(hl:(b++r).length≤140737488351232):JA (bs (b++r))=some (b.length:Int):=by
 obtain⟨w,h1,h2⟩:=zn (f:=Qe (bs (b++r))) (fun i v=>v=(i:Int)) b.length (fun w=>w=.inl (b.length:Int)∨w=.inr (b.length:Int)) (fun i v hi hv=>by
  subst hv;left;have hsp:b++r=b.take i++b[i]::(b.drop (i+1)++r):=by
   rw[←List.cons_append,←List.append_assoc,List.getElem_cons_drop,List.take_append_drop]
  have:=bl_step (a:=b.take i) (c:=b[i]) (r:=b.drop (i+1)++r) (hb _ (List.getElem_mem hi)) (by rw[←hsp];exact hl);rw[←hsp,List.length_take,Nat.min_eq_left (by omega)]at this;exact⟨_,this,rfl⟩) (fun v hv=>by
  subst hv;cases r with
  |nil=>exact⟨.inr (b.length:Int),by unfold Qe;dsimp only;rw[zE,List.append_nil,dge];rfl,.inr rfl⟩
  |cons c r=>exact⟨_,bl_stop (hr c rfl) hl,.inl rfl⟩) (v0:=(0:Int)) rfl
 unfold JA B_lex_blank;rw[h1];rcases h2 with rfl|rfl<;>rfl
theorem num_tot (w:List UInt8)(hl:w.length≤140737488351232):∃r,JP (bs w)=some r:=by
 have hlen:(Qr (bs w)).length=w.length:=by simp[Qr,bs]
 obtain⟨r,h1,_⟩:=zn (f:=zZ (bs w)) (fun i v=>v.2=(i:Int)) (Qr (bs w)).length (fun _=>True) (fun i v hi hv=>by
  obtain⟨n,_⟩:=v;obtain rfl:=hv;unfold zZ;dsimp only;rw[dlt hi,zg hi];simp only[if_true,Option.bind_some];split
  ·exact .inr ⟨_,rfl,trivial⟩
  ·exact .inl ⟨_,rfl,Zm hi (ml (by omega))⟩) (fun v hv=>by
  obtain⟨n,_⟩:=v;obtain rfl:=hv;unfold zZ;dsimp only;rw[dge];exact⟨_,rfl,trivial⟩) (v0:=((0:Int),(0:Int))) rfl
 unfold JP B_lex_number;rw[h1];rcases r with r|r<;>exact⟨_,rfl⟩
noncomputable def nv (w:List UInt8):Int×Bool:=(JP (bs w)).getD (0,false)
theorem nv_eq {w:List UInt8}(hl:w.length≤140737488351232):JP (bs w)=some (nv w):=by
 obtain⟨r,h⟩:=num_tot w hl;unfold nv;rw[h];rfl
def SG:List (List UInt8):=[[42,94],[47,94],[126,62],[58,58],[61,61],[40],[41],[123],[125],[44],[59],[61],[43],[45],[42],[47],[37],[60],[63],[58]]
def SG2:List (List UInt8):=SG.take 5
inductive Tk:List UInt8→Prop
 |nm (c:UInt8) (u:List UInt8):97≤(c.toNat:Int)∧(c.toNat:Int)≤122→(∀b∈c::u,zM (b.toNat:Int)=true)→Tk (c::u)
 |nu (c:UInt8) (u:List UInt8):(∀b∈c::u,YD (b.toNat:Int)=true)→Tk (c::u)
 |sg (w:List UInt8):w∈SG→Tk w
def kd:List UInt8→Int
 |[]=>0
 |c::_=>if 97≤(c.toNat:Int)∧(c.toNat:Int)≤122 then 1 else if 48≤(c.toNat:Int)∧(c.toNat:Int)≤57 then 2 else 3
theorem Yo (c:UInt8)(u:List UInt8):kd (c::u)=if 97≤(c.toNat:Int)∧(c.toNat:Int)≤122 then 1 else if 48≤(c.toNat:Int)∧(c.toNat:Int)≤57 then 2 else 3:=rfl
noncomputable def nxt (w:List UInt8):qd×Int:=if kd w=2 then(if(nv w).2 then(⟨2,bs w,(nv w).1,0⟩,0)else(⟨0,bs [],0,0⟩,7))else(⟨kd w,bs w,0,0⟩,0)
def fol (w r:List UInt8):Prop:=∀c,r.head? =some c→blk c=true∨(kd w≠3∧zM (c.toNat:Int)=false)∨(kd w=3∧∀s∈SG2,s≠w++[c])
theorem dig_name {n:Int}(h:YD n=true):zM n=true:=by
 unfold YD at h;unfold zM;rw[h];rfl
theorem qqT {n:Int}:YD n=true↔48≤n∧n≤57:=by unfold YD;simp
theorem blk_name {c:UInt8}(h:blk c=true):zM (c.toNat:Int)=false:=by
 unfold blk at h;rw[Bool.or_eq_true,beq_iff_eq,beq_iff_eq]at h;rcases h with rfl|rfl<;>rfl
theorem sg_kd {w:List UInt8}(h:w∈SG):kd w=3∧(∀c u,w=c::u→nbl c=true)∧w≠[]∧w.length≤2:=by
 revert h w;have:(SG.all fun w=>decide (kd w=3)&&(match w with|[]=>false|c::_=>nbl c)&&decide (w.length≤2))=true:=by decide
 intro w h;have:=List.all_eq_true.1 this w h;simp only[Bool.and_eq_true,decide_eq_true_eq]at this;cases w with
 |nil=>simp at this
 |cons c u=>exact⟨this.1.1,fun c' u' e=>by cases e;exact this.1.2,by simp,this.2⟩
theorem nbl_of {c:UInt8}(h:zM (c.toNat:Int)=true):nbl c=true:=by
 unfold nbl;simp only[Bool.and_eq_true,bne_iff_ne,ne_eq];refine⟨⟨⟨?_,?_⟩,?_⟩,?_⟩<;>(rintro rfl;exact absurd h (by decide))
theorem Tk.cons {w:List UInt8}(h:Tk w):∃c u,w=c::u∧nbl c=true:=by
 cases h with
 |nm c u h1 h2=>exact⟨c,u,rfl,nbl_of (h2 c List.mem_cons_self)⟩
 |nu c u h1=>exact⟨c,u,rfl,nbl_of (dig_name (h1 c List.mem_cons_self))⟩
 | sg w h =>
  obtain⟨_,h2,h3,_⟩:=sg_kd h;cases w with
  |nil=>exact absurd rfl h3
  |cons c u=>exact⟨c,u,rfl,h2 c u rfl⟩
theorem Tk.kd {w:List UInt8}(h:Tk w):kd w=1∨kd w=2∨kd w=3:=by
 obtain⟨c,u,rfl,_⟩:=h.cons;rw[Yo];split
 ·exact .inl rfl
 ·split
  ·exact .inr (.inl rfl)
  ·exact .inr (.inr rfl)
theorem nx_num2 (c:UInt8)(u r:List UInt8)(hw:∀b∈c::u,YD (b.toNat:Int)=true)(hr:∀c,r.head? =some c→YD (c.toNat:Int)=false)(hl:(c::u).length+r.length≤140737488351232):
  Zk (bs ((c::u)++r))=some (if(nv (c::u)).2 then(⟨2,bs (c::u),(nv (c::u)).1,0⟩,0)else(⟨0,bs [],0,0⟩,7)):=by
 have hc:=qqT.1 (hw c List.mem_cons_self);unfold Zk B_lex_next;have hg:Zo (bs ((c::u)++r)) 0=some (c.toNat:Int):=by rw[List.cons_append];exact bs_get0 _ _
 have hd:qqi (c.toNat:Int)=some true:=by unfold qqi B_lex_digit;rw[decide_eq_true hc.1,decide_eq_true hc.2];rfl
 have h1:=t_while YD (fun z0=>qqi z0) (fun c=>rfl) (c::u) r hw hr hl;have h2:=JX ((c::u)++r) 0 (c::u).length (by omega) (by simp);rw[show((0:Nat):Int)=0 from rfl]at h2;rw[hg];simp only[Option.bind_some,t_in1' (c:=(c.toNat:Int)) (by omega),Bool.false_eq_true,if_false,hd,if_true];rw[h1];simp only[Option.bind_some,h2,List.drop_zero,List.take_left',nv_eq (w:=c::u) (by omega)];cases (nv (c::u)).2<;>rfl
theorem nx_sg {w r:List UInt8}(h:w∈SG)(hf:fol w r):Zk (bs (w++r))=some (⟨3,bs w,0,0⟩,0):=by
 simp only[SG,List.mem_cons,List.not_mem_nil,or_false]at h;rcases h with rfl|rfl|rfl|rfl|rfl|rfl|rfl|rfl|rfl|rfl|rfl|rfl|rfl|rfl|rfl|rfl|rfl|rfl|rfl|rfl
 ·exact zv [42,94] r 0 _ _ rfl (by decide) rfl rfl
 ·exact zv [47,94] r 1 _ _ rfl (by decide) rfl rfl
 ·exact zv [126,62] r 2 _ _ rfl (by decide) rfl rfl
 ·exact zv [58,58] r 3 _ _ rfl (by decide) rfl rfl
 ·exact zv [61,61] r 4 _ _ rfl (by decide) rfl rfl
 ·exact zv [40] r 5 _ _ rfl (by decide) rfl rfl
 ·exact zv [41] r 6 _ _ rfl (by decide) rfl rfl
 ·exact zv [123] r 7 _ _ rfl (by decide) rfl rfl
 ·exact zv [125] r 8 _ _ rfl (by decide) rfl rfl
 ·exact zv [44] r 9 _ _ rfl (by decide) rfl rfl
 ·exact zv [59] r 10 _ _ rfl (by decide) rfl rfl
 ·refine zv [61] r 11 _ _ rfl (by decide) rfl ?_;cases r with
  |nil=>rfl
  | cons c r =>
   have hc:(61==c)=false:=beq_eq_false_iff_ne.2 fun e=>by
    rcases hf c rfl with h|⟨h,_⟩|⟨_,h⟩
    ·rw[←e]at h;exact absurd h (by decide)
    ·exact h rfl
    ·exact h [61,61] (by decide) (by rw[←e];rfl)
   simp[qQ,List.isPrefixOf_cons_cons,hc]
 ·exact zv [43] r 12 _ _ rfl (by decide) rfl rfl
 ·exact zv [45] r 13 _ _ rfl (by decide) rfl rfl
 ·refine zv [42] r 14 _ _ rfl (by decide) rfl ?_;cases r with
  |nil=>rfl
  | cons c r =>
   have hc:(94==c)=false:=beq_eq_false_iff_ne.2 fun e=>by
    rcases hf c rfl with h|⟨h,_⟩|⟨_,h⟩
    ·rw[←e]at h;exact absurd h (by decide)
    ·exact h rfl
    ·exact h [42,94] (by decide) (by rw[←e];rfl)
   simp[qQ,List.isPrefixOf_cons_cons,hc]
 ·refine zv [47] r 15 _ _ rfl (by decide) rfl ?_;cases r with
  |nil=>rfl
  | cons c r =>
   have hc:(94==c)=false:=beq_eq_false_iff_ne.2 fun e=>by
    rcases hf c rfl with h|⟨h,_⟩|⟨_,h⟩
    ·rw[←e]at h;exact absurd h (by decide)
    ·exact h rfl
    ·exact h [47,94] (by decide) (by rw[←e];rfl)
   simp[qQ,List.isPrefixOf_cons_cons,hc]
 ·exact zv [37] r 16 _ _ rfl (by decide) rfl rfl
 ·exact zv [60] r 17 _ _ rfl (by decide) rfl rfl
 ·exact zv [63] r 18 _ _ rfl (by decide) rfl rfl
 ·refine zv [58] r 19 _ _ rfl (by decide) rfl ?_;cases r with
  |nil=>rfl
  | cons c r =>
   have hc:(58==c)=false:=beq_eq_false_iff_ne.2 fun e=>by
    rcases hf c rfl with h|⟨h,_⟩|⟨_,h⟩
    ·rw[←e]at h;exact absurd h (by decide)
    ·exact h rfl
    ·exact h [58,58] (by decide) (by rw[←e];rfl)
   simp[qQ,List.isPrefixOf_cons_cons,hc]
theorem nx {w r:List UInt8}(h:Tk w)(hf:fol w r)(hl:w.length+r.length≤140737488351232):Zk (bs (w++r))=some (nxt w):=by
 unfold nxt;cases h with
 | nm c u h1 h2 =>
  have hk:kd (c::u)=1:=by rw[Yo,if_pos h1]
  rw[hk,if_neg (by decide)];refine nx_name _ r c u rfl h1 h2 (fun d hd=> ?_) hl;rcases hf d hd with h|⟨_,h⟩|⟨h,_⟩
  ·exact blk_name h
  ·exact h
  ·rw[hk]at h;cases h
 | nu c u h1 =>
  have hc:=qqT.1 (h1 c List.mem_cons_self);have hk:kd (c::u)=2:=by rw[Yo,if_neg (by omega),if_pos hc]
  rw[hk,if_pos rfl];refine nx_num2 c u r h1 (fun d hd=> ?_) hl;have hn:zM (d.toNat:Int)=false:=by
   rcases hf d hd with h|⟨_,h⟩|⟨h,_⟩
   ·exact blk_name h
   ·exact h
   ·rw[hk]at h;cases h
  cases hb:YD (d.toNat:Int)with
  |false=>rfl
  |true=>rw[dig_name hb]at hn;cases hn
 | sg w h1 =>
  rw[(sg_kd h1).1,if_neg (by decide)];exact nx_sg h1 hf
abbrev Pc:=List UInt8×List UInt8
variable {tl:List UInt8}
def text (tl:List UInt8):List Pc→List UInt8
 |[]=>tl
 |(b,w)::ps=>b++(w++text tl ps)
def okp (tl:List UInt8):List Pc→Prop
 |[]=>∀c∈tl,blk c=true
 |(b,w)::ps=>(∀c∈b,blk c=true)∧Tk w∧fol w (text tl ps)∧okp tl ps
def hd (tl:List UInt8):List Pc→List UInt8
 |[]=>tl
 |(b,_)::_=>b
def okN (ps:List Pc):Prop:=∀p∈ps,(nxt p.2).2=0
noncomputable def Qy:Nat→List Pc→List qd
 |_,[]=>[]
 |n,(b,w)::ps=>⟨(nxt w).1.kind,bs w,(nxt w).1.n,((n+b.length:Nat):Int)⟩::Qy (n+b.length+w.length) ps
theorem Zs:∀(n:Nat) (ps:List Pc),(Qy n ps).length=ps.length
 |_,[]=>rfl
 |n,(b,w)::ps=>by rw[Qy,List.length_cons,Zs,List.length_cons]
theorem okp_blk:∀{ps:List Pc},okp tl ps→∀c∈hd tl ps,blk c=true
 |[],h=>h
 |(b,w)::ps,h=>h.1
def rest:List Pc→List UInt8→List UInt8
 |[],_=>[]
 |(_,w)::ps,tl=>w++text tl ps
theorem text_hd:∀(ps:List Pc),text tl ps=hd tl ps++rest ps tl
 |[]=>by simp[text,hd,rest]
 |(b,w)::ps=>rfl
theorem rest_nbl:∀{ps:List Pc},okp tl ps→∀c,(rest ps tl).head? =some c→nbl c=true
 |[],_,c,hc=>by cases hc
 | (b, w) :: ps, h, c, hc => by
  obtain⟨c',u,h1,h2⟩:=h.2.1.cons;rw[rest,h1]at hc;cases hc;exact h2
theorem t_bl {ps:List Pc}(h:okp tl ps)(hl:(text tl ps).length≤140737488351232):JA (bs (text tl ps))=some ((hd tl ps).length:Int):=by
 rw[text_hd]at hl ⊢;exact bl_all (okp_blk h) (rest_nbl h) hl
theorem nxt_ok {w:List UInt8}(h:(nxt w).2=0):(nxt w).1.text=bs w:=by
 unfold nxt at*;by_cases h1:kd w=2
 ·rw[if_pos h1]at h ⊢;cases hb:(nv w).2 with
  |true=>rfl
  |false=>rw[hb]at h;cases h
 ·rw[if_neg h1]
theorem nxt_er {w:List UInt8}(h:¬(nxt w).2=0):(nxt w).2=7:=by
 unfold nxt at*;by_cases h1:kd w=2
 ·rw[if_pos h1]at h ⊢;cases hb:(nv w).2 with
  |true=>rw[hb]at h;exact absurd rfl h
  |false=>rfl
 ·rw[if_neg h1]at h;exact absurd rfl h
theorem nxt_kd {w:List UInt8}(h:(nxt w).2=0):(nxt w).1.kind=kd w:=by
 unfold nxt at*;by_cases h1:kd w=2
 ·rw[if_pos h1]at h ⊢;cases hb:(nv w).2 with
  |true=>exact h1.symm
  |false=>rw[hb]at h;cases h
 ·rw[if_neg h1]
theorem lex_run:∀(ps:List Pc) (pre:List UInt8) (out:List qd),okp tl ps→(pre++text tl ps).length≤4000→out.length+ps.length≤4000→
  ∃r,qA (Za (bs (pre++text tl ps)) JA Zk) (out,((pre.length+(hd tl ps).length:Nat):Int))=some r∧(okN ps→r=.inr (out++Qy pre.length ps))∧(¬okN ps→∃a,r=.inl ([],a,7))
 | [], pre, out, hok, hl, _ => by
  refine⟨.inr out,Qp ?_,fun _=>by simp[Qy],fun h=>absurd (fun p hp=>by cases hp) h⟩;unfold Za;dsimp only;rw[zE,show(pre++text tl []).length=pre.length+(hd tl []).length by simp[text,hd],dge];rfl
 | (b, w) :: ps, pre, out, hok, hl, hn => by
  obtain⟨hb,hw,hf,hok'⟩:=hok;have hlen:(pre++text tl ((b,w)::ps)).length=pre.length+(b.length+(w.length+(text tl ps).length)):=by simp[text]
  obtain⟨c,u,hcu,_⟩:=hw.cons;have hpos:0<w.length:=by rw[hcu];simp
  simp only[hd];have hs1:=JX (pre++text tl ((b,w)::ps)) (pre.length+b.length) (pre++text tl ((b,w)::ps)).length (by omega) (by omega);have e1:(pre++text tl ((b,w)::ps)).drop (pre.length+b.length)=w++text tl ps:=by
   rw[show pre++text tl ((b,w)::ps)=(pre++b)++(w++text tl ps) by simp[text],show pre.length+b.length=(pre++b).length by simp,List.drop_left]
  rw[List.take_length,e1]at hs1;have hnx:=nx hw hf (by omega);by_cases h0:(nxt w).2=0
  ·have hs2:=JX (pre++text tl ((b,w)::ps)) (pre.length+b.length+w.length) (pre++text tl ((b,w)::ps)).length (by omega) (by omega);have e2:(pre++text tl ((b,w)::ps)).drop (pre.length+b.length+w.length)=text tl ps:=by
    rw[show pre++text tl ((b,w)::ps)=(pre++b++w)++text tl ps by simp[text],show pre.length+b.length+w.length=(pre++b++w).length by simp[Nat.add_assoc],List.drop_left]
   rw[List.take_length,e2]at hs2;have hbl:=t_bl hok' (by omega);have hhd:(hd tl ps).length≤(text tl ps).length:=by rw[text_hd];simp
   have happ:∀t:qd,Ql 40 out [t]=some (out++[t]):=fun t=>by
    unfold Ql;rw[if_pos (by simp at hn ⊢;omega)]
   have hw1:IntKind.i64.wrap (((pre.length+b.length:Nat):Int)+((w.length:Nat):Int))=((pre.length+b.length+w.length:Nat):Int):=by rw[zF (by omega) (by omega)];omega
   have hw2:IntKind.i64.wrap (((pre.length+b.length+w.length:Nat):Int)+(((hd tl ps).length:Nat):Int))=((pre.length+b.length+w.length+(hd tl ps).length:Nat):Int):=by rw[zF (by omega) (by omega)];omega
   have step:Za (bs (pre++text tl ((b,w)::ps))) JA Zk (out,((pre.length+b.length:Nat):Int))=some (.inl (out++[⟨(nxt w).1.kind,bs w,(nxt w).1.n,((pre.length+b.length:Nat):Int)⟩],((pre.length+b.length+w.length+(hd tl ps).length:Nat):Int))):=by
    unfold Za;dsimp only;rw[zE,dlt (by omega:pre.length+b.length<(pre++text tl ((b,w)::ps)).length)];simp only[if_true,hs1,Option.bind_some,hnx,h0,decide_true,Bool.not_true,Bool.false_eq_true,if_false,happ,nxt_ok h0,zE,hw1,hs2,hbl,hw2]
   rw[ZL step];have hall:pre++text tl ((b,w)::ps)=(pre++b++w)++text tl ps:=by simp[text]
   have hpl:(pre++b++w).length=pre.length+b.length+w.length:=by simp[Nat.add_assoc]
   obtain⟨r,h1,h2,h3⟩:=lex_run ps (pre++b++w) (out++[⟨(nxt w).1.kind,bs w,(nxt w).1.n,((pre.length+b.length:Nat):Int)⟩]) hok' (by rw[←hall];exact hl) (by simp at hn ⊢;omega);rw[←hall,hpl]at h1;rw[hpl]at h2;refine⟨r,h1,fun h=> ?_,fun h=>h3 fun h'=>h fun p hp=> ?_⟩
   ·rw[h2 fun p hp=>h p (List.mem_cons_of_mem _ hp),Qy];simp
   ·rcases List.mem_cons.1 hp with rfl|hp
    ·exact h0
    ·exact h' p hp
  ·refine⟨.inl ([],((pre.length+b.length:Nat):Int),7),Qp ?_,fun h=>absurd (h _ List.mem_cons_self) h0,fun _=>⟨_,rfl⟩⟩;unfold Za;dsimp only;rw[zE,dlt (by omega:pre.length+b.length<(pre++text tl ((b,w)::ps)).length)];simp only[if_true,hs1,Option.bind_some,hnx,nxt_er h0,show decide ((7:Int)=0)=false from rfl,Bool.not_false,if_true]
theorem pcs_len:∀{ps:List Pc},okp tl ps→ps.length≤(text tl ps).length
 |[],_=>by simp
 | (b, w) :: ps, h => by
  obtain⟨c,u,hcu,_⟩:=h.2.1.cons;have:=pcs_len h.2.2.2;simp[text,hcu];omega
theorem t_Lex {ps:List Pc}(hok:okp tl ps):∃r,m_Lex (bs (text tl ps))=some r∧(r.2.2=0→okN ps∧r.1=Qy 0 ps)∧(okN ps→r=(Qy 0 ps,0,0)∧(text tl ps).length≤4000∨r=([],0,8)∧4000<(text tl ps).length):=by
 unfold m_Lex B_lex_Lex;rw[zE];by_cases hl:(text tl ps).length≤4000
 ·rw[decide_eq_false (by omega)];obtain⟨r,h1,h2,h3⟩:=lex_run ps [] [] hok (by simpa using hl) (by have:=pcs_len hok;simp;omega);simp only[List.nil_append,List.length_nil,Nat.zero_add]at h1 h2;simp only[Bool.false_eq_true,if_false,t_bl hok (by omega),Option.bind_some,h1];by_cases hN:okN ps
  ·rw[h2 hN];exact⟨_,rfl,fun _=>⟨hN,rfl⟩,fun _=>.inl ⟨rfl,hl⟩⟩
  ·obtain⟨a,rfl⟩:=h3 hN;exact⟨_,rfl,fun h=>absurd h (by simp),fun h=>absurd h hN⟩
 ·rw[decide_eq_true (by omega)];exact⟨_,rfl,fun h=>absurd h (by simp),fun _=>.inr ⟨rfl,by omega⟩⟩
end Go.Proofs.Ytohmmfimedgccaa.E
end
