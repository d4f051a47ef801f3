import Derived.WalkKit
import Derived.Below
import Derived.Still
import Derived.Maps.AppendAt
import Derived.Laws.CopyRow
import Derived.WalkSpells
import Derived.Great.BuildSlice
import Derived.Laws.StructEq
import Derived.Laws.Strings
import Derived.Laws.BytesString
import Derived.Lib.ConvBytes
import Derived.Laws.AppendOwn
/- SyntaxPlaces: a program's text, one token of it cut, doubled or put in another's place, is refused no sooner than there. PART 1 OF 7: E0 E1 E2 E3 E4 E5 E6 E7 E8 E9 EA EV EB EC -/
section
namespace Go.Proofs.Ytohmmfimedgccaa.E
set_option linter.unusedVariables false
set_option linter.unusedSimpArgs false
inductive PV where
 |v (x:Value)
 |e0
 |nv
 |vc (id len:Nat)
 |vq (id len off:Nat)
 |sl (rows:List (List PV))
 |ow (t:Nat) (rows:List (List PV))
 |rp (row:List PV) (off:Nat)
 |pt (id off:Nat)
 |ms (id sz len:Nat)
 |mp (id:Nat)
 |ag (cells:List PV)
 |tu (xs:List PV)
 |fn (f:FuncId) (first caps:List PV)
 |ifc (t:TypeId) (x:PV)
 |bb
 |any
instance:Inhabited PV:=⟨.any⟩
def PV.flat:PV→List PV
 | .ag l=>l
 |p=>[p]
def PV.one:PV→Bool
 | .v x=>x.oneCell'
 | .ag _| .tu _| .any=>false
 |_=>true
inductive KK where
 |s|i (k:IntKind)
 deriving DecidableEq
def KK.ok:KK→Value→Prop
 | .s,v=>∃x,v=.string x
 | .i k,v=>∃n,v=.int k n
inductive AObj where
 |res
 |box (t:TypeId) (cells:List PV)
 |tok (e:TypeId) (sz len:Nat)
 |map (kk:KK) (m:Value→Option PV) (n:Nat)
 |vec (e:TypeId) (sz len:Nat) (cells:List PV)
 |hol
abbrev Store:=List (Option AObj)
def AObj.owns:AObj→Nat→Prop
 | .res,_=>False
 | .box ..,_=>True
 | .tok _ sz len,off=>sz*len≤off
 | .map ..,_=>True
 | .vec ..,_=>True
 | .hol,_=>False
def live (σ:Store)(id:Nat)(o:AObj):Prop:=σ[id]? =some (some o)∧(o≠ .res∧o≠ .hol)
def known (σ:Store)(id:Nat):Prop:=id<σ.length∧σ[id]?≠some (some .res)
def owned (σ:Store)(μ:Nat→Nat)(g off:Nat):Prop:=∃id o,live σ id o∧μ id=g∧o.owns off
def StC (σ:Store)(μ:Nat→Nat)(w:World)(a:Addr)(x:Value):Prop:=w.cell? a=some x∧¬owned σ μ a.block a.off
def isBox (σ:Store)(id:Nat):Prop:=∃t c,live σ id (.box t c)
def isMap (σ:Store)(id:Nat):Prop:=∃kk m n,live σ id (.map kk m n)
def zV (σ:Store)(id:Nat):Prop:=σ[id]? =some (some .hol)
def isVec (σ:Store)(id:Nat)(e:TypeId)(sz len:Nat):Prop:=∃c,live σ id (.vec e sz len c)
def OwnF (w:World)(g:Nat)(e:TypeId)(sz:Nat)(v:Value)(len:Nat):Prop:=
 ∃cap cur,v=.slice (some ⟨g,0,none⟩) len cap∧w.heap[g]? =some (.cells cur e (0,0))∧len≤cap∧cap≤maxLen∧cur.size=cap*sz
inductive R (σ:Store)(μ:Nat→Nat)(w:World):Value→PV→Prop
 |v (x:Value):x.oneCell'=true→R σ μ w x (.v x)
 |e0 (A:Option Addr):R σ μ w (.slice A 0 0) .e0
 |nv (A:Option Addr):R σ μ w (.slice A 0 0) .nv
 |vc (id len:Nat) (v:Value):known σ id→v.oneCell'=true→(zV σ id→len=0∧∃A,v=.slice A 0 0)→(∀e sz n,isVec σ id e sz n→len≤n∧(len=n→OwnF w (μ id) e sz v len))→R σ μ w v (.vc id len)
 |vq (id len off:Nat) (v:Value):known σ id→v.oneCell'=true→¬zV σ id→(∀e sz n,isVec σ id e sz n→len≤n∧(len=n→v=.pointer (some ⟨μ id,off,none⟩)))→R σ μ w v (.vq id len off)
 |sl0 (A:Option Addr) (c:Nat):R σ μ w (.slice A 0 c) (.sl [])
 | sl (a : Addr) (c sz : Nat) (rows : List (List PV)) (u : Nat → Nat → Value) : rows.length ≤ c → (∀ r ∈ rows, r.length = sz) → (∀ i j, i < rows.length → j < sz → StC σ μ w (a.add (i * sz + j)) (u i j)) →
   (∀i j,i<rows.length→j<sz→(u i j).oneCell'=true)→(∀i j r p,rows[i]? =some r→r[j]? =some p→R σ μ w (u i j) p)→R σ μ w (.slice (some a) rows.length c) (.sl rows)
 |ow (t:Nat) (rows:List (List PV)) (v:Value):R σ μ w v (.sl rows)→known σ t→(zV σ t→rows=[]∧∃A,v=.slice A 0 0)→(∀e sz len,live σ t (.tok e sz len)→rows.length≤len∧(rows.length=len→OwnF w (μ t) e sz v len))→R σ μ w v (.ow t rows)
 | rp (b : Addr) (row : List PV) (off : Nat) (u : Nat → Value) : (∀ j, j < row.length → StC σ μ w (b.add j) (u j)) → (∀ j, j < row.length → (u j).oneCell' = true) → (∀ j p, row[j]? = some p → R σ μ w (u j) p) →
   R σ μ w (.pointer (some (b.add off))) (.rp row off)
 |pt (id off:Nat) (v:Value):known σ id→v.oneCell'=true→(isBox σ id→v=.pointer (some ⟨μ id,off,none⟩))→R σ μ w v (.pt id off)
 |ms (id sz len:Nat) (v:Value):known σ id→v.oneCell'=true→(isBox σ id→∃cap,len≤cap∧v=.slice (some ⟨μ id,0,none⟩) len cap)→R σ μ w v (.ms id sz len)
 |mp (id:Nat) (v:Value):known σ id→v.oneCell'=true→(isMap σ id→v=.map (some (μ id)))→R σ μ w v (.mp id)
 |ag (vs:Array Value) (ps:List PV):vs.size=ps.length→(∀(i:Nat) (x:Value),vs[i]? =some x→x.oneCell'=true)→(∀(i:Nat) (x:Value) (p:PV),vs[i]? =some x→ps[i]? =some p→R σ μ w x p)→R σ μ w (.agg vs) (.ag ps)
 |tu (vs:Array Value) (ps:List PV):vs.size=ps.length→(∀(i:Nat) (x:Value) (p:PV),vs[i]? =some x→ps[i]? =some p→R σ μ w x p)→R σ μ w (.tuple vs) (.tu ps)
 | fn (f : FuncId) (vs cs : Array Value) (ps qs : List PV) : vs.size = ps.length → cs.size = qs.length → (∀ (i : Nat) (x : Value) (p : PV), vs[i]? = some x → ps[i]? = some p → R σ μ w x p) → (∀ (i : Nat) (x : Value) (p : PV), cs[i]? = some x → qs[i]? = some p → R σ μ w x p) →
   R σ μ w (.func (.func f) vs cs) (.fn f ps qs)
 |ifc (t:TypeId) (x:Value) (p:PV):R σ μ w x p→R σ μ w (.iface t x) (.ifc t p)
 |bb (b:Bool):R σ μ w (.bool b) .bb
 |any (v:Value):R σ μ w v .any
def RL (σ:Store)(μ:Nat→Nat)(w:World)(vs:Array Value)(ps:List PV):Prop:=vs.size=ps.length∧∀(i:Nat) (x:Value) (p:PV),vs[i]? =some x→ps[i]? =some p→R σ μ w x p
def MapRep (σ:Store)(μ:Nat→Nat)(w:World)(g:Nat)(kk:KK)(m:Value→Option PV)(n:Nat):Prop:=
 ∃es clock,w.heap[g]? =some (.map es clock)∧es.size≤n∧(∀(i j:Nat) e e',es[i]? =some e→es[j]? =some e'→e.key=e'.key→i=j)∧
  (∀(i:Nat) e,es[i]? =some e→kk.ok e.key∧∃p,m e.key=some p∧R σ μ w e.val p)∧(∀k p,m k=some p→∃(i:Nat) (e:MapEntry),es[i]? =some e∧e.key=k)
def ORep (σ:Store)(μ:Nat→Nat)(w:World)(g:Nat):AObj→Prop
 | .res=>True
 | .hol=>True
 | .box t cells=>∃cs,w.heap[g]? =some (.cells cs t (0,0))∧cs.size=cells.length∧(∀(i:Nat) (x:Value),cs[i]? =some x→x.oneCell'=true)∧(∀(i:Nat) (x:Value) (p:PV),cs[i]? =some x→cells[i]? =some p→R σ μ w x p)
 | .tok e sz len=>∃cs,w.heap[g]? =some (.cells cs e (0,0))
 | .map kk m n=>MapRep σ μ w g kk m n
 | .vec e sz len cells=>∃cs,w.heap[g]? =some (.cells cs e (0,0))∧cells.length=len*sz∧cells.length≤cs.size∧(∀(i:Nat) (x:Value),i<cells.length→cs[i]? =some x→x.oneCell'=true)∧(∀(i:Nat) (x:Value) (p:PV),cs[i]? =some x→cells[i]? =some p→R σ μ w x p)
structure SR (σ:Store)(μ:Nat→Nat)(w:World):Prop where
 inj:∀i j o o',live σ i o→live σ j o'→μ i=μ j→i=j
 obj:∀i o,live σ i o→ORep σ μ w (μ i) o
theorem SR.lt {σ:Store}{μ:Nat→Nat}{w:World}(h:SR σ μ w){i:Nat}{o:AObj}(hl:live σ i o):μ i<w.heap.size:=by
 have hb:=h.obj i o hl;obtain⟨_,hne⟩:=hl;cases o with
 |res=>exact absurd rfl hne.1
 |hol=>exact absurd rfl hne.2
 |box t c=>obtain⟨cs,h1,_⟩:=hb;exact(Array.getElem?_eq_some_iff.1 h1).1
 |tok e sz len=>obtain⟨cs,h1⟩:=hb;exact(Array.getElem?_eq_some_iff.1 h1).1
 |map kk m n=>obtain⟨es,c,h1,_⟩:=hb;exact(Array.getElem?_eq_some_iff.1 h1).1
 |vec e sz len c=>obtain⟨cs,h1,_⟩:=hb;exact(Array.getElem?_eq_some_iff.1 h1).1
def JH (w w':World)(g:Nat):Prop:=∀cur e,w.heap[g]? =some (.cells cur e (0,0))→∃cur',w'.heap[g]? =some (.cells cur' e (0,0))∧cur'.size=cur.size
theorem JH.refl (w:World)(g:Nat):JH w w g:=fun cur e h=>⟨cur,h,rfl⟩
theorem JH.eq {w w':World}{g:Nat}(h:w'.heap[g]? =w.heap[g]?):JH w w' g:=fun cur e hc=>⟨cur,h.trans hc,rfl⟩
theorem JH.trans {w w' w2:World}{g:Nat}(h:JH w w' g)(k:JH w' w2 g):JH w w2 g:=fun cur e hc=>by
 obtain⟨c1,h1,h2⟩:=h cur e hc;obtain⟨c2,h3,h4⟩:=k c1 e h1;exact⟨c2,h3,h4.trans h2⟩
def AObj.came:AObj→Prop
 | .vec _ _ n _=>0<n
 | .tok _ _ n=>0<n
 |_=>False
def Qa (μ μ':Nat→Nat)(w w':World)(id:Nat):AObj→AObj→Prop
 | .box _ _,.box _ _=>μ' id=μ id
 | .map ..,.map .. =>μ' id=μ id
 | .tok e sz len,.tok e' sz' len'=>e=e'∧sz=sz'∧len≤len'∧(len=len'→μ' id=μ id∧w'.heap[μ id]? =w.heap[μ id]?)
 | .vec e sz len _,.vec e' sz' len' _=>e=e'∧sz=sz'∧len≤len'∧(len=len'→μ' id=μ id∧JH w w' (μ id))
 |_,_=>False
structure Ext (σ:Store)(μ:Nat→Nat)(w:World)(σ':Store)(μ':Nat→Nat)(w':World):Prop where
 os:w'.os=w.os
 tape:w'.tape=w.tape
 output:w'.output=w.output
 size:w.heap.size≤w'.heap.size
 len:σ.length≤σ'.length
 known:∀id,known σ id→known σ' id
 keep:∀g,g<w.heap.size→(∀id o,live σ id o→μ id≠g)→w'.heap[g]? =w.heap[g]?
 tok:∀id e sz len cur,live σ id (.tok e sz len)→w.heap[μ id]? =some (.cells cur e (0,0))→∃cur',w'.heap[μ id]? =some (.cells cur' e (0,0))∧∀j,j<sz*len→cur'[j]? =cur[j]?
 hol:∀id,E.known σ id→zV σ' id→zV σ id
 evo:∀id o',E.known σ id→live σ' id o'→(∃o,live σ id o∧Qa μ μ' w w' id o o')∨(zV σ id∧o'.came∧w.heap.size≤μ' id)
 fresh:∀id o',live σ' id o'→(E.known σ id∧μ' id=μ id)∨w.heap.size≤μ' id
theorem live.known {σ:Store}{id:Nat}{o:AObj}(h:live σ id o):known σ id:=
 ⟨(List.getElem?_eq_some_iff.1 h.1).1,fun e=>h.2.1 (by rw[h.1]at e;injection e with e;injection e)⟩
theorem live.eq {σ:Store}{id:Nat}{o o':AObj}(h:live σ id o)(h':live σ id o'):o=o':=by
 have:=h.1.symm.trans h'.1;injection this with this;injection this
theorem Ext.refl (σ:Store)(μ:Nat→Nat)(w:World):Ext σ μ w σ μ w where
 os:=rfl
 tape:=rfl
 output:=rfl
 size:=Nat.le_refl _
 len:=Nat.le_refl _
 known:=fun _ h=>h
 keep:=fun _ _ _=>rfl
 tok:=fun id e sz len cur _ h=>⟨cur,h,fun _ _=>rfl⟩
 hol:=fun _ _ h=>h
 evo:=fun id o' _ h=>.inl ⟨o',h,by
  obtain⟨_,hne⟩:=h;cases o' with
  |res=>exact absurd rfl hne.1
  |hol=>exact absurd rfl hne.2
  |vec e sz len c=>exact⟨rfl,rfl,Nat.le_refl _,fun _=>⟨rfl,.refl _ _⟩⟩
  |_=>simp[Qa]⟩
 fresh:=fun id o' h=>.inl ⟨h.known,rfl⟩
section
variable {σ σ' σ2:Store} {μ μ' μ2:Nat→Nat} {w w' w2:World}
theorem Ext.back (h:Ext σ μ w σ' μ' w'){id:Nat}{o':AObj}(hl:live σ' id o')(hlt:μ' id<w.heap.size):∃o,live σ id o∧μ' id=μ id∧Qa μ μ' w w' id o o':=by
 rcases h.fresh id o' hl with⟨h1,h2⟩|h1
 ·rcases h.evo id o' h1 hl with⟨o,h3,h4⟩|⟨_,_,h3⟩
  ·exact⟨o,h3,h2,h4⟩
  ·omega
 ·omega
theorem Ext.trans (hs:SR σ μ w)(h:Ext σ μ w σ' μ' w')(k:Ext σ' μ' w' σ2 μ2 w2):Ext σ μ w σ2 μ2 w2 where
 os:=k.os.trans h.os
 tape:=k.tape.trans h.tape
 output:=k.output.trans h.output
 size:=Nat.le_trans h.size k.size
 len:=Nat.le_trans h.len k.len
 known:=fun id hi=>k.known id (h.known id hi)
 keep:=fun g hg hn=>by
  rw[k.keep g (Nat.lt_of_lt_of_le hg h.size),h.keep g hg hn];intro id o hl he;obtain⟨o1,h1,h2,_⟩:=h.back hl (by omega);exact hn id o1 h1 (by omega)
 tok:=fun id e sz len cur hl hc=>by
  obtain⟨cur1,hc1,hj1⟩:=h.tok id e sz len cur hl hc;have hlt:=hs.lt hl;by_cases hx:∃id1 o1,live σ' id1 o1∧μ' id1=μ id
  ·obtain⟨id1,o1,hl1,he1⟩:=hx;obtain⟨o0,h0,h2,h3⟩:=h.back hl1 (by omega);have hid:id1=id:=hs.inj id1 id _ _ h0 hl (by omega);subst hid;obtain rfl:=h0.eq hl;cases o1 with
   | tok e1 sz1 len1 =>
    obtain⟨rfl,rfl,hle,_⟩:=h3;obtain⟨cur2,hc2,hj2⟩:=k.tok id1 e sz len1 cur1 hl1 (by rw[he1];exact hc1);refine⟨cur2,by rw[←he1];exact hc2,fun j hj=> ?_⟩;rw[hj2 j (Nat.lt_of_lt_of_le hj (Nat.mul_le_mul_left _ hle)),hj1 j hj]
   |_=>exact h3.elim
  ·refine⟨cur1,?_,hj1⟩;rw[k.keep (μ id) (Nat.lt_of_lt_of_le hlt h.size) (fun id1 o1 hl1 he1=>hx ⟨id1,o1,hl1,he1⟩)];exact hc1
 hol:=fun id hk hl=>h.hol id hk (k.hol id (h.known id hk) hl)
 evo:=fun id o2 hk hl=>by
  rcases k.evo id o2 (h.known id hk) hl with⟨o1,h1,e1⟩|⟨h1,h2,h3⟩
  case inr=>exact .inr ⟨h.hol id hk h1,h2,Nat.le_trans h.size h3⟩
  rcases h.evo id o1 hk h1 with⟨o0,h0,e0⟩|⟨g1,g2,g3⟩
  case inr=>
   refine .inr ⟨g1,?_,?_⟩
   ·cases o1<;>simp only[AObj.came]at g2<;>cases o2<;>simp only[Qa]at e1<;>simp only[AObj.came]<;>omega
   ·rcases k.fresh id _ hl with⟨_,h5⟩|h5
    ·omega
    ·exact Nat.le_trans h.size h5
  refine .inl ⟨o0,h0,?_⟩;cases o0<;>cases o1<;>simp only[Qa]at e0<;>cases o2<;>simp only[Qa]at e1 ⊢
  ·omega
  ·obtain⟨rfl,rfl,a1,a2⟩:=e0;obtain⟨rfl,rfl,b1,b2⟩:=e1;refine⟨rfl,rfl,by omega,fun he=> ?_⟩;obtain⟨c1,c2⟩:=a2 (by omega);obtain⟨d1,d2⟩:=b2 (by omega);rw[c1]at d2;exact⟨by omega,d2.trans c2⟩
  ·omega
  ·obtain⟨rfl,rfl,a1,a2⟩:=e0;obtain⟨rfl,rfl,b1,b2⟩:=e1;refine⟨rfl,rfl,by omega,fun he=> ?_⟩;obtain⟨c1,c2⟩:=a2 (by omega);obtain⟨d1,d2⟩:=b2 (by omega);rw[c1]at d2;exact⟨by omega,c2.trans d2⟩
 fresh:=fun id o2 hl=>by
  rcases k.fresh id o2 hl with⟨h1,h2⟩|h1
  ·rcases k.evo id o2 h1 hl with⟨o1,hl1,_⟩|⟨_,_,h3⟩
   case inr=>exact .inr (Nat.le_trans h.size h3)
   rcases h.fresh id o1 hl1 with⟨h3,h4⟩|h3
   ·exact .inl ⟨h3,by omega⟩
   ·exact .inr (by omega)
  ·exact .inr (Nat.le_trans h.size h1)
theorem cell_lt {w:World}{a:Addr}{x:Value}(h:w.cell? a=some x):a.block<w.heap.size:=World.block_lt_of_cell? w a h
theorem cell_same {w w':World}{a:Addr}(h:w'.heap[a.block]? =w.heap[a.block]?):w'.cell? a=w.cell? a:=World.cell?_of_block h
theorem StC.ext (hs:SR σ μ w)(h:Ext σ μ w σ' μ' w'){a:Addr}{x:Value}(hc:StC σ μ w a x):StC σ' μ' w' a x:=by
 obtain⟨h1,h2⟩:=hc;have hlt:=cell_lt h1;refine⟨?_,?_⟩
 ·by_cases hx:∃id o,live σ id o∧μ id=a.block
  ·obtain⟨id,o,hl,he⟩:=hx;cases o with
   |res=>exact absurd rfl hl.2.1
   |hol=>exact absurd rfl hl.2.2
   |box t c=>exact absurd ⟨id,_,hl,he,trivial⟩ h2
   |map kk m n=>exact absurd ⟨id,_,hl,he,trivial⟩ h2
   |vec e sz len c=>exact absurd ⟨id,_,hl,he,trivial⟩ h2
   | tok e sz len =>
    have hoff:a.off<sz*len:=by
     refine Nat.lt_of_not_le fun hh=>h2 ⟨id,_,hl,he,hh⟩
    obtain⟨cs,hcs⟩:=hs.obj id _ hl;obtain⟨cur',hcur,hj⟩:=h.tok id e sz len cs hl hcs;rw[he]at hcs hcur;unfold World.cell? at h1 ⊢;rw[hcs]at h1;rw[hcur];simp only at h1 ⊢;rw[hj a.off hoff];exact h1
  ·rw[cell_same (h.keep a.block hlt fun id o hl he=>hx ⟨id,o,hl,he⟩)];exact h1
 ·rintro⟨id,o',hl,he,how⟩
  obtain⟨o,hlo,hm,hev⟩:=h.back hl (by omega);refine h2 ⟨id,o,hlo,by omega,?_⟩;cases o<;>cases o'<;>simp only[Qa]at hev
  ·trivial
  ·obtain⟨rfl,rfl,hle,_⟩:=hev;exact Nat.le_trans (Nat.mul_le_mul_left _ hle) how
  ·trivial
  ·trivial
theorem isBox.ext (h:Ext σ μ w σ' μ' w'){id:Nat}(hk:known σ id)(hb:isBox σ' id):isBox σ id∧μ' id=μ id:=by
 obtain⟨t,c,hl⟩:=hb;rcases h.evo id _ hk hl with⟨o,h1,h2⟩|⟨_,h2,_⟩
 case inr=>exact h2.elim
 cases o<;>simp only[Qa]at h2;exact⟨⟨_,_,h1⟩,h2⟩
theorem isMap.ext (h:Ext σ μ w σ' μ' w'){id:Nat}(hk:known σ id)(hb:isMap σ' id):isMap σ id∧μ' id=μ id:=by
 obtain⟨kk,t,c,hl⟩:=hb;rcases h.evo id _ hk hl with⟨o,h1,h2⟩|⟨_,h2,_⟩
 case inr=>exact h2.elim
 cases o<;>simp only[Qa]at h2;exact⟨⟨_,_,_,h1⟩,h2⟩
theorem isVec.ext (h:Ext σ μ w σ' μ' w'){id:Nat}{e:TypeId}{sz n:Nat}(hk:known σ id)(hb:isVec σ' id e sz n):(∃n0,isVec σ id e sz n0∧n0≤n∧(n0=n→μ' id=μ id∧JH w w' (μ id)))∨(zV σ id∧0<n):=by
 obtain⟨c,hl⟩:=hb;rcases h.evo id _ hk hl with⟨o,h1,h2⟩|⟨h1,h2,_⟩
 case inr=>exact .inr ⟨h1,h2⟩
 cases o<;>simp only[Qa]at h2;obtain⟨rfl,rfl,h3,h4⟩:=h2;exact .inl ⟨_,⟨_,h1⟩,h3,h4⟩
theorem R.ext (hs:SR σ μ w)(h:Ext σ μ w σ' μ' w'){x:Value}{p:PV}(hr:R σ μ w x p):R σ' μ' w' x p:=by
 induction hr with
 |v x hx=>exact .v x hx
 |e0 A=>exact .e0 A
 |nv A=>exact .nv A
 | vc id len v h1 h2 hh h3 =>
  refine .vc id len v (h.known id h1) h2 (fun hx=>hh (h.hol id h1 hx)) fun e sz n hv=> ?_;rcases hv.ext h h1 with⟨n0,k1,k2,k3⟩|⟨k1,k2⟩
  case inr=>obtain⟨k3,_⟩:=hh k1;exact⟨by omega,fun he=>by omega⟩
  obtain⟨k4,k5⟩:=h3 _ _ _ k1;refine⟨by omega,fun he=> ?_⟩;obtain⟨m1,m2⟩:=k3 (by omega);obtain⟨cap,cur,g1,g2,g3,g4,g5⟩:=k5 (by omega);obtain⟨cur',q1,q2⟩:=m2 cur e g2;exact⟨cap,cur',by rw[m1];exact g1,by rw[m1];exact q1,g3,g4,q2.trans g5⟩
 | vq id len off v h1 h2 hh h3 =>
  refine .vq id len off v (h.known id h1) h2 (fun hx=>hh (h.hol id h1 hx)) fun e sz n hv=> ?_;rcases hv.ext h h1 with⟨n0,k1,k2,k3⟩|⟨k1,k2⟩
  case inr=>exact absurd k1 hh
  obtain⟨k4,k5⟩:=h3 _ _ _ k1;refine⟨by omega,fun he=> ?_⟩;obtain⟨m1,m2⟩:=k3 (by omega);rw[m1];exact k5 (by omega)
 |sl0 A c=>exact .sl0 A c
 |sl a c sz rows u h1 h2 h3 h4 h5 ih=>exact .sl a c sz rows u h1 h2 (fun i j hi hj=>(h3 i j hi hj).ext hs h) h4 ih
 | ow t rows v h1 h2 hh h3 ih =>
  refine .ow t rows v ih (h.known t h2) (fun hx=>hh (h.hol t h2 hx)) fun e sz len hl=> ?_;rcases h.evo t _ h2 hl with⟨o,hlo,hev⟩|⟨q1,q2,_⟩
  case inr=>
   obtain⟨rfl,_⟩:=hh q1;simp only[AObj.came]at q2;exact⟨Nat.zero_le _,fun he=>by simp at he;omega⟩
  cases o<;>simp only[Qa]at hev;obtain⟨rfl,rfl,hle,heq⟩:=hev;obtain⟨h4,h5⟩:=h3 _ _ _ hlo;refine⟨by omega,fun he=> ?_⟩;obtain⟨e1,e2⟩:=heq (by omega);obtain⟨cap,cur,k1,k2,k3⟩:=h5 (by omega);have e3:=Nat.le_antisymm h4 (by omega:_≤rows.length);exact⟨cap,cur,by rw[e1,k1];congr 1;omega,by rw[e1,e2];exact k2,by omega,k3.2⟩
 |rp b row off u h1 h2 h3 ih=>exact .rp b row off u (fun j hj=>(h1 j hj).ext hs h) h2 ih
 | pt id off v h1 h2 h3 =>
  refine .pt id off v (h.known id h1) h2 fun hb=> ?_;obtain⟨k1,k2⟩:=hb.ext h h1;rw[k2];exact h3 k1
 | ms id sz len v h1 h2 h3 =>
  refine .ms id sz len v (h.known id h1) h2 fun hb=> ?_;obtain⟨k1,k2⟩:=hb.ext h h1;rw[k2];exact h3 k1
 | mp id v h1 h2 h3 =>
  refine .mp id v (h.known id h1) h2 fun hb=> ?_;obtain⟨k1,k2⟩:=hb.ext h h1;rw[k2];exact h3 k1
 |ag vs ps h1 h2 h3 ih=>exact .ag vs ps h1 h2 ih
 |tu vs ps h1 h2 ih=>exact .tu vs ps h1 ih
 |fn f vs cs ps qs h1 h2 h3 h4 ih1 ih2=>exact .fn f vs cs ps qs h1 h2 ih1 ih2
 |ifc t x p h1 ih=>exact .ifc t x p ih
 |bb b=>exact .bb b
 |any v=>exact .any v
theorem RL.ext (hs:SR σ μ w)(h:Ext σ μ w σ' μ' w'){vs:Array Value}{ps:List PV}(hr:RL σ μ w vs ps):RL σ' μ' w' vs ps:=⟨hr.1,fun i x p h1 h2=>(hr.2 i x p h1 h2).ext hs h⟩
theorem R.one {x:Value}{p:PV}(hr:R σ μ w x p)(h1:p.one=true):x.oneCell'=true:=by
 cases hr with
 |ow t rows v h2 _ _ _=>cases h2<;>rfl
 |_=>first|rfl|assumption|(simp[PV.one]at h1;done)|(simp[PV.one]at h1;exact h1)
theorem R.flat {x:Value}{p:PV}(hr:R σ μ w x p)(h1:∀q∈p.flat,q.one=true):x.cells.size=p.flat.length∧(∀(i:Nat) y,x.cells[i]? =some y→y.oneCell'=true)∧∀(i:Nat) y q,x.cells[i]? =some y→p.flat[i]? =some q→R σ μ w y q:=by
 have single:p.flat=[p]→x.cells= #[x]→x.cells.size=p.flat.length∧(∀(i:Nat) y,x.cells[i]? =some y→y.oneCell'=true)∧∀(i:Nat) y q,x.cells[i]? =some y→p.flat[i]? =some q→R σ μ w y q:=by
  intro e1 e2;have ho:x.oneCell'=true:=hr.one (h1 p (by rw[e1];simp));rw[e1,e2];refine⟨rfl,fun i y hy=> ?_,fun i y q hy hq=> ?_⟩
  ·match i,hy with
   |0,hy=>simp at hy;subst hy;exact ho
   |n+1,hy=>simp at hy
  ·match i,hy,hq with
   |0,hy,hq=>simp at hy hq;subst hy hq;exact hr
   |n+1,hy,hq=>simp at hy
 have hcells:x.oneCell'=true→x.cells= #[x]:=by intro ho;cases x<;>first|rfl|cases ho
 cases hr with
 |ag vs ps h2 h3 h4=>exact⟨h2,h3,h4⟩
 |tu vs ps h2 h3=>exact absurd (h1 (.tu ps) (by simp[PV.flat])) (by simp[PV.one])
 |any v=>exact absurd (h1 .any (by simp[PV.flat])) (by simp[PV.one])
 |v x hx=>exact single rfl (hcells hx)
 |ow t rows v h2 _ _ _=>exact single rfl (hcells (by cases h2<;>rfl))
 |pt id off v _ h2 _=>exact single rfl (hcells h2)
 |ms id sz len v _ h2 _=>exact single rfl (hcells h2)
 |vc id len v _ h2 _ _=>exact single rfl (hcells h2)
 |vq id len off v _ h2 _ _=>exact single rfl (hcells h2)
 |mp id v _ h2 _=>exact single rfl (hcells h2)
 |_=>exact single rfl rfl
end
end Go.Proofs.Ytohmmfimedgccaa.E
end
section
namespace Go.Proofs.Ytohmmfimedgccaa.E
set_option linter.unusedVariables false
set_option linter.unusedSimpArgs false
open Classical in
noncomputable def upm (m:Value→Option PV)(k:Value)(p:PV):Value→Option PV:=fun x=>if x=k then some p else m x
inductive Z where
 |i (k:IntKind)|b|s|sl|se|p|m|f|c
 deriving DecidableEq
def Z.val:Z→Value
 | .i k=>.int k 0
 | .b=>.bool false
 | .s=>.string ⟨#[]⟩
 | .sl=>.slice none 0 0
 | .se=>.slice none 0 0
 | .p=>.pointer none
 | .m=>.map none
 | .f=>.nilFunc
 | .c=>.nilIface
def Z.of:Value→Option Z
 | .int k n=>if n=0 then some (.i k)else none
 | .bool false=>some .b
 | .string x=>if x=⟨#[]⟩then some .s else none
 | .slice none 0 0=>some .sl
 | .pointer none=>some .p
 | .map none=>some .m
 | .nilFunc=>some .f
 | .nilIface=>some .c
 |_=>none
theorem Z.of_val {v:Value}{z:Z}(h:Z.of v=some z):v=z.val:=by
 unfold Z.of at h;split at h<;>first|(split at h<;>cases h;subst_vars;rfl)|(cases h;rfl)|cases h
def Z.n:Z→Z
 | .se=>.sl
 |z=>z
theorem Z.n_val (z:Z):z.n.val=z.val:=by cases z<;>rfl
theorem Z.one (z:Z):z.val.oneCell'=true:=by cases z<;>rfl
inductive TK where
 |int (k:IntKind)|bool|str|slc (e:TypeId)|arr (n:Nat) (e:TypeId)|st (fs:List (Nat×TypeId))|map (k e:TypeId)|ifc|other
 deriving DecidableEq
structure TI where
 sz:Nat
 bytes:Nat
 agg:Bool
 cmp:Bool
 zero:List Z
 kind:TK
 deriving DecidableEq
def tk:TypeDesc→TK
 | .int k=>.int k
 | .bool=>.bool
 | .string=>.str
 | .slice e=>.slc e
 | .array n e=>.arr n e
 | .struct fs=>.st (fs.toList.map fun f=>(f.offset,f.type))
 | .map k e=>.map k e
 | .interface _=>.ifc
 |_=>.other
def aggD:TypeDesc→Bool
 | .struct _| .array _ _=>true
 |_=>false
def zlist:List Value→Option (List Z)
 |[]=>some []
 | v :: l => match Z.of v, zlist l with
  |some z,some r=>some (z::r)
  |_,_=>none
def zof (agg:Bool):Option Value→Option (List Z)
 |some (.agg cs)=>if agg then zlist cs.toList else none
 |some v=>if agg then none else zlist [v]
 |none=>none
def plainK (P:Program)(t:TypeId):Bool:=
 match P.underlying t with
 |some (.int _)|some .string|some .bool=>true
 |_=>false
def cmpOf (P:Program)(t:TypeId):Bool:=
 match P.underlying t with
 |some (.struct fs)=> !P.eqGuardType P.depth t&& !P.stoodInHeld t&&fs.toList.all fun f=>plainK P f.type&&f.name != "_"
 |_=>false
def fldOk (P:Program):TypeDesc→Bool
 | .struct fs=>fs.toList.all fun f=>(P.info? f.type).isSome
 |_=>true
def TI.of (P:Program)(t:TypeId):Option TI:=
 match P.info? t,P.underlying t with
 |some i,some d=>if fldOk P d=true then(zof (aggD d) i.zero).bind fun z=>if z.length=i.size then some ⟨i.size,i.bytes,aggD d,cmpOf P t,z,tk d⟩else none else none
 |_,_=>none
structure TOK (P:Program)(t:TypeId)(ti:TI):Prop where
 info:∃i z,P.info? t=some i∧i.size=ti.sz∧i.bytes=ti.bytes∧i.zero=some z∧z.cells.toList=ti.zero.map Z.val∧(ti.agg=true→∃cs,z=.agg cs)∧(ti.agg=false→z.oneCell'=true∧∃q,ti.zero=[q])
 und:∃d,P.underlying t=some d∧tk d=ti.kind∧aggD d=ti.agg
 fld:∀fs:Array Field,P.underlying t=some (.struct fs)→∀f∈fs.toList,(P.info? f.type).isSome=true
 cmp:cmpOf P t=ti.cmp
 zl:ti.sz=ti.zero.length
theorem qqr:∀(l:List Value) (r:List Z),zlist l=some r→l=r.map Z.val
 |[],r,h=>by simp[zlist]at h;subst h;rfl
 | v :: l, r, h => by
  unfold zlist at h;split at h
  ·rename_i z r' h1 h2;cases h;rw[List.map_cons,←Z.of_val h1,←qqr l r' h2]
  ·cases h
theorem TI.of_ok {P:Program}{t:TypeId}{ti:TI}(h:TI.of P t=some ti):TOK P t ti:=by
 unfold TI.of at h;split at h
 ·rename_i i d hi hd;split at h
  case isFalse=>cases h
  rename_i hfl;obtain⟨zs,hz,e⟩:=Option.bind_eq_some_iff.1 h;split at e
  case isFalse=>cases e
  rename_i hzl;injection e with e;subst e;refine⟨?_,⟨d,hd,rfl,rfl⟩,fun fs hu f hf=> ?_,rfl,hzl.symm⟩
  case refine_2=>
   rw[hd]at hu;injection hu with hu;subst hu;exact List.all_eq_true.1 hfl f hf
  unfold zof at hz;split at hz
  ·rename_i cs hzz;split at hz
   ·rename_i ha;exact⟨i,.agg cs,hi,rfl,rfl,hzz,qqr _ _ hz,fun _=>⟨cs,rfl⟩,fun hh=>by simp[ha]at hh⟩
   ·cases hz
  ·rename_i v hv hzz;split at hz
   ·cases hz
   ·rename_i ha;have hl:=qqr _ _ hz;have hlen:zs.length=1:=by have:=congrArg List.length hl;simpa using this.symm
    obtain⟨q,hq⟩:=List.length_eq_one_iff.1 hlen;have hv1:v=q.val:=by rw[hq]at hl;simpa using hl
    have ho:v.oneCell'=true:=by rw[hv1];exact q.one
    have hc:v.cells= #[v]:=by cases v<;>first|rfl|cases ho
    refine⟨i,v,hi,rfl,rfl,hzz,by rw[hc];exact hl,fun hh=>absurd hh ha,fun _=>⟨ho,q,hq⟩⟩
  ·cases hz
 ·cases h
theorem TI.of_ok' {P:Program}{t:TypeId}{ti:TI}(h:TI.of P t=some {ti with zero:=ti.zero.map Z.n}):TOK P t ti:=by
 have hm:(ti.zero.map Z.n).map Z.val=ti.zero.map Z.val:=by rw[List.map_map];exact List.map_congr_left fun z _=>Z.n_val z
 obtain⟨⟨i,z,h1,h2,h3,h4,h5,h6,h7⟩,h8,h9,h10,h11⟩:=TI.of_ok h;refine⟨⟨i,z,h1,h2,h3,h4,h5.trans hm,h6,fun ha=> ?_⟩,h8,h9,h10,by simpa using h11⟩;obtain⟨k1,q,k2⟩:=h7 ha;refine⟨k1,?_⟩;have:ti.zero.length=1:=by have:=congrArg List.length k2;simpa using this
 exact List.length_eq_one_iff.1 this
abbrev Env:=Nat→PV
def ofV:Value→PV
 | .agg cs=>if cs.toList.all Value.oneCell' then .ag (cs.toList.map .v)else .any
 | .tuple _=>.any
 |x=>.v x
def val (env:Env):Operand→PV
 | .tmp t=>env t
 | .const x=>ofV x
 | .global g=>.v (.pointer (some ⟨g,0,none⟩))
 | .func f=>.fn f [] []
inductive AR where
 |val (p:PV)
 |new (ob:AObj) (mk:Nat→PV)
 |eff (p:PV) (σ':Store)
 |call (f:FuncId) (args:List PV)
 |bad
def zd (ti:TI)(cells:List PV)(off:Nat):Option PV:=
 if ti.agg then(if off+ti.sz≤cells.length then some (.ag ((cells.drop off).take ti.sz))else none)else cells[off]?
def zz (cells:List PV)(off:Nat)(c:List PV):List PV:=cells.take off++c++cells.drop (off+c.length)
def Yh (place:Nat→Option (Nat×Nat))(cells:List PV):List (Nat×PV)→Option (List PV)
 |[]=>some cells
 | (i, p) :: rest => match place i with
  |some (off,size)=>if p.flat.length=size∧off+size≤cells.length∧p.flat.all PV.one then Yh place (zz cells off p.flat) rest else none
  |none=>none
def abinI (op:BinOp)(k:IntKind)(a b:Int):Option Value:=
 match op with
 | .add=>some (.int k (k.wrap (a+b)))
 | .sub=>some (.int k (k.wrap (a - b)))
 | .mul=>some (.int k (k.wrap (a*b)))
 | .quo=>if b=0 then none else some (.int k (k.wrap (a.tdiv b)))
 | .rem=>if b=0 then none else some (.int k (a.tmod b))
 | .eql=>some (.bool (decide (a=b)))
 | .neq=>some (.bool (!decide (a=b)))
 | .lss=>some (.bool (decide (a<b)))
 | .leq=>some (.bool (decide (a≤b)))
 | .gtr=>some (.bool (decide (b<a)))
 | .geq=>some (.bool (decide (b≤a)))
 |_=>none
def abinS (op:BinOp)(a b:ByteArray):Option Value:=
 match op with
 | .add=>if a.size+b.size≤9223372036854775807 then some (.string (a++b))else none
 | .eql=>some (.bool (decide (a=b)))
 | .neq=>some (.bool (!decide (a=b)))
 |_=>none
def eqC (tk:TK)(p q:PV):Option Bool:=match tk,p,q with
 | .int _,.v (.int k a),.v (.int k' b)=>if k=k' then some (decide (a=b))else none
 | .str,.v (.string a),.v (.string b)=>some (decide (a=b))
 | .bool,.v (.bool a),.v (.bool b)=>some (decide (a=b))
 |_,_,_=>none
def eqFs (T:TypeId→Option TI)(xs ys:List PV):List (Nat×TypeId)→Option Bool
 |[]=>some true
 | (o, ft) :: r => match T ft with
  | some ti => if ti.agg then none else match xs[o]?, ys[o]? with
   | some p, some q => match eqC ti.kind p q, eqFs T xs ys r with
    |some a,some b=>some (a&&b)
    |_,_=>none
   |_,_=>none
  |none=>none
def rowsOf:PV→Option (List (List PV))
 | .v (.slice none 0 0)=>some []
 | .e0=>some []
 | .sl rows=>some rows
 | .ow _ rows=>some rows
 |_=>none
def nilS (p:PV):Option PV:=match rowsOf p with
 |some []=>some .bb
 |some (_::_)=>some (.v (.bool false))
 |none=>none
def abin (T:TypeId→Option TI)(op:BinOp)(t:TypeId):PV→PV→Option PV
 | .ag xs, .ag ys => match T t with
  | some ⟨_, _, _, true, _, .st fs⟩ => match eqFs T xs ys fs with
   |some b=>(match op with| .eql=>some (.v (.bool b))| .neq=>some (.v (.bool !b))|_=>none)
   |none=>none
  |_=>none
 | .v (.int k a),.v (.int k' b)=>if k=k' then(abinI op k a b).map .v else none
 | .v (.string a),.v (.string b)=>(abinS op a b).map .v
 | .v (.bool a), .v (.bool b) => match T t with
  |some ⟨_,_,_,_,_,.bool⟩=>(match op with| .eql=>some (.v (.bool (decide (a=b))))| .neq=>some (.v (.bool (!decide (a=b))))|_=>none)
  |_=>none
 | p, .v (.slice none 0 0) => match T t, op with
  |some ⟨_,_,_,_,_,.slc _⟩,.eql=>nilS p
  |_,_=>none
 |_,_=>none
def aun (op:UnOp):PV→Option PV
 | .v (.int k n)=>match op with| .neg=>some (.v (.int k (k.wrap (0 - n))))|_=>none
 | .v (.bool b)=>match op with| .not=>some (.v (.bool !b))|_=>none
 |_=>none
def intOf? :PV→Option Int
 | .v (.int _ n)=>some n
 |_=>none
def ZE (sz:Nat)(n:Nat):List (Nat×PV)→List (List PV)→Option (List (List PV))
 |[],rows=>some rows
 |(i,p)::rest,rows=>if i<n∧p.flat.length=sz∧p.flat.all PV.one then ZE sz n rest (rows.set i p.flat)else none
def Z.pv:Z→PV
 | .sl=>.e0
 | .se=>.e0
 | .i k=>.v (.int k 0)
 |z=>.v z.val
def ZO (ti:TI):List PV:=ti.zero.map Z.pv
def zpv (ti:TI):PV:=if ti.agg then .ag (ZO ti)else(ZO ti).headD .any
def keyA (K:KK):PV→Option Value
 | .v (.string s)=>if K=.s then some (.string s)else none
 | .v (.int k n)=>if K=.i k then some (.int k n)else none
 |_=>none
def JY:TK→Option KK
 | .str=>some .s
 | .int k=>some (.i k)
 |_=>none
def strR:List (List PV)→Option (List UInt8)
 |[]=>some []
 |[.v (.int .u8 n)]::r=>(strR r).map fun l=>UInt8.ofNat n.toNat::l
 |_=>none
def qB (T:TypeId→Option TI)(t:TypeId)(s x:PV)(σ:Store):AR:=
 match T t with
 | some ⟨_, _, _, _, _, .slc e⟩ => match T e with
  | some ti => match rowsOf x with
   | some ns => if ns = [] then (match s with | .nv => .val .nv | .vc g len => (match σ[g]? with | some (some .hol) => if len = 0 then .val (.vc g len) else .bad | some (some (.vec _ _ n _)) => if n = len then .val (.vc g len) else .bad | _ => .bad) | s => match rowsOf s with | some _ => .val s | none => .bad) else
     if(∀r∈ns,r.length=ti.sz)∧0<ti.sz then
      (match s with
      | .v (.slice none 0 0)=>if ns.length*ti.bytes≤140737488355328∧ns.length≤140737488355328 then .eff (.ow σ.length ns) (σ++[some (.tok e ti.sz ns.length)])else .bad
      | .e0=>if ns.length*ti.bytes≤140737488355328∧ns.length≤140737488355328 then .eff (.ow σ.length ns) (σ++[some (.tok e ti.sz ns.length)])else .bad
      | .ow g rows => match σ[g]? with
       |some (some .hol)=>if rows=[]∧ns.length*ti.bytes≤140737488355328∧ns.length≤140737488355328 then .eff (.ow g ns) (σ.set g (some (.tok e ti.sz ns.length)))else .bad
       |some (some (.tok e' sz' len))=>if e'=e∧sz'=ti.sz∧len=rows.length∧(∀r∈rows,r.length=ti.sz)∧(len+ns.length)*ti.bytes≤140737488355328∧len+ns.length≤140737488355328 then .eff (.ow g (rows++ns)) (σ.set g (some (.tok e ti.sz (len+ns.length))))else .bad
       |_=>.bad
      | .nv=>if ns.length*ti.bytes≤140737488355328∧ns.length≤140737488355328 then .eff (.vc σ.length ns.length) (σ++[some (.vec e ti.sz ns.length ns.flatten)])else .bad
      | .vc g len => match σ[g]? with
       |some (some .hol)=>if len=0∧ns.length*ti.bytes≤140737488355328∧ns.length≤140737488355328 then .eff (.vc g ns.length) (σ.set g (some (.vec e ti.sz ns.length ns.flatten)))else .bad
       |some (some (.vec e' sz' n cells))=>if e'=e∧sz'=ti.sz∧n=len∧(len+ns.length)*ti.bytes≤140737488355328∧len+ns.length≤140737488355328 then .eff (.vc g (len+ns.length)) (σ.set g (some (.vec e ti.sz (len+ns.length) (cells++ns.flatten))))else .bad
       |_=>.bad
      |_=>.bad)
     else .bad
   |none=>.bad
  |none=>.bad
 |_=>.bad
def lenX (T:TypeId→Option TI)(t:TypeId)(x:PV)(σ:Store):AR:=
 match T t with
 | some ⟨_, _, _, _, _, .str⟩ => match x with
  | .v (.string s)=>.val (.v (.int .i64 s.size))
  |_=>.bad
 | some ⟨_, _, _, _, _, .slc _⟩ => match x with
  | .ms id _ len => match σ[id]? with
   |some (some (.box _ _))=>.val (.v (.int .i64 len))
   |_=>.bad
  | .nv=>.val (.v (.int .i64 0))
  | .vc id len => match σ[id]? with
   |some (some .hol)=>if len=0 then .val (.v (.int .i64 len))else .bad
   |some (some (.vec _ _ n _))=>if n=len then .val (.v (.int .i64 len))else .bad
   |_=>.bad
  | x => match rowsOf x with
   |some rows=>.val (.v (.int .i64 rows.length))
   |none=>.bad
 |_=>.bad
def Qd (T:TypeId→Option TI)(b:Builtin)(tys:Array TypeId)(args:List PV)(σ:Store):AR:=
 match b,args,tys.toList with
 | .len,[x],t::_=>lenX T t x σ
 | .min,[.v (.int k a),.v (.int k' b)],_=>if k=k' then .val (.v (.int k (if b<a then b else a)))else .bad
 | .max,[.v (.int k a),.v (.int k' b)],_=>if k=k' then .val (.v (.int k (if a<b then b else a)))else .bad
 | .append,[s,x],[t,t']=>if t=t' then qB T t s x σ else .bad
 |_,_,_=>.bad
noncomputable def ql (T:TypeId→Option TI)(o:Op)(env:Env)(σ:Store):AR:=
 match o with
 | .move x| .assign x=>.val (val env x)
 | .pick c a b => match val env c with
  | .v (.bool t)=>.val (if t then val env a else val env b)
  |_=>.bad
 | .alloc e => match T e with
  |some ti=>.new (.box e (ZO ti)) (fun n=>.pt n 0)
  |none=>.bad
 | .box e x=>if(val env x).flat.all PV.one then .new (.box e (val env x).flat) (fun n=>.pt n 0)else .bad
 | .load t a => match T t with
  | some ti => match val env a with
   | .pt id off => match σ[id]? with
    |some (some (.box _ cells))=>match zd ti cells off with|some p=>.val p|none=>.bad
    |_=>.bad
   | .rp row off=>match zd ti row off with|some p=>.val p|none=>.bad
   | .vq id len off => match σ[id]? with
    |some (some (.vec _ _ n cells))=>if n=len then(match zd ti cells off with|some p=>.val p|none=>.bad)else .bad
    |_=>.bad
   |_=>.bad
  |none=>.bad
 | .store t a x => match T t with
  | some ti => match val env a with
   | .pt id off => match σ[id]? with
    |some (some (.box bt cells))=>if(val env x).flat.length=ti.sz∧off+ti.sz≤cells.length∧(val env x).flat.all PV.one then .eff .any (σ.set id (some (.box bt (zz cells off (val env x).flat))))else .bad
    |_=>.bad
   | .vq id len off => match σ[id]? with
    |some (some (.vec et sz n cells))=>if n=len∧(val env x).flat.length=ti.sz∧off+ti.sz≤cells.length∧(val env x).flat.all PV.one then .eff .any (σ.set id (some (.vec et sz n (zz cells off (val env x).flat))))else .bad
    |_=>.bad
   |_=>.bad
  |none=>.bad
 | .fieldAddr s x f => match T s with
  | some ⟨_, _, _, _, _, .st fs⟩ => match fs[f]? with
   | some (off, ft) => match T ft with
    | some ti => if ti.sz = 0 then .bad else match val env x with
     | .pt id o=>match σ[id]? with|some (some (.box _ _))=>.val (.pt id (o+off))|_=>.bad
     | .rp row o=>.val (.rp row (o+off))
     | .vq id len o=>match σ[id]? with|some (some (.vec _ _ n _))=>if n=len then .val (.vq id len (o+off))else .bad|_=>.bad
     |_=>.bad
    |none=>.bad
   |none=>.bad
  |_=>.bad
 | .field s x f => match T s with
  | some ⟨_, _, _, _, _, .st fs⟩ => match fs[f]? with
   | some (off, ft) => match T ft, val env x with
    |some ti,.ag cells=>match zd ti cells off with|some p=>.val p|none=>.bad
    |_,_=>.bad
   |none=>.bad
  |_=>.bad
 | .indexAddr t x i => match T t with
  | some ⟨_, _, _, _, _, .slc e⟩ => match T e, intOf? (val env i) with
   | some ti, some n => if 0 ≤ n then (match val env x with
    | .ms id sz len=>match σ[id]? with|some (some (.box _ _))=>if n<len∧sz=ti.sz then .val (.pt id (n.toNat*sz))else .bad|_=>.bad
    | .vc id len=>match σ[id]? with|some (some (.vec _ sz m _))=>if n<len∧m=len∧sz=ti.sz then .val (.vq id len (n.toNat*sz))else .bad|_=>.bad
    | x => match rowsOf x with
     | some rows => match rows[n.toNat]? with
      |some row=>if row.length=ti.sz then .val (.rp row 0)else .bad
      |none=>.bad
     |none=>.bad)else .bad
   |_,_=>.bad
  | some ⟨_, _, _, _, _, .arr m e⟩ => match T e, intOf? (val env i), val env x with
   |some ti,some n,.pt id off=>(match σ[id]? with|some (some (.box _ _))=>if 0≤n∧n.toNat<m then .val (.pt id (off+n.toNat*ti.sz))else .bad|_=>.bad)
   |_,_,_=>.bad
  |_=>.bad
 | .index t x i => match T t, val env x, intOf? (val env i) with
  |some ⟨_,_,_,_,_,.str⟩,.v (.string s),some n=>if 0≤n then(match s.data.toList[n.toNat]? with|some b=>.val (.v (.int .u8 b.toNat))|none=>.bad)else .bad
  | some ⟨_, _, _, _, _, .arr len e⟩, .ag cells, some n => match T e with
   |some ti=>if 0≤n∧n<len then(match zd ti cells (n.toNat*ti.sz)with|some p=>.val p|none=>.bad)else .bad
   |none=>.bad
  |_,_,_=>.bad
 | .extract x i => match val env x with
  | .tu ps=>match ps[i]? with|some p=>.val p|none=>.bad
  |_=>.bad
 | .build t parts => match T t with
  | some ⟨_, _, _, _, zero, .st fs⟩ => match Yh (fun i => match fs[i]? with | some (off, ft) => (T ft).map fun ti => (off, ti.sz) | none => none) (zero.map Z.pv) (parts.toList.map fun q => (q.1, val env q.2)) with
   |some cells=>.val (.ag cells)
   |none=>.bad
  | some ⟨_, _, _, _, zero, .arr _ e⟩ => match T e with
   | some ti => match Yh (fun i => some (i * ti.sz, ti.sz)) (zero.map Z.pv) (parts.toList.map fun q => (q.1, val env q.2)) with
    |some cells=>.val (.ag cells)
    |none=>.bad
   |none=>.bad
  |_=>.bad
 | .buildSlice t n parts => match T t with
  | some ⟨_, _, _, _, _, .slc e⟩ => match T e with
   | some ti => if n = 0 then (if parts.size = 0 then .val .e0 else .bad) else if n * ti.sz ≤ 16777216 ∧ 0 < ti.sz then (match ZE ti.sz n (parts.toList.map fun q => (q.1, val env q.2)) (List.replicate n (ZO ti)) with
    |some rows=>.val (.sl rows)
    |none=>.bad)else .bad
   |none=>.bad
  |_=>.bad
 | .binOp op t x y _=>match abin T op t (val env x) (val env y)with|some p=>.val p|none=>.bad
 | .unOp op _ x=>match aun op (val env x)with|some p=>.val p|none=>.bad
 | .nilCheck x => match val env x with
  | .pt id o=>match σ[id]? with|some (some (.box _ _))=>.val (.pt id o)|_=>.bad
  | .rp row o=>.val (.rp row o)
  | .vq id len o=>match σ[id]? with|some (some (.vec _ _ n _))=>if n=len then .val (.vq id len o)else .bad|_=>.bad
  |_=>.bad
 | .makeFunc (.func f) first caps=>.val (.fn f (first.toList.map (val env)) (caps.toList.map (val env)))
 | .makeMap t none => match T t with
  | some ⟨_, _, _, _, _, .map k _⟩ => match (T k).bind fun tk => JY tk.kind with
   |some kk=>.new (.map kk (fun _=>none) 0) .mp
   |none=>.bad
  |_=>.bad
 | .convert s d x => match T s, T d, val env x with
  |some _,some ⟨_,_,_,_,_,.int k⟩,.v (.int _ n)=>.val (.v (.int k (k.wrap n)))
  | some _, some ⟨_, _, _, _, _, .slc e⟩, .v (.string s) => match T e with
   |some ⟨_,_,_,_,_,.int .u8⟩=>.val (.sl (s.data.toList.map fun b=>[.v (.int .u8 b.toNat)]))
   |_=>.bad
  | some ⟨_, _, _, _, _, .slc e⟩, some ⟨_, _, _, _, _, .str⟩, .sl rows => match T e, strR rows with
   |some ⟨_,_,_,_,_,.int .u8⟩,some l=>.val (.v (.string ⟨l.toArray⟩))
   |_,_=>.bad
  |_,_,_=>.bad
 | .slice t x lo hi none => match T t, val env x, (match lo with | some l => intOf? (val env l) | none => some 0) with
  | some ⟨_, _, _, _, _, .str⟩, .v (.string s), some l => match (match hi with | some h => intOf? (val env h) | none => some (s.size : Int)) with
   |some h=>if 0≤l∧l≤h∧h≤s.size then .val (.v (.string (s.extract l.toNat h.toNat)))else .bad
   |none=>.bad
  | some ⟨_, _, _, _, _, .slc e⟩, x, some l => match T e, rowsOf x with
   | some ti, some rows => match (match hi with | some h => intOf? (val env h) | none => some (rows.length : Int)) with
    |some h=>if 0≤l∧l≤h∧h≤rows.length∧(∀r∈rows,r.length=ti.sz)then .val (.sl ((rows.take h.toNat).drop l.toNat))else .bad
    |none=>.bad
   |_,_=>.bad
  |_,_,_=>.bad
 | .lookup t m x ok => match T t with
  | some ⟨_, _, _, _, _, .map k e⟩ => match T k, T e with
   | some tk, some te => match val env m with
    | .mp id => match σ[id]? with
     | some (some (.map kk mm _)) => match keyA kk (val env x) with
      |some key=>if JY tk.kind=some kk then(if ok then .val (.tu [(mm key).getD (zpv te),.v (.bool (mm key).isSome)])else .val ((mm key).getD (zpv te)))else .bad
      |none=>.bad
     |_=>.bad
    |_=>.bad
   |_,_=>.bad
  |_=>.bad
 | .mapUpdate t m x y => match T t with
  | some ⟨_, _, _, _, _, .map k e⟩ => match T k with
   | some tk => match val env m with
    | .mp id => match σ[id]? with
     | some (some (.map kk mm n)) => match keyA kk (val env x) with
      |some key=>if JY tk.kind=some kk∧n<140737488355328 then .eff .any (σ.set id (some (.map kk (upm mm key (val env y)) (n+1))))else .bad
      |none=>.bad
     |_=>.bad
    |_=>.bad
   |none=>.bad
  |_=>.bad
 | .call c => match c.callee with
  | .builtin b=>Qd T b c.argTypes (c.args.toList.map (val env)) σ
  | .value f => match val env f with
   | .fn g first caps=>.call g (first++c.args.toList.map (val env)++caps)
   |_=>.bad
  |_=>.bad
 |_=>.bad
end Go.Proofs.Ytohmmfimedgccaa.E
end
section
namespace Go.Proofs.Ytohmmfimedgccaa.E
set_option linter.unusedVariables false
set_option linter.unusedSimpArgs false
def upd (env:Env)(d:Option Tmp)(p:PV):Env:=match d with
 |some t=>fun x=>if x=t then p else env x
 |none=>env
inductive Wk:PV→PV→Prop
 |refl (p:PV):Wk p p
 |any (p:PV):Wk p .any
 |nil:Wk (.v (.slice none 0 0)) (.sl [])
 |nil0:Wk (.v (.slice none 0 0)) .e0
 |e0:Wk .e0 (.sl [])
 |nilv:Wk (.v (.slice none 0 0)) .nv
 |e0v:Wk .e0 .nv
 |nve:Wk .nv .e0
 |ow {t:Nat} {rows rows':List (List PV)}:Wk (.sl rows) (.sl rows')→Wk (.ow t rows) (.sl rows')
 |oo {t:Nat} {rows rows':List (List PV)}:rows.length=rows'.length→Wk (.sl rows) (.sl rows')→Wk (.ow t rows) (.ow t rows')
 |sl {rows rows':List (List PV)}:rows.length=rows'.length→(∀(i:Nat) r r',rows[i]? =some r→rows'[i]? =some r'→r.length=r'.length)→(∀(i j:Nat) r r' p q,rows[i]? =some r→rows'[i]? =some r'→r[j]? =some p→r'[j]? =some q→Wk p q)→Wk (.sl rows) (.sl rows')
 |ag {ps qs:List PV}:ps.length=qs.length→(∀(i:Nat) p q,ps[i]? =some p→qs[i]? =some q→Wk p q)→Wk (.ag ps) (.ag qs)
 |tu {ps qs:List PV}:ps.length=qs.length→(∀(i:Nat) p q,ps[i]? =some p→qs[i]? =some q→Wk p q)→Wk (.tu ps) (.tu qs)
theorem R.wk {σ:Store}{μ:Nat→Nat}{w:World}{p q:PV}(h:Wk p q):∀{x:Value},R σ μ w x p→R σ μ w x q:=by
 induction h with
 |refl p=>exact fun h=>h
 |any p=>exact fun h=>.any _
 |nil=>intro x h;cases h;exact .sl0 _ _
 |nil0=>intro x h;cases h;exact .e0 _
 |e0=>intro x h;cases h;exact .sl0 _ _
 |nilv=>intro x h;cases h;exact .nv _
 |e0v=>intro x h;cases h;exact .nv _
 |nve=>intro x h;cases h;exact .e0 _
 | ow hw ih =>
  intro x h;cases h with
  |ow _ _ _ h1 _ _ _=>exact ih h1
 | oo hl hw ih =>
  intro x h;cases h with
  |ow _ _ _ h1 h2 hq h3=>exact .ow _ _ _ (ih h1) h2 (fun hx=>⟨List.length_eq_zero_iff.1 (by rw[←hl,(hq hx).1];rfl),(hq hx).2⟩) fun e sz len hh=>by rw[←hl];exact h3 e sz len hh
 | @sl rows rows' hl h1 hw ih =>
  intro x h;cases h with
  | sl0 A c =>
   obtain rfl:rows'=[]:=List.length_eq_zero_iff.1 (by rw[←hl];rfl);exact .sl0 _ _
  | sl a c sz _ u k1 k2 k3 k4 k5 =>
   have hget:∀{i:Nat} {r'},rows'[i]? =some r'→∃r,rows[i]? =some r:=fun {i r'} hh=>⟨_,List.getElem?_eq_getElem (by rw[hl];exact(List.getElem?_eq_some_iff.1 hh).1)⟩;rw[hl];refine .sl a c sz rows' u (by rw[←hl];exact k1) (fun r' hr'=> ?_) (fun i j hi hj=>k3 i j (by rw[hl];exact hi) hj) (fun i j hi hj=>k4 i j (by rw[hl];exact hi) hj) fun i j r' q hr' hq=> ?_
   ·obtain⟨i,hi⟩:=List.getElem?_of_mem hr';obtain⟨r,hr⟩:=hget hi;rw[←h1 i r r' hr hi];exact k2 r (List.mem_of_getElem? hr)
   ·obtain⟨r,hr⟩:=hget hr';have hj:j<r.length:=by rw[h1 i r r' hr hr'];exact(List.getElem?_eq_some_iff.1 hq).1
    exact ih i j r r' _ q hr hr' (List.getElem?_eq_getElem hj) hq (k5 i j r _ hr (List.getElem?_eq_getElem hj))
 | ag hl hw ih =>
  intro x h;cases h with
  | ag vs _ k1 k2 k3 =>
   refine .ag vs _ (by rw[k1,hl]) k2 fun i y q hy hq=> ?_;have hi:=(List.getElem?_eq_some_iff.1 hq).1;exact ih i _ q (List.getElem?_eq_getElem (by omega)) hq (k3 i y _ hy (List.getElem?_eq_getElem (by omega)))
 | tu hl hw ih =>
  intro x h;cases h with
  | tu vs _ k1 k3 =>
   refine .tu vs _ (by rw[k1,hl]) fun i y q hy hq=> ?_;have hi:=(List.getElem?_eq_some_iff.1 hq).1;exact ih i _ q (List.getElem?_eq_getElem (by omega)) hq (k3 i y _ hy (List.getElem?_eq_getElem (by omega)))
def WkE (e e':Env):Prop:=∀t,Wk (e t) (e' t)
theorem WkE.refl (e:Env):WkE e e:=fun t=>.refl _
def CT (P:Program)(f:FuncId)(vs:Array Value)(w:World)(Q:Value→World→Prop):Prop:=
 ((callFunc f vs).run P w=.ok (.enter f vs) w∧Calls P f vs w (fun e w'=>∃x,e=.returned x∧Q x w'))∨(∃x w',(callFunc f vs).run P w=.ok (.value x) w'∧Q x w')
def ECs (P:Program)(f:FuncId)(args:List PV)(σ:Store)(K:PV→Store→Prop):Prop:=
 ∀μ w vs,SR σ μ w→RL σ μ w vs args→CT P f vs w fun x w'=>∃r σ' μ',Ext σ μ w σ' μ' w'∧SR σ' μ' w'∧R σ' μ' w' x r∧K r σ'
def ovc (F:Nat→Option AObj)(i:Nat)(o:Option AObj):Option AObj:=match o,F i with
 |some .res,some ob=>some ob
 |o,_=>o
def ov (σ:Store)(F:Nat→Option AObj):Store:=σ.mapIdx (ovc F)
def Fok (σ:Store)(F:Nat→Option AObj):Prop:=∀(i:Nat) ob,F i=some ob→σ[i]? =some (some .res)∧ob≠ .res
def qr (σ σ':Store):Prop:=∀i:Nat,σ[i]? =some (some AObj.res)→σ'[i]? =some (some AObj.res)
def EC (P:Program)(f:FuncId)(args:List PV)(σ:Store)(K:PV→Store→Prop):Prop:=
 (∃r s,qr σ s∧K r s)∧∀F,Fok σ F→ECs P f args (ov σ F) fun r s=>∃s0,s=ov s0 F∧qr σ s0∧K r s0
def Gh (e:Env)(s:Store)(e2:Env)(s2:Store):Prop:=
 qr s s2∧∀F,Fok s F→∀μ w,SR (ov s F) μ w→∃μ2,Ext (ov s F) μ w (ov s2 F) μ2 w∧SR (ov s2 F) μ2 w∧∀t v,R (ov s F) μ w v (e t)→R (ov s2 F) μ2 w v (e2 t)
theorem Gh.wk {e e2:Env}{s:Store}(h:WkE e e2):Gh e s e2 s:=⟨fun _ h=>h,fun F _ μ w hs=>⟨μ,Ext.refl _ _ _,hs,fun t v hr=>hr.wk (h t)⟩⟩
theorem Gh.refl (e:Env)(s:Store):Gh e s e s:=.wk (.refl e)
inductive X where
 |nrm|ext (id:Nat)|ret
def zk (ops:Array Oper)(o:Oper)(e:Env):Option Bool:=
 match o.guard with
 |none=>some true
 | some (j, want) => match (ops[j]?).bind (·.dst) with
  | some t => match e t with
   | .v (.bool b)=>some (b==want)
   | .tu []=>some false
   |_=>none
  |none=>none
section
variable (P:Program) (T:TypeId→Option TI)
noncomputable def QC (o:Oper)(e:Env)(s:Store)(K:Env→Store→Prop):Prop:=
 match ql T o.op e s with
 | .val p=>K (upd e o.dst p) s
 | .new ob mk=>K (upd e o.dst (mk s.length)) (s++[some ob])
 | .eff p s'=>K (upd e o.dst p) s'
 | .call f args=>EC P f args s (fun r s'=>K (upd e o.dst r) s')
 | .bad=>False
noncomputable def Qb (ops:Array Oper):List Oper→Env→Store→(Env→Store→Prop)→Prop
 |[],e,s,K=>K e s
 | o :: rest, e0, s, K => ∃ e, WkE e0 e ∧ match zk ops o e with
  |some true=>QC P T o e s (fun e' s'=>Qb ops rest e' s' K)
  |some false=>Qb ops rest (upd e o.dst (.tu [])) s K
  |none=>False
def zq:Op→Bool
 | .store .. | .mapUpdate .. =>true
 | .call c=>match c.callee with| .builtin .append=>true| .builtin _=>false|_=>true
 |_=>false
def zy:Op→Bool
 | .alloc _| .box .. | .makeMap .. | .makeSlice .. =>true
 |_=>false
def qM (ops:Array Oper)(i:Nat):Nat:=((ops.toList.take i).filter fun o=>zy o.op).length
def QB (ops:Array Oper):Nat:=(ops.toList.filter fun o=>zy o.op).length
def Zp (ops:Array Oper):Nat→Nat→Nat→Bool
 |0,_,_=>false
 | n + 1, j, k => match ops[j]? with
  |some o=>o.after.toList.any fun e=>Region.binds .any e&&(e.on==k||Zp ops n e.on k)
  |none=>false
def chkD (ops:Array Oper):Bool:=Region.lexB .any ops&&(List.range ops.size).all fun j=>(List.range j).all fun k=>match ops[k]?,ops[j]? with
 |some ok,some oj=> !((zq ok.op||zy ok.op)&&zq oj.op)||Zp ops ops.size j k
 |_,_=>true
def seen (σ:Store)(id:Nat)(o:AObj):Prop:=σ[id]? =some (some o)∧o≠ .res
def sub (H s:Store):Prop:=∀i o,seen H i o→seen s i o
noncomputable def zS (H:Store)(base:Nat)(o:Oper)(i:Nat)(e:Env)(s:Store)(K:Env→Store→Prop):Prop:=
 if zq o.op then(match ql T o.op e s with
  | .val p=>K (upd e o.dst p) s
  | .eff p s'=>sub H s'∧K (upd e o.dst p) s'
  | .call f args=>EC P f args s (fun r s'=>sub H s'∧K (upd e o.dst r) s')
  |_=>False)
 else(match ql T o.op e H with
  | .val p=>K (upd e o.dst p) s
  | .new ob mk=>K (upd e o.dst (mk (base+i))) (s.set (base+i) (some ob))
  |_=>False)
noncomputable def zb (ops:Array Oper)(H:Store)(base:Nat)(i:Nat)(o:Oper)(e:Env)(s:Store)(K:Env→Store→Prop):Prop:=
 match zk ops o e with
 |some true=>zS P T H base o (qM ops i) e s K
 |some false=>K (upd e o.dst (.tu [])) s
 |none=>False
noncomputable def JF (ops:Array Oper)(H:Store)(base:Nat):List Oper→Nat→Env→Store→(Env→Store→Prop)→Prop
 |[],_,e,s,K=>K e s
 |o::rest,i,e,s,K=>zb P T ops H base i o e s fun e s=>JF ops H base rest (i+1) e s K
def qF (ops:Array Oper)(k:Nat):Array Oper:=(ops.toList.take k).toArray
def chkB (ops:Array Oper)(k:Nat):Bool:=(List.range ops.size).all fun j=>(match ops[j]? with|some o=>o.after.toList.all fun e=> !Region.binds .any e||decide (e.on<j)|none=>true)&&(decide (j<k)||(List.range j).all fun i=>Zp ops ops.size j i)
def Yb (ops:Array Oper)(k:Nat):Bool:=decide (k≤ops.size)&&(List.range ops.size).all fun j=>(match ops[j]? with|some o=>o.after.toList.all fun e=> !Region.binds .any e||decide (e.on<j)|none=>true)&&(decide (j<k)||(List.range k).all fun i=>Zp ops ops.size j i)
def upTo (ops:Array Oper)(k:Nat):Array Bool:=((List.range ops.size).map fun j=>decide (j<k)).toArray
noncomputable def zR (ops:Array Oper)(K:Env→Store→Prop):Nat→Array Bool→Env→Store→Prop
 |0,listed,e,s=>Region.ready .any ops listed=[]∧K e s
 |fuel+1,listed,e,s=>(Region.ready .any ops listed=[]→K e s)∧∀i∈Region.ready .any ops listed,Qb P T ops (ops[i]?).toList e s (zR ops K fuel (listed.setIfInBounds i true))
def Js (ops:Array Oper)(k:Nat)(e:Env)(s:Store)(K:Env→Store→Prop):Prop:=
 (chkB ops k=true∧Qb P T ops (ops.toList.drop k) e s K)∨zR P T ops K (ops.size - k) (upTo ops k) e s
noncomputable def JW (ops:Array Oper)(e:Env)(s:Store)(K:Env→Store→Prop):Prop:=
 P.follows .mixedOrders=true∧∃k,Yb ops k=true∧chkD (qF ops k)=true∧∃H,sub H (s++List.replicate (QB (qF ops k)) (some .res))∧
  JF P T (qF ops k) H s.length (qF ops k).toList 0 e (s++List.replicate (QB (qF ops k)) (some .res)) (fun e s=>Js P T ops k e s K)
def Lp (F:Env→Store→(X→Env→Store→Prop)→Prop)(e:Env)(s:Store)(K:X→Env→Store→Prop):Prop:=
 ∀I:Env→Store→Prop,(∀e s,F e s (fun x e' s'=>match x with| .nrm=>I e' s'|x=>K x e' s')→I e s)→I e s
noncomputable def ev:Code→Env→Store→(X→Env→Store→Prop)→Prop
 | .skip,e,s,K=>K .nrm e s
 | .label _,e,s,K=>K .nrm e s
 | .region _ ops false,e,s,K=>Qb P T ops ops.toList e s (K .nrm)
 | .region _ ops true,e,s,K=>JW P T ops e s (K .nrm)
 | .seq a b,e,s,K=>ev a e s (fun x e' s'=>match x with| .nrm=>∃e2 s2,Gh e' s' e2 s2∧ev b e2 s2 K|x=>K x e' s')
 | .cond c a b, e, s, K => match val e c with
  | .v (.bool t)=>if t then ev a e s K else ev b e s K
  | .bb=>ev a e s K∧ev b e s K
  |_=>False
 | .block id c,e,s,K=>ev c e s (fun x e' s'=>match x with| .ext i=>if i=id then K .nrm e' s' else K (.ext i) e' s'|x=>K x e' s')
 | .loop c,e,s,K=>Lp (fun e s K=>∃e2 s2,Gh e s e2 s2∧ev c e2 s2 K) e s K
 | .exit id,e,s,K=>K (.ext id) e s
 | .scope c,e,s,K=>ev c e s K
 | .ret,e,s,K=>K .ret e s
 |_,_,_,_=>False
end
def qu (args:List PV):Env:=fun t=>args.getD t .any
def Yy (T:TypeId→Option TI)(rs:Array ResultVar)(e:Env)(s:Store):Option PV:=
 let one (r:ResultVar):Option PV:=match r with
  | .tmp t=>some (e t)
  | .cell a t => match T t, e a with
   | some ti, .pt id off => match s[id]? with
    |some (some (.box _ cells))=>zd ti cells off
    |_=>none
   |_,_=>none
 match rs.toList.mapM one with
 |some [p]=>some p
 |some ps=>some (.tu ps)
 |none=>none
theorem Jw (e:Env)(t:Tmp)(p:PV)(x:Nat):upd e (some t) p x=if x=t then p else e x:=rfl
theorem upd_none (e:Env)(p:PV):upd e none p=e:=rfl
theorem argE_at (args:List PV)(t:Nat):qu args t=args.getD t .any:=rfl
section
variable {σ σ':Store} {μ μ':Nat→Nat} {w w':World}
theorem ORep.ext (hs:SR σ μ w)(h:Ext σ μ w σ' μ' w'){g:Nat}{o:AObj}(hb:w'.heap[g]? =w.heap[g]?)(ho:ORep σ μ w g o):ORep σ' μ' w' g o:=by
 cases o with
 |res=>trivial
 |hol=>trivial
 | box t cells =>
  obtain⟨cs,h1,h2,h3,h4⟩:=ho;exact⟨cs,hb.trans h1,h2,h3,fun i x p hx hp=>(h4 i x p hx hp).ext hs h⟩
 | tok e sz len =>
  obtain⟨cs,h1⟩:=ho;exact⟨cs,hb.trans h1⟩
 | vec e sz len cells =>
  obtain⟨cs,h1,h2,h3,h4,h5⟩:=ho;exact⟨cs,hb.trans h1,h2,h3,h4,fun i x p hx hp=>(h5 i x p hx hp).ext hs h⟩
 | map kk m n =>
  obtain⟨es,clock,h1,h2,h3,h4,h5⟩:=ho;exact⟨es,clock,hb.trans h1,h2,h3,fun i e he=>by
   obtain⟨k0,p,k1,k2⟩:=h4 i e he;exact⟨k0,p,k1,k2.ext hs h⟩,h5⟩
theorem Qa.same {o:AObj}{id:Nat}(hne:o≠ .res∧o≠ .hol)(hm:μ' id=μ id)(hb:w'.heap[μ id]? =w.heap[μ id]?):Qa μ μ' w w' id o o:=by
 cases o with
 |res=>exact absurd rfl hne.1
 |hol=>exact absurd rfl hne.2
 |box t c=>exact hm
 |map kk m n=>exact hm
 |tok e sz len=>exact⟨rfl,rfl,Nat.le_refl _,fun _=>⟨hm,hb⟩⟩
 |vec e sz len c=>exact⟨rfl,rfl,Nat.le_refl _,fun _=>⟨hm,.eq hb⟩⟩
theorem JE (hs:SR σ μ w)(hw:w.grownBy w' none):Ext σ μ w σ μ w' where
 os:=hw.os
 tape:=hw.tape
 output:=hw.output
 size:=hw.size
 len:=Nat.le_refl _
 known:=fun _ h=>h
 keep:=fun g hg _=>hw.block g hg (by simp)
 tok:=fun id e sz len cur hl hc=>⟨cur,(hw.block _ (hs.lt hl) (by simp)).trans hc,fun _ _=>rfl⟩
 hol:=fun _ _ h=>h
 evo:=fun id o' hk hl=>.inl ⟨o',hl,Qa.same hl.2 rfl (hw.block _ (hs.lt hl) (by simp))⟩
 fresh:=fun id o' hl=>.inl ⟨hl.known,rfl⟩
theorem qqN (hs:SR σ μ w)(hw:w.grownBy w' none):SR σ μ w':=
 ⟨hs.inj,fun i o hl=>(hs.obj i o hl).ext hs (JE hs hw) (hw.block _ (hs.lt hl) (by simp))⟩
structure NewAt (σ σ':Store)(id:Nat)(ob:AObj):Prop where
 len:σ.length≤σ'.length
 old:∀i o,live σ' i o→(i≠id∧live σ i o)∨(i=id∧o=ob)
 knw:∀i,known σ i→known σ' i
 new:¬known σ id
 live:live σ' id ob
 hol:∀i,E.known σ i→zV σ' i→zV σ i
def μp (id:Nat)(μ:Nat→Nat)(g:Nat):Nat→Nat:=fun i=>if i=id then g else μ i
theorem μp_new {id g:Nat}:μp id μ g id=g:=if_pos rfl
theorem μp_old {id g i:Nat}(h:i≠id):μp id μ g i=μ i:=if_neg h
theorem qqB {ob:AObj}{id:Nat}{o:AObj}(h:live (σ++[some ob]) id o):(id<σ.length∧live σ id o)∨(id=σ.length∧o=ob):=by
 obtain⟨h1,h2⟩:=h;by_cases hid:id<σ.length
 ·rw[List.getElem?_append_left hid]at h1;exact .inl ⟨hid,h1,h2⟩
 ·rw[List.getElem?_append_right (by omega)]at h1
  match hk:id - σ.length,h1 with
  | 0, h1 =>
   simp at h1;exact .inr ⟨by omega,h1.symm⟩
  |n+1,h1=>simp at h1
theorem zzr {o':Option AObj}{id:Nat}(h:known σ id):known (σ++[o']) id:=
 ⟨by simp;have:=h.1;omega,by rw[List.getElem?_append_left h.1];exact h.2⟩
theorem zzd {ob:AObj}(hne:ob≠ .res∧ob≠ .hol):live (σ++[some ob]) σ.length ob:=
 ⟨by rw[List.getElem?_append_right (Nat.le_refl _)];simp,hne⟩
theorem NewAt.push (σ:Store){ob:AObj}(hne:ob≠ .res∧ob≠ .hol):NewAt σ (σ++[some ob]) σ.length ob where
 len:=by simp
 old:=fun i o h=>by
  rcases qqB h with⟨h1,h2⟩|h
  ·exact .inl ⟨by omega,h2⟩
  ·exact .inr h
 knw:=fun i h=>zzr h
 new:=fun h=>absurd h.1 (by omega)
 live:=zzd hne
 hol:=fun i hk hh=>by
  unfold zV at hh ⊢
  rwa [List.getElem?_append_left hk.1]at hh
theorem YW (hs:SR σ μ w){id:Nat}{ob:AObj}(hn:NewAt σ σ' id ob){g:Nat}(hg:w.heap.size≤g)(hw:w.grownBy w' none):Ext σ μ w σ' (μp id μ g) w' where
 os:=hw.os
 tape:=hw.tape
 output:=hw.output
 size:=hw.size
 len:=hn.len
 known:=hn.knw
 keep:=fun g hg _=>hw.block g hg (by simp)
 tok:=fun id e sz len cur hl hc=>⟨cur,(hw.block _ (hs.lt hl) (by simp)).trans hc,fun _ _=>rfl⟩
 hol:=hn.hol
 evo:=fun i o' hk hl=>by
  rcases hn.old i o' hl with⟨h1,h2⟩|⟨h1,h2⟩
  ·exact .inl ⟨o',h2,Qa.same h2.2 (μp_old h1) (hw.block _ (hs.lt h2) (by simp))⟩
  ·exact absurd (h1▸hk) hn.new
 fresh:=fun i o' hl=>by
  rcases hn.old i o' hl with⟨h1,h2⟩|⟨h1,h2⟩
  ·exact .inl ⟨h2.known,μp_old h1⟩
  ·exact .inr (by rw[h1,μp_new];exact hg)
theorem sr_new (hs:SR σ μ w){id:Nat}{ob:AObj}(hn:NewAt σ σ' id ob){g:Nat}(hg:w.heap.size≤g)(hw:w.grownBy w' none)(hob:ORep σ' (μp id μ g) w' g ob):SR σ' (μp id μ g) w':=by
 refine⟨fun i j o o' hi hj he=> ?_,fun i o hl=> ?_⟩
 ·rcases hn.old i o hi with⟨h1,h2⟩|⟨h1,h2⟩<;>rcases hn.old j o' hj with⟨h3,h4⟩|⟨h3,h4⟩
  ·rw[μp_old h1,μp_old h3]at he;exact hs.inj i j _ _ h2 h4 he
  ·rw[μp_old h1,h3,μp_new]at he;have:=hs.lt h2;omega
  ·rw[μp_old h3,h1,μp_new]at he;have:=hs.lt h4;omega
  ·omega
 ·rcases hn.old i o hl with⟨h1,h2⟩|⟨h1,h2⟩
  ·rw[μp_old h1];exact(hs.obj i o h2).ext hs (YW hs hn hg hw) (hw.block _ (hs.lt h2) (by simp))
  ·rw[h1,h2,μp_new];exact hob
theorem za {id:Nat}{o o':AObj}{i:Nat}(h:live (σ.set id (some o')) i o):(i≠id∧live σ i o)∨(i=id∧o=o'∧id<σ.length):=by
 obtain⟨h1,h2⟩:=h;rw[List.getElem?_set]at h1;by_cases hi:id=i
 ·rw[if_pos hi]at h1;split at h1
  ·rename_i hlt;injection h1 with h1;injection h1 with h1;exact .inr ⟨hi.symm,h1.symm,by omega⟩
  ·cases h1
 ·rw[if_neg hi]at h1;exact .inl ⟨fun e=>hi e.symm,h1,h2⟩
theorem Zl {id:Nat}{o':AObj}(hlt:id<σ.length)(hne:o'≠ .res∧o'≠ .hol):live (σ.set id (some o')) id o':=⟨by rw[List.getElem?_set_self hlt],hne⟩
theorem JR {id:Nat}{o':AObj}(hne:o'≠ .res){i:Nat}(h:known σ i):known (σ.set id (some o')) i:=by
 refine⟨by simpa using h.1,?_⟩;rw[List.getElem?_set];split
 ·split
  ·intro e;injection e with e;injection e with e;exact hne e
  ·simp
 ·exact h.2
theorem YV {id:Nat}{o':AObj}{i:Nat}(h:zV (σ.set id (some o')) i)(hne:o'≠ .hol):zV σ i:=by
 unfold zV at h ⊢;rw[List.getElem?_set]at h;split at h
 ·split at h
  ·injection h with h;injection h with h;exact absurd h hne
  ·cases h
 ·exact h
theorem Jl (hs:SR σ μ w){id:Nat}{o o':AObj}(hl:live σ id o)(hne:o'≠ .res∧o'≠ .hol)(hev:Qa μ μ w w' id o o')(hw:w.grownBy w' (some (μ id)))
  (hown:∀e sz len cur,o=.tok e sz len→w.heap[μ id]? =some (.cells cur e (0,0))→∃cur',w'.heap[μ id]? =some (.cells cur' e (0,0))∧∀j,j<sz*len→cur'[j]? =cur[j]?):Ext σ μ w (σ.set id (some o')) μ w':=by
 have hblk:∀i oi,live σ i oi→i≠id→w'.heap[μ i]? =w.heap[μ i]? :=fun i oi hi hne=>hw.block _ (hs.lt hi) (fun e=>hne (hs.inj i id _ _ hi hl (by injection e)));refine⟨hw.os,hw.tape,hw.output,hw.size,by simp,fun _ h=>JR hne.1 h,fun g hg hn=>hw.block g hg (fun e=>hn id o hl (by injection e with e;exact e.symm)),fun i e sz len cur hi hc=> ?_,fun i _ hh=>YV hh hne.2,fun i oi hk hi=> ?_,fun i oi hi=> ?_⟩
 ·by_cases he:i=id
  ·subst he;exact hown e sz len cur (hl.eq hi) hc
  ·exact⟨cur,(hblk i _ hi he).trans hc,fun _ _=>rfl⟩
 ·rcases za hi with⟨h1,h2⟩|⟨h1,h2,_⟩
  ·exact .inl ⟨oi,h2,Qa.same h2.2 rfl (hblk i _ h2 h1)⟩
  ·subst h1 h2;exact .inl ⟨o,hl,hev⟩
 ·rcases za hi with⟨h1,h2⟩|⟨h1,h2,_⟩
  ·exact .inl ⟨h2.known,rfl⟩
  ·subst h1;exact .inl ⟨hl.known,rfl⟩
theorem JL (hs:SR σ μ w){id:Nat}{o o':AObj}(hl:live σ id o)(he:Ext σ μ w (σ.set id (some o')) μ w')(hw:w.grownBy w' (some (μ id)))(hob:ORep (σ.set id (some o')) μ w' (μ id) o'):SR (σ.set id (some o')) μ w':=by
 refine⟨fun i j oi oj hi hj hm=> ?_,fun i oi hi=> ?_⟩
 ·have hi':∃o,live σ i o:=by
   rcases za hi with⟨_,h⟩|⟨h,_⟩
   ·exact⟨_,h⟩
   ·exact⟨o,h▸hl⟩
  have hj':∃o,live σ j o:=by
   rcases za hj with⟨_,h⟩|⟨h,_⟩
   ·exact⟨_,h⟩
   ·exact⟨o,h▸hl⟩
  obtain⟨_,hi'⟩:=hi';obtain⟨_,hj'⟩:=hj';exact hs.inj i j _ _ hi' hj' hm
 ·rcases za hi with⟨h1,h2⟩|⟨h1,h2,_⟩
  ·exact(hs.obj i oi h2).ext hs he (hw.block _ (hs.lt h2) (fun e=>h1 (hs.inj i id _ _ h2 hl (by injection e))))
  ·subst h1 h2;exact hob
end
section
variable {P:Program} {T:TypeId→Option TI} {σ σ':Store} {μ μ':Nat→Nat} {w w':World}
def Good (P:Program)(σ:Store)(μ:Nat→Nat)(w:World)(s:Sem Next)(p:PV)(σ':Store):Prop:=
 ∃nx x w' μ',s.run P w=.ok nx w'∧(nx=.value x∨(nx=.skip∧x=undef))∧Ext σ μ w σ' μ' w'∧SR σ' μ' w'∧R σ' μ' w' x p
theorem Good.val {s:Sem Value}{x:Value}{p:PV}(hs:SR σ μ w)(hr:s.run P w=.ok x w)(hp:R σ μ w x p):Good P σ μ w (do pure (.value (←s))) p σ:=
 ⟨.value x,x,w,μ,by simp[hr],.inl rfl,Ext.refl _ _ _,hs,hp⟩
theorem QJ {t:TypeId}{ti:TI}(h:TOK P t ti):(sizeOf t).run P w=.ok ti.sz w:=by
 obtain⟨i,z,h1,h2,_⟩:=h.info;simp[sizeOf,typeInfo,h1,h2]
theorem tok_und {t:TypeId}{ti:TI}(h:TOK P t ti):∃d,(underlying t).run P w=.ok d w∧P.underlying t=some d∧tk d=ti.kind∧aggD d=ti.agg:=by
 obtain⟨d,h1,h2,h3⟩:=h.und;exact⟨d,by simp[underlying,h1],h1,h2,h3⟩
theorem qqK {t:TypeId}{ti:TI}(h:TOK P t ti):(isAgg t).run P w=.ok ti.agg w:=by
 obtain⟨d,h1,h2,h3,h4⟩:=tok_und (w:=w) h;simp only[isAgg,Sem.run_bind,h1,Result.andThen_ok];cases d<;>simp_all [aggD]
theorem tok_zero {t:TypeId}{ti:TI}(h:TOK P t ti):∃z,(zeroValue t).run P w=.ok z w∧z.cells.toList=ti.zero.map Z.val∧(ti.agg=true→∃cs,z=.agg cs)∧(ti.agg=false→z.oneCell'=true∧∃q,ti.zero=[q]):=by
 obtain⟨i,z,h1,h2,h3,h4,h5,h6,h7⟩:=h.info;exact⟨z,by simp[zeroValue,typeInfo,h1,h4],h5,h6,h7⟩
theorem R_zero (z:Z):R σ μ w z.val (.v z.val):=.v _ z.one
theorem add_add (a:Addr)(i j:Nat):(a.add i).add j=a.add (i+j):=by
 unfold Addr.add;by_cases hi:i=0
 ·subst hi;simp
 ·by_cases hj:j=0
  ·subst hj;simp
  ·simp[hi,hj,Nat.add_assoc]
theorem add_blk (a:Addr)(i:Nat):(a.add i).block=a.block:=by unfold Addr.add;split<;>rfl
theorem zX (g o n:Nat):(⟨g,o,none⟩:Addr).add n=⟨g,o+n,none⟩:=by unfold Addr.add;split<;>simp_all
theorem rng {n:Nat}{f:Nat→Value}{i:Nat}{x:Value}(h:(((List.range n).map f).toArray)[i]? =some x):i<n∧x=f i:=by
 rw[List.getElem?_toArray,List.getElem?_map]at h;by_cases hi:i<n
 ·rw[List.getElem?_range hi]at h;exact⟨hi,by simpa using h.symm⟩
 ·rw[List.getElem?_eq_none (by simp;omega)]at h;cases h
theorem qqj {t:TypeId}{ti:TI}(ht:TOK P t ti){a:Addr}{cells:List PV}{off:Nat}{p:PV}{u:Nat→Value}(hc:∀j,j<cells.length→w.cell? (a.add j)=some (u j))(h1:∀j,j<cells.length→(u j).oneCell'=true)
  (hr:∀j q,cells[j]? =some q→R σ μ w (u j) q) (hp:zd ti cells off=some p):∃x,(loadVar t (a.add off)).run P w=.ok x w∧R σ μ w x p:=by
 unfold zd at hp;by_cases hagg:ti.agg=true
 ·rw[if_pos hagg]at hp;split at hp
  ·rename_i hle;injection hp with hp;subst hp;have hl:=run_loadCells (P:=P) w (a.add off) ti.sz (fun j=>u (off+j)) (fun j hj=>by rw[add_add];exact hc _ (by omega));refine⟨.agg ((List.range ti.sz).map fun j=>u (off+j)).toArray,?_,?_⟩
   ·simp only[loadVar,Sem.run_bind,qqK ht,hagg,Result.andThen_ok,if_true,Sem.run_ite,QJ ht,hl,Sem.run_pure]
   ·refine .ag _ _ (by simp;omega) (fun i x hx=> ?_) fun i x q hx hq=> ?_
    ·obtain⟨hi,rfl⟩:=rng hx;exact h1 _ (by omega)
    ·obtain⟨hi,rfl⟩:=rng hx;rw[List.getElem?_take_of_lt hi,List.getElem?_drop]at hq;exact hr _ _ hq
  ·cases hp
 ·have hagg':ti.agg=false:=by simpa using hagg
  rw[if_neg hagg]at hp;have hlt:=(List.getElem?_eq_some_iff.1 hp).1;refine⟨u off,?_,hr _ _ hp⟩;simp only[loadVar,Sem.run_bind,qqK ht,hagg',Result.andThen_ok,Bool.false_eq_true,if_false,Sem.run_ite,run_load,hc off hlt]
theorem obj_cells (hs:SR σ μ w){id:Nat}{bt:TypeId}{cells:List PV}(hl:live σ id (.box bt cells)):∃cs:Array Value,w.heap[μ id]? =some (.cells cs bt (0,0))∧cs.size=cells.length∧
  (∀j,j<cells.length→w.cell? ((⟨μ id,0,none⟩:Addr).add j)=some (cs.getD j undef))∧(∀j,j<cells.length→(cs.getD j undef).oneCell'=true)∧(∀j q,cells[j]? =some q→R σ μ w (cs.getD j undef) q):=by
 obtain⟨cs,h1,h2,h3,h4⟩:=hs.obj id _ hl;refine⟨cs,h1,h2,fun j hj=> ?_,fun j hj=> ?_,fun j q hq=> ?_⟩
 ·rw[zX];simp only[World.cell?,h1,Nat.zero_add,Option.isSome_none,Bool.false_eq_true,if_false];rw[Array.getElem?_eq_getElem (by omega),Array.getD_eq_getD_getElem?,Array.getElem?_eq_getElem (by omega)];rfl
 ·have hx:cs[j]? =some (cs.getD j undef):=by rw[Array.getElem?_eq_getElem (by omega),Array.getD_eq_getD_getElem?,Array.getElem?_eq_getElem (by omega)];rfl
  exact h3 j _ hx
 ·have hlt:=(List.getElem?_eq_some_iff.1 hq).1;have hx:cs[j]? =some (cs.getD j undef):=by rw[Array.getElem?_eq_getElem (by omega),Array.getD_eq_getD_getElem?,Array.getElem?_eq_getElem (by omega)];rfl
  exact h4 j _ q hx hq
theorem load_pt (hs:SR σ μ w){t:TypeId}{ti:TI}(ht:TOK P t ti){id off:Nat}{bt:TypeId}{cells:List PV}{x:Value}{p:PV}(hx:R σ μ w x (.pt id off))(ho:σ[id]? =some (some (.box bt cells)))(hp:zd ti cells off=some p):
  ∃y,(Instr.loadAt t x).run P w=.ok y w∧R σ μ w y p:=by
 have hl:live σ id (.box bt cells):=⟨ho,by simp⟩;cases hx with
 | pt _ _ _ _ _ h3 =>
  obtain rfl:=h3 ⟨_,_,hl⟩;obtain⟨cs,_,_,h4,h5,h6⟩:=obj_cells hs hl;obtain⟨y,h7,h8⟩:=qqj ht h4 h5 h6 hp;rw[zX]at h7;exact⟨y,by simpa [Instr.loadAt,Instr.sureAddr] using h7,h8⟩
theorem load_rp {t:TypeId}{ti:TI}(ht:TOK P t ti){row:List PV}{off:Nat}{x:Value}{p:PV}(hx:R σ μ w x (.rp row off))(hp:zd ti row off=some p):∃y,(Instr.loadAt t x).run P w=.ok y w∧R σ μ w y p:=by
 cases hx with
 | rp b _ _ u h1 h2 h3 =>
  obtain⟨y,h7,h8⟩:=qqj ht (fun j hj=>(h1 j hj).1) h2 h3 hp;exact⟨y,by simpa [Instr.loadAt,Instr.sureAddr] using h7,h8⟩
theorem Yw {g:Nat}{cs:Array Value}(hlt:g<w.heap.size):w.grownBy (w.setRow g cs) (some g):=
 ⟨rfl,rfl,rfl,by simp[World.setRow],fun k hk hne=>setRow_other w g k _ (fun e=>hne (by rw[e]))⟩
theorem qqb {cells:List PV}{off:Nat}{c:List PV}(hle:off+c.length≤cells.length)(j:Nat):(zz cells off c)[j]? =if j<off then cells[j]? else if j<off+c.length then c[j - off]? else cells[j]? :=by
 unfold zz;by_cases h1:j<off
 ·rw[if_pos h1,List.append_assoc,List.getElem?_append_left (by simp;omega),List.getElem?_take_of_lt h1]
 ·rw[if_neg h1,List.append_assoc,List.getElem?_append_right (by simp;omega)];have e1:(cells.take off).length=off:=by simp;omega
  rw[e1];by_cases h2:j<off+c.length
  ·rw[if_pos h2,List.getElem?_append_left (by omega)]
  ·rw[if_neg h2,List.getElem?_append_right (by omega),List.getElem?_drop];congr 1;omega
theorem ZP {cells:List Value}{off:Nat}{c:List Value}(hle:off+c.length≤cells.length)(j:Nat):(cells.take off++c++cells.drop (off+c.length))[j]? =if j<off then cells[j]? else if j<off+c.length then c[j - off]? else cells[j]? :=by
 by_cases h1:j<off
 ·rw[if_pos h1,List.append_assoc,List.getElem?_append_left (by simp;omega),List.getElem?_take_of_lt h1]
 ·rw[if_neg h1,List.append_assoc,List.getElem?_append_right (by simp;omega)];have e1:(cells.take off).length=off:=by simp;omega
  rw[e1];by_cases h2:j<off+c.length
  ·rw[if_pos h2,List.getElem?_append_left (by omega)]
  ·rw[if_neg h2,List.getElem?_append_right (by omega),List.getElem?_drop];congr 1;omega
theorem store_pt (hs:SR σ μ w){t:TypeId}{ti:TI}(ht:TOK P t ti){id off:Nat}{bt:TypeId}{cells:List PV}{x y:Value}{q:PV}(hx:R σ μ w x (.pt id off))(hy:R σ μ w y q)(ho:σ[id]? =some (some (.box bt cells)))
  (hlen:q.flat.length=ti.sz) (hle:off+ti.sz≤cells.length) (hone:q.flat.all PV.one=true):
  ∃w',(Instr.storeAt t x y).run P w=.ok () w'∧Ext σ μ w (σ.set id (some (.box bt (zz cells off q.flat)))) μ w'∧SR (σ.set id (some (.box bt (zz cells off q.flat)))) μ w':=by
 have hl:live σ id (.box bt cells):=⟨ho,by simp⟩;obtain⟨f1,f2,f3⟩:=hy.flat (List.all_eq_true.1 hone);cases hx with
 | pt _ _ _ _ _ h3 =>
  obtain rfl:=h3 ⟨_,_,hl⟩;obtain⟨cs,k1,k2,k3,k4⟩:=hs.obj id _ hl;have hst:=run_storeCells_at P (μ id) off bt y.cells.toList 0 cs w k1 (by simp;omega) (fun v hv=>by
   obtain⟨i,hi⟩:=List.getElem?_of_mem hv;exact f2 i v (by simpa using hi))
  have hsz:y.cells.size=ti.sz:=by omega
  have hw:=Yw (w:=w) (cs:=(cs.toList.take (off+0)++y.cells.toList++cs.toList.drop (off+0+y.cells.toList.length)).toArray) (hs.lt hl);have he:Ext σ μ w (σ.set id (some (.box bt (zz cells off q.flat)))) μ (w.setRow (μ id) (cs.toList.take (off+0)++y.cells.toList++cs.toList.drop (off+0+y.cells.toList.length)).toArray):=
   Jl hs hl (by simp) rfl hw (fun e sz len cur h=>by cases h)
  refine⟨_,?_,he,JL hs hl he hw ⟨_,setRow_heap w (μ id) cs _ bt _ k1,?_,fun i v hv=> ?_,fun i v p hv hp=> ?_⟩⟩
  ·simp only[Instr.storeAt,Instr.sureAddr,Sem.run_bind,Sem.run_pure,Result.andThen_ok,storeVar,QJ ht,hsz,ne_eq,not_true,if_false,hst]
  ·simp[zz];omega
  ·rw[List.getElem?_toArray,Nat.add_zero,ZP (by simp;omega)]at hv;split at hv
   ·exact k3 i v (by simpa using hv)
   ·split at hv
    ·exact f2 (i - off) v (by simpa using hv)
    ·exact k3 i v (by simpa using hv)
  ·rw[List.getElem?_toArray,Nat.add_zero,ZP (by simp;omega)]at hv;rw[qqb (by omega)]at hp;by_cases h1:i<off
   ·rw[if_pos h1]at hv hp;exact(k4 i v p (by simpa using hv) hp).ext hs he
   ·rw[if_neg h1]at hv hp;by_cases h2:i<off+ti.sz
    ·rw[if_pos (by simp;omega)]at hv;rw[if_pos (by omega)]at hp;exact(f3 (i - off) v p (by simpa using hv) hp).ext hs he
    ·rw[if_neg (by simp;omega)]at hv;rw[if_neg (by omega)]at hp;exact(k4 i v p (by simpa using hv) hp).ext hs he
theorem ZW (o:Obj):w.grownBy (w.alloc o) none:=World.grownBy_alloc w o none
theorem new_box (hs:SR σ μ w)(t:TypeId){y:Value}{q:PV}(hy:R σ μ w y q)(hone:q.flat.all PV.one=true){id:Nat}(hn:NewAt σ σ' id (.box t q.flat)):
  Ext σ μ w σ' (μp id μ w.heap.size) (w.alloc (.cells y.cells t))∧SR σ' (μp id μ w.heap.size) (w.alloc (.cells y.cells t))∧
   R σ' (μp id μ w.heap.size) (w.alloc (.cells y.cells t)) (.pointer (some ⟨w.heap.size,0,none⟩)) (.pt id 0):=by
 obtain⟨f1,f2,f3⟩:=hy.flat (List.all_eq_true.1 hone);have hw:=ZW (w:=w) (.cells y.cells t);have he:=YW hs hn (Nat.le_refl _) hw;refine⟨he,sr_new hs hn (Nat.le_refl _) hw ⟨y.cells,heap_alloc_new w _,f1,f2,fun i x p hx hp=>(f3 i x p hx hp).ext hs he⟩,.pt _ _ _ hn.live.known rfl fun _=>by rw[μp_new]⟩
theorem st_box (hs:SR σ μ w)(t:TypeId){y:Value}{q:PV}(hy:R σ μ w y q)(hone:q.flat.all PV.one=true){id:Nat}(hn:NewAt σ σ' id (.box t q.flat)):Good P σ μ w (do pure (.value (←Instr.box t y))) (.pt id 0) σ':=by
 obtain⟨h1,h2,h3⟩:=new_box hs t hy hone hn;exact⟨_,_,_,_,by simp[Instr.box,newVar,newRow],.inl rfl,h1,h2,h3⟩
theorem R_zpv (q:Z):R σ μ w q.val q.pv:=by cases q<;>first|exact .e0 none|exact R_zero _
theorem Z.pv_one (q:Z):q.pv.one=true:=by cases q<;>rfl
theorem zrow_R {ti:TI}{z:Value}(h:z.cells.toList=ti.zero.map Z.val)(h1:ti.agg=true→∃cs,z=.agg cs)(h2:ti.agg=false→z.oneCell'=true∧∃q,ti.zero=[q]):R σ μ w z (zpv ti)∧(zpv ti).flat=ZO ti∧(zpv ti).flat.all PV.one=true:=by
 have hall:(ZO ti).all PV.one=true:=by
  simp only[ZO,List.all_map,List.all_eq_true];intro q _;exact Z.pv_one q
 unfold zpv;cases hagg:ti.agg with
 | true =>
  obtain⟨cs,rfl⟩:=h1 hagg;simp only[if_true];have hcs:cs.toList=ti.zero.map Z.val:=h;refine⟨.ag _ _ ?_ (fun i x hx=> ?_) (fun i x p hx hp=> ?_),rfl,hall⟩
  ·have:=congrArg List.length hcs;simpa [ZO] using this
  ·have hx':cs.toList[i]? =some x:=by simpa using hx
   rw[hcs,List.getElem?_map]at hx';obtain⟨q,_,rfl⟩:=Option.map_eq_some_iff.1 hx';exact q.one
  ·have hx':cs.toList[i]? =some x:=by simpa using hx
   rw[hcs,List.getElem?_map]at hx';obtain⟨q,hq,rfl⟩:=Option.map_eq_some_iff.1 hx';simp only[ZO,List.getElem?_map,hq,Option.map_some,Option.some.injEq]at hp;subst hp;exact R_zpv q
 | false =>
  obtain⟨ho,q,hq⟩:=h2 hagg;have hz:z=q.val:=by
   have hc:z.cells= #[z]:=by cases z<;>first|rfl|cases ho
   rw[hc,hq]at h;simpa using h
  simp only[Bool.false_eq_true,if_false,ZO,hq,List.map_cons,List.map_nil,List.headD_cons];exact⟨by rw[hz];exact R_zpv q,by cases q<;>rfl,by cases q<;>rfl⟩
theorem st_alloc (hs:SR σ μ w){t:TypeId}{ti:TI}(ht:TOK P t ti){id:Nat}(hn:NewAt σ σ' id (.box t (ZO ti))):Good P σ μ w (do pure (.value (←Instr.alloc t true (.tuple #[])))) (.pt id 0) σ':=by
 obtain⟨z,h1,h2,h3,h4⟩:=tok_zero (w:=w) ht;obtain⟨k1,k2,k3⟩:=zrow_R (σ:=σ) (μ:=μ) (w:=w) h2 h3 h4;rw[←k2]at hn;obtain⟨e1,e2,e3⟩:=new_box hs t k1 k3 hn;exact⟨_,_,_,_,by simp[Instr.alloc,h1,newVar,newRow],.inl rfl,e1,e2,e3⟩
theorem st_makeMap (hs:SR σ μ w)(t:TypeId)(kk:KK){id:Nat}(hn:NewAt σ σ' id (.map kk (fun _=>none) 0)):Good P σ μ w (do pure (.value (←Instr.makeMap t none))) (.mp id) σ':=by
 have hw:=ZW (w:=w) (.map #[] 0);have he:=YW hs hn (Nat.le_refl _) hw;refine⟨_,_,_,_,by simp[Instr.makeMap];rfl,.inl rfl,he,sr_new hs hn (Nat.le_refl _) hw ⟨#[],0,heap_alloc_new w _,by simp,by simp,by simp,by simp⟩,.mp _ _ hn.live.known rfl fun _=>by rw[μp_new]⟩
end
section
variable {P:Program} {T:TypeId→Option TI} {σ σ':Store} {μ μ':Nat→Nat} {w w':World}
theorem pt_val (hs:SR σ μ w){id off:Nat}{bt:TypeId}{cells:List PV}{x:Value}(hx:R σ μ w x (.pt id off))(ho:σ[id]? =some (some (.box bt cells))):x=.pointer (some ⟨μ id,off,none⟩):=by
 cases hx with
 |pt _ _ _ _ _ h3=>exact h3 ⟨_,_,ho,by simp⟩
theorem R_pt {id off:Nat}{bt:TypeId}{cells:List PV}(ho:σ[id]? =some (some (.box bt cells))):R σ μ w (.pointer (some ⟨μ id,off,none⟩)) (.pt id off):=
 .pt _ _ _ (live.known ⟨ho,by simp⟩) rfl fun _=>rfl
theorem st_of {ti:TI}{t:TypeId}{fs:List (Nat×TypeId)}(h:TOK P t ti)(hk:ti.kind=.st fs):∃flds:Array Field,P.underlying t=some (.struct flds)∧fs=flds.toList.map fun f=>(f.offset,f.type):=by
 obtain⟨d,h1,h2,_⟩:=h.und;rw[hk]at h2;cases d<;>simp[tk]at h2;exact⟨_,h1,h2.symm⟩
theorem QA {ti:TI}{t e:TypeId}(h:TOK P t ti)(hk:ti.kind=.slc e):P.underlying t=some (.slice e):=by
 obtain⟨d,h1,h2,_⟩:=h.und;rw[hk]at h2;cases d<;>simp[tk]at h2;rw[h1,h2]
theorem qqt {ti:TI}{t:TypeId}(h:TOK P t ti)(hk:ti.kind=.str):P.underlying t=some .string:=by
 obtain⟨d,h1,h2,_⟩:=h.und;rw[hk]at h2;cases d<;>simp[tk]at h2;exact h1
theorem bool_of {ti:TI}{t:TypeId}(h:TOK P t ti)(hk:ti.kind=.bool):P.underlying t=some .bool:=by
 obtain⟨d,h1,h2,_⟩:=h.und;rw[hk]at h2;cases d<;>simp[tk]at h2;exact h1
theorem int_of {ti:TI}{t:TypeId}{k:IntKind}(h:TOK P t ti)(hk:ti.kind=.int k):P.underlying t=some (.int k):=by
 obtain⟨d,h1,h2,_⟩:=h.und;rw[hk]at h2;cases d<;>simp[tk]at h2;rw[h1,h2]
theorem arr_of {ti:TI}{t e:TypeId}{n:Nat}(h:TOK P t ti)(hk:ti.kind=.arr n e):P.underlying t=some (.array n e):=by
 obtain⟨d,h1,h2,_⟩:=h.und;rw[hk]at h2;cases d<;>simp[tk]at h2;rw[h1,h2.1,h2.2]
theorem map_of {ti:TI}{t k e:TypeId}(h:TOK P t ti)(hk:ti.kind=.map k e):P.underlying t=some (.map k e):=by
 obtain⟨d,h1,h2,_⟩:=h.und;rw[hk]at h2;cases d<;>simp[tk]at h2;rw[h1,h2.1,h2.2]
theorem zzh {flds:Array Field}{f off:Nat}{ft:TypeId}(h:(flds.toList.map fun f=>(f.offset,f.type))[f]? =some (off,ft)):∃fld,flds[f]? =some fld∧fld.offset=off∧fld.type=ft:=by
 rw[List.getElem?_map]at h;obtain⟨fld,h1,h2⟩:=Option.map_eq_some_iff.1 h;injection h2 with h2 h3;exact⟨fld,by simpa using h1,h2,h3⟩
theorem qqx {t ft:TypeId}{ti tf:TI}{fs:List (Nat×TypeId)}{f off:Nat}(ht:TOK P t ti)(hk:ti.kind=.st fs)(hf:fs[f]? =some (off,ft))(htf:TOK P ft tf)(hsz:tf.sz≠0)(a:Addr):
  (Instr.fieldAt t (.pointer (some a)) f).run P w=.ok (.pointer (some (a.add off))) w:=by
 obtain⟨flds,h1,rfl⟩:=st_of ht hk;obtain⟨fld,h2,rfl,rfl⟩:=zzh hf;have hsz':=QJ (w:=w) htf;simp only[Instr.fieldAt,Sem.run_bind,run_underlying h1,Result.andThen_ok,h2,Instr.sureAddr,Sem.run_pure,fieldPlace,hsz',Sem.run_ite,hsz,if_false]
theorem st_field_pt (hs:SR σ μ w){t ft:TypeId}{ti tf:TI}{fs:List (Nat×TypeId)}{f off id o:Nat}{bt:TypeId}{cells:List PV}{x:Value}(ht:TOK P t ti)(hk:ti.kind=.st fs)(hf:fs[f]? =some (off,ft))(htf:TOK P ft tf)(hsz:tf.sz≠0)
  (hx:R σ μ w x (.pt id o)) (ho:σ[id]? =some (some (.box bt cells))):Good P σ μ w (do pure (.value (←Instr.fieldAt t x f))) (.pt id (o+off)) σ:=by
 obtain rfl:=pt_val hs hx ho;exact Good.val hs (qqx ht hk hf htf hsz _) (by rw[zX];exact R_pt ho)
theorem st_field_rp (hs:SR σ μ w){t ft:TypeId}{ti tf:TI}{fs:List (Nat×TypeId)}{f off o:Nat}{row:List PV}{x:Value}(ht:TOK P t ti)(hk:ti.kind=.st fs)(hf:fs[f]? =some (off,ft))(htf:TOK P ft tf)(hsz:tf.sz≠0)
  (hx:R σ μ w x (.rp row o)):Good P σ μ w (do pure (.value (←Instr.fieldAt t x f))) (.rp row (o+off)) σ:=by
 cases hx with
 |rp b _ _ u h1 h2 h3=>exact Good.val hs (qqx ht hk hf htf hsz _) (by rw[add_add];exact .rp b _ _ u h1 h2 h3)
theorem qqg {t:TypeId}{ti:TI}(ht:TOK P t ti){cs:Array Value}{cells:List PV}{off:Nat}{p:PV}(hx:R σ μ w (.agg cs) (.ag cells))(hp:zd ti cells off=some p):∃x,(part t cs off).run P w=.ok x w∧R σ μ w x p:=by
 cases hx with
 | ag _ _ h1 h2 h3 =>
  unfold zd at hp;by_cases hagg:ti.agg=true
  ·rw[if_pos hagg]at hp;split at hp
   ·rename_i hle;injection hp with hp;subst hp;refine⟨.agg (cs.extract off (off+ti.sz)),?_,.ag _ _ (by simp;omega) (fun i x hx=> ?_) fun i x q hx hq=> ?_⟩
    ·simp only[part,Sem.run_bind,qqK ht,hagg,Result.andThen_ok,if_true,Sem.run_ite,QJ ht,Sem.run_pure]
    ·rw[Array.getElem?_extract]at hx;split at hx
     ·exact h2 _ _ hx
     ·cases hx
    ·rw[Array.getElem?_extract]at hx;split at hx
     ·rename_i hi;rw[List.getElem?_take_of_lt (by omega),List.getElem?_drop]at hq;exact h3 _ _ _ hx hq
     ·cases hx
   ·cases hp
  ·have hagg':ti.agg=false:=by simpa using hagg
   rw[if_neg hagg]at hp;have hlt:=(List.getElem?_eq_some_iff.1 hp).1;have hx:cs[off]? =some cs[off]:=Array.getElem?_eq_getElem (by omega);refine⟨cs[off],?_,h3 _ _ _ hx hp⟩;simp only[part,Sem.run_bind,qqK ht,hagg',Result.andThen_ok,Bool.false_eq_true,if_false,Sem.run_ite,hx,Sem.run_pure]
theorem R_ag {x:Value}{cells:List PV}(hx:R σ μ w x (.ag cells)):∃cs,x=.agg cs:=by cases hx;exact⟨_,rfl⟩
theorem st_fieldV (hs:SR σ μ w){t ft:TypeId}{ti tf:TI}{fs:List (Nat×TypeId)}{f off:Nat}{cells:List PV}{x:Value}{p:PV}(ht:TOK P t ti)(hk:ti.kind=.st fs)(hf:fs[f]? =some (off,ft))(htf:TOK P ft tf)
  (hx:R σ μ w x (.ag cells)) (hp:zd tf cells off=some p):Good P σ μ w (do pure (.value (←Instr.field t x f))) p σ:=by
 obtain⟨flds,h1,rfl⟩:=st_of ht hk;obtain⟨fld,h2,rfl,rfl⟩:=zzh hf;obtain⟨cs,rfl⟩:=R_ag hx;obtain⟨y,h3,h4⟩:=qqg htf hx hp;exact Good.val hs (by simp only[Instr.field,Sem.run_bind,run_underlying h1,Result.andThen_ok,h2,asAgg,Sem.run_pure,h3]) h4
theorem Jk {x:Value}{p:PV}{n:Int}(hx:R σ μ w x p)(hn:intOf? p=some n):∃k,x=.int k n:=by
 unfold intOf? at hn;split at hn
 ·cases hn;cases hx;exact⟨_,rfl⟩
 ·cases hn
theorem zN {x:Value}{p:PV}{rows:List (List PV)}(hx:R σ μ w x p)(hr:rowsOf p=some rows):∃A c,x=.slice A rows.length c∧rows.length≤c∧R σ μ w x (.sl rows):=by
 have hsl:R σ μ w x (.sl rows)→∃A c,x=.slice A rows.length c∧rows.length≤c∧R σ μ w x (.sl rows):=by
  intro h;have h':=h;cases h with
  |sl0 A c=>exact⟨A,c,rfl,Nat.zero_le _,h'⟩
  |sl a c sz _ u h1=>exact⟨_,c,rfl,h1,h'⟩
 unfold rowsOf at hr;split at hr
 ·cases hr;cases hx;exact⟨none,0,rfl,Nat.le_refl _,.sl0 _ _⟩
 ·cases hr;cases hx with
  |e0 A=>exact⟨A,0,rfl,Nat.le_refl _,.sl0 _ _⟩
 ·cases hr;exact hsl hx
 ·cases hr;cases hx with
  |ow _ _ _ h1 _ _ _=>exact hsl h1
 ·cases hr
theorem sl_row {x:Value}{rows:List (List PV)}{n sz:Nat}{row:List PV}(hx:R σ μ w x (.sl rows))(hn:rows[n]? =some row)(hsz:row.length=sz):∃a c,x=.slice (some a) rows.length c∧R σ μ w (.pointer (some (a.add (n*sz)))) (.rp row 0):=by
 have hlt:=(List.getElem?_eq_some_iff.1 hn).1;cases hx with
 |sl0 A c=>simp at hlt
 | sl a c sz' _ u h1 h2 h3 h4 h5 =>
  have hz:sz'=sz:=by rw[←hsz];exact(h2 row (List.mem_of_getElem? hn)).symm
  subst hz;refine⟨a,c,rfl,?_⟩;have:=R.rp (σ:=σ) (μ:=μ) (w:=w) (a.add (n*sz')) row 0 (fun j=>u n j) (fun j hj=>by rw[add_add];exact h3 n j hlt (by omega)) (fun j hj=>h4 n j hlt (by omega)) (fun j p hp=>h5 n j row p hn hp);simpa [Addr.add] using this
theorem run_idx {t e:TypeId}{ti te:TI}(ht:TOK P t ti)(hk:ti.kind=.slc e)(hte:TOK P e te)(a:Addr)(len c:Nat)(k:IntKind)(n:Int)(h0:0≤n)(h1:n<len):
  (Instr.indexAt t (.slice (some a) len c) (.int k n)).run P w=.ok (.pointer (some (a.add (n.toNat*te.sz)))) w:=by
 have hu:=QA ht hk;have hsz:=QJ (w:=w) hte;simp only[Instr.indexAt,asIntOf,Sem.run_bind,Sem.run_pure,Result.andThen_ok,run_underlying hu,h0,h1,and_self,if_true,Sem.run_ite,hsz]
theorem st_index_sl (hs:SR σ μ w){t e:TypeId}{ti te:TI}(ht:TOK P t ti)(hk:ti.kind=.slc e)(hte:TOK P e te){x y:Value}{p q:PV}{rows:List (List PV)}{n:Int}{row:List PV}(hx:R σ μ w x p)(hr:rowsOf p=some rows)(hy:R σ μ w y q)(hn:intOf? q=some n)
  (h0:0≤n) (hrow:rows[n.toNat]? =some row) (hsz:row.length=te.sz):Good P σ μ w (do pure (.value (←Instr.indexAt t x y))) (.rp row 0) σ:=by
 obtain⟨k,rfl⟩:=Jk hy hn;obtain⟨A,c,_,_,hsl⟩:=zN hx hr;obtain⟨a,c,rfl,h2⟩:=sl_row hsl hrow hsz;have hlt:=(List.getElem?_eq_some_iff.1 hrow).1;exact Good.val hs (run_idx ht hk hte a rows.length c k n h0 (by omega)) h2
theorem st_index_ms (hs:SR σ μ w){t e:TypeId}{ti te:TI}(ht:TOK P t ti)(hk:ti.kind=.slc e)(hte:TOK P e te){x y:Value}{q:PV}{id sz len:Nat}{bt:TypeId}{cells:List PV}{n:Int}(hx:R σ μ w x (.ms id sz len))(ho:σ[id]? =some (some (.box bt cells)))(hy:R σ μ w y q)(hn:intOf? q=some n)
  (h0:0≤n) (h1:n<len) (hsz:sz=te.sz):Good P σ μ w (do pure (.value (←Instr.indexAt t x y))) (.pt id (n.toNat*sz)) σ:=by
 obtain⟨k,rfl⟩:=Jk hy hn;cases hx with
 | ms _ _ _ _ _ _ h3 =>
  obtain⟨cap,h4,rfl⟩:=h3 ⟨_,_,ho,by simp⟩;have:=run_idx (P:=P) (w:=w) ht hk hte ⟨μ id,0,none⟩ len cap k n h0 h1;rw[zX,Nat.zero_add,←hsz]at this;exact Good.val hs this (R_pt ho)
theorem st_index_pa (hs:SR σ μ w){t e:TypeId}{ti te:TI}{m:Nat}(ht:TOK P t ti)(hk:ti.kind=.arr m e)(hte:TOK P e te){x y:Value}{q:PV}{id off:Nat}{bt:TypeId}{cells:List PV}{n:Int}(hx:R σ μ w x (.pt id off))(ho:σ[id]? =some (some (.box bt cells)))(hy:R σ μ w y q)(hn:intOf? q=some n)
  (h0:0≤n) (h1':n.toNat<m):Good P σ μ w (do pure (.value (←Instr.indexAt t x y))) (.pt id (off+n.toNat*te.sz)) σ:=by
 have h1:n<(m:Int):=by omega
 obtain⟨k,rfl⟩:=Jk hy hn;obtain rfl:=pt_val hs hx ho;have hu:=arr_of ht hk;have hsz:=QJ (w:=w) hte;refine Good.val hs (x:=.pointer (some ((⟨μ id,off,none⟩:Addr).add (n.toNat*te.sz)))) ?_ (by rw[zX];exact R_pt ho);simp only[Instr.indexAt,Instr.sureAddr,asIntOf,Sem.run_bind,Sem.run_pure,Result.andThen_ok,run_underlying hu,h0,h1,and_self,if_true,Sem.run_ite,hsz]
theorem st_extract (hs:SR σ μ w){x:Value}{ps:List PV}{i:Nat}{p:PV}(hx:R σ μ w x (.tu ps))(hp:ps[i]? =some p):Good P σ μ w (do pure (.value (←Instr.extract x i))) p σ:=by
 cases hx with
 | tu vs _ h1 h2 =>
  have hlt:=(List.getElem?_eq_some_iff.1 hp).1;have hv:vs[i]? =some vs[i]:=Array.getElem?_eq_getElem (by omega);exact Good.val hs (by simp only[Instr.extract,hv,Sem.run_pure]) (h2 i _ p hv hp)
end
section
variable {P:Program} {T:TypeId→Option TI} {σ σ':Store} {μ μ':Nat→Nat} {w w':World}
theorem foldset (off:Nat):∀(l:List Value) (k:Nat) (cs:Array Value),off+k+l.length≤cs.size→((l.zipIdx k).foldl (fun cs (x:Value×Nat)=>cs.setIfInBounds (off+x.2) x.1) cs).size=cs.size∧
  ∀i:Nat,((l.zipIdx k).foldl (fun cs (x:Value×Nat)=>cs.setIfInBounds (off+x.2) x.1) cs)[i]? =if off+k≤i∧i<off+k+l.length then l[i - (off+k)]? else cs[i]?
 |[],k,cs,h=>by simp;omega
 | v :: l, k, cs, h => by
  simp only[List.zipIdx_cons,List.foldl_cons];simp only[List.length_cons]at h ⊢;obtain⟨h1,h2⟩:=foldset off l (k+1) (cs.setIfInBounds (off+k) v) (by simp;omega);refine⟨by rw[h1];simp,fun i=> ?_⟩;rw[h2 i];by_cases hi:i=off+k
  ·subst hi;rw[if_neg (by omega),if_pos (by omega),Array.getElem?_setIfInBounds_self_of_lt (by omega)];simp
  ·rw[Array.getElem?_setIfInBounds_ne (by omega)];by_cases hj:off+k≤i∧i<off+k+(l.length+1)
   ·rw[if_pos hj,if_pos (by omega)];have:i - (off+k)=(i - (off+(k+1)))+1:=by omega
    rw[this,List.getElem?_cons_succ]
   ·rw[if_neg hj,if_neg (by omega)]
def CR (σ:Store)(μ:Nat→Nat)(w:World)(cs:Array Value)(cells:List PV):Prop:=
 cs.size=cells.length∧(∀(i:Nat) x,cs[i]? =some x→x.oneCell'=true)∧∀(i:Nat) x p,cs[i]? =some x→cells[i]? =some p→R σ μ w x p
theorem CR.set {cs:Array Value}{cells:List PV}(h:CR σ μ w cs cells){y:Value}{q:PV}(hy:R σ μ w y q)(hone:q.flat.all PV.one=true){off:Nat}(hle:off+q.flat.length≤cells.length):
  CR σ μ w (y.cells.zipIdx.foldl (fun cs (x:Value×Nat)=>cs.setIfInBounds (off+x.2) x.1) cs) (zz cells off q.flat):=by
 obtain⟨f1,f2,f3⟩:=hy.flat (List.all_eq_true.1 hone);have e:y.cells.zipIdx.foldl (fun cs (x:Value×Nat)=>cs.setIfInBounds (off+x.2) x.1) cs=(y.cells.toList.zipIdx 0).foldl (fun cs (x:Value×Nat)=>cs.setIfInBounds (off+x.2) x.1) cs:=by
  rw[←Array.foldl_toList,Array.toList_zipIdx]
 obtain⟨g1,g2⟩:=foldset off y.cells.toList 0 cs (by have:=h.1;simp;omega);rw[e];refine⟨by rw[g1,h.1];unfold zz;simp;omega,fun i x hx=> ?_,fun i x p hx hp=> ?_⟩
 ·rw[g2 i]at hx;split at hx
  ·exact f2 _ x (by simpa using hx)
  ·exact h.2.1 i x hx
 ·rw[g2 i]at hx;rw[qqb hle]at hp;by_cases h1:i<off
  ·rw[if_neg (by omega)]at hx;rw[if_pos h1]at hp;exact h.2.2 i x p hx hp
  ·rw[if_neg h1]at hp;by_cases h2:i<off+q.flat.length
   ·rw[if_pos (by simp;omega)]at hx;rw[if_pos h2]at hp;exact f3 (i - off) x p (by simpa using hx) hp
   ·rw[if_neg (by simp;omega)]at hx;rw[if_neg h2]at hp;exact h.2.2 i x p hx hp
inductive PR (σ:Store)(μ:Nat→Nat)(w:World):List (Nat×Value)→List (Nat×PV)→Prop
 |nil:PR σ μ w [] []
 |cons (i:Nat) (x:Value) (p:PV) (l r):R σ μ w x p→PR σ μ w l r→PR σ μ w ((i,x)::l) ((i,p)::r)
theorem fill_ok {place pA:Nat→Option (Nat×Nat)}(hp:∀i q,pA i=some q→place i=some q):∀(l:List (Nat×Value)) (r:List (Nat×PV)) (cs:Array Value) (cells c2:List PV),PR σ μ w l r→CR σ μ w cs cells→Yh pA cells r=some c2→
  ∃cs2,Instr.fill place cs l=some cs2∧CR σ μ w cs2 c2
 | [], r, cs, cells, c2, hl, hc, hf => by
  cases hl;simp only[Yh,Option.some.injEq]at hf;subst hf;exact⟨cs,rfl,hc⟩
 | _ :: _, _, cs, cells, c2, .cons i x p l r hx hl, hc, hf => by
  simp only[Yh]at hf;split at hf
  ·rename_i off size hpl;split at hf
   ·rename_i hcond;obtain⟨h1,h2,h3⟩:=hcond;obtain⟨f1,_,_⟩:=hx.flat (List.all_eq_true.1 h3);have hset:=hc.set hx h3 (off:=off) (by omega);obtain⟨cs2,k1,k2⟩:=fill_ok hp l r _ _ c2 hl hset hf;refine⟨cs2,?_,k2⟩;unfold Instr.fill;rw[hp i _ hpl];simp only;rw[if_neg]
    ·exact k1
    ·have:=hc.1;simp;omega
   ·cases hf
  ·cases hf
theorem zero_CR {ti:TI}{z:Value}(h:z.cells.toList=ti.zero.map Z.val):CR σ μ w z.cells (ti.zero.map Z.pv):=by
 refine⟨by have:=congrArg List.length h;simpa using this,fun i x hx=> ?_,fun i x p hx hp=> ?_⟩
 ·have hx':z.cells.toList[i]? =some x:=by simpa using hx
  rw[h,List.getElem?_map]at hx';obtain⟨q,_,rfl⟩:=Option.map_eq_some_iff.1 hx';exact q.one
 ·have hx':z.cells.toList[i]? =some x:=by simpa using hx
  rw[h,List.getElem?_map]at hx';obtain⟨q,hq,rfl⟩:=Option.map_eq_some_iff.1 hx';simp only[List.getElem?_map,hq,Option.map_some,Option.some.injEq]at hp;subst hp;exact R_zpv q
theorem CR.ag {cs:Array Value}{cells:List PV}(h:CR σ μ w cs cells):R σ μ w (.agg cs) (.ag cells):=.ag _ _ h.1 h.2.1 h.2.2
theorem places_get {flds:List Field}(hsz:∀f∈flds,(P.info? f.type).isSome=true):∃places,flds.mapM (fun f=>(P.info? f.type).map fun i=>(f.offset,i.size))=some places∧
  ∀(i:Nat) fld,flds[i]? =some fld→∃it,P.info? fld.type=some it∧places[i]? =some (fld.offset,it.size):=by
 induction flds with
 |nil=>exact⟨[],rfl,fun i fld h=>by simp at h⟩
 | cons f l ih =>
  obtain⟨places,h1,h2⟩:=ih fun g hg=>hsz g (List.mem_cons_of_mem _ hg);obtain⟨it,hit⟩:=Option.isSome_iff_exists.1 (hsz f List.mem_cons_self);refine⟨(f.offset,it.size)::places,by simp[List.mapM_cons,hit,h1],fun i fld h=> ?_⟩
  match i,h with
  |0,h=>simp at h;subst h;exact⟨it,hit,rfl⟩
  |n+1,h=>exact h2 n fld (by simpa using h)
theorem st_build_st (hT:∀t ti,T t=some ti→TOK P t ti)(hs:SR σ μ w){t:TypeId}{ti:TI}{fs:List (Nat×TypeId)}(ht:TOK P t ti)(hk:ti.kind=.st fs){parts:Array (Nat×Value)}{ps:List (Nat×PV)}{cells:List PV}(hp:PR σ μ w parts.toList ps)
  (hf:Yh (fun i=>match fs[i]? with|some (off,ft)=>(T ft).map fun ti=>(off,ti.sz)|none=>none) (ti.zero.map Z.pv) ps=some cells):Good P σ μ w (do pure (.value (←Instr.build t parts))) (.ag cells) σ:=by
 obtain⟨flds,h1,rfl⟩:=st_of ht hk;obtain⟨it,z,k1,k2,_,k4,k5,_⟩:=ht.info;obtain⟨places,h2,h3⟩:=places_get (P:=P) (flds:=flds.toList) (ht.fld flds h1);obtain⟨cs,h4,h5⟩:=fill_ok (place:=fun i=>places[i]?) (fun i q hq=>by
  split at hq
  ·rename_i off ft hg;obtain⟨fld,g1,rfl,rfl⟩:=zzh hg;obtain⟨tf,g2,g3⟩:=Option.map_eq_some_iff.1 hq;obtain⟨itf,g4,g5⟩:=h3 i fld (by simpa using g1);obtain⟨itf',_,g6,g7,_⟩:=(hT _ _ g2).info;rw[g4]at g6;injection g6 with g6;rw[g5,g6,g7,g3]
  ·cases hq) parts.toList ps z.cells _ cells hp (zero_CR k5) hf
 refine Good.val hs (run_build w t parts cs ?_) h5.ag;unfold Program.built;rw[k1,h1];simp only[k4,h2];simpa using h4
theorem st_build_arr (hs:SR σ μ w){t e:TypeId}{ti te:TI}{n:Nat}(ht:TOK P t ti)(hk:ti.kind=.arr n e)(hte:TOK P e te){parts:Array (Nat×Value)}{ps:List (Nat×PV)}{cells:List PV}(hp:PR σ μ w parts.toList ps)
  (hf:Yh (fun i=>some (i*te.sz,te.sz)) (ti.zero.map Z.pv) ps=some cells):Good P σ μ w (do pure (.value (←Instr.build t parts))) (.ag cells) σ:=by
 obtain⟨it,z,k1,k2,_,k4,k5,_⟩:=ht.info;obtain⟨ie,_,g1,g2,_⟩:=hte.info;obtain⟨cs,h4,h5⟩:=fill_ok (place:=fun i=>some (i*te.sz,te.sz)) (fun i q hq=>hq) parts.toList ps z.cells _ cells hp (zero_CR k5) hf;refine Good.val hs (run_build w t parts cs ?_) h5.ag;unfold Program.built;rw[k1,arr_of ht hk];simp only[k4,g1,g2];exact h4
def RR (σ:Store)(μ:Nat→Nat)(w:World)(sz:Nat)(cs:Array Value)(rows:List (List PV)):Prop:=
 cs.size=rows.length*sz∧(∀r∈rows,r.length=sz)∧(∀(i:Nat) x,cs[i]? =some x→x.oneCell'=true)∧∀(i j:Nat) x r p,j<sz→cs[i*sz+j]? =some x→rows[i]? =some r→r[j]? =some p→R σ μ w x p
theorem RR.set {sz:Nat}{cs:Array Value}{rows:List (List PV)}(h:RR σ μ w sz cs rows){y:Value}{q:PV}(hy:R σ μ w y q)(hone:q.flat.all PV.one=true){i:Nat}(hi:i<rows.length)(hq:q.flat.length=sz):
  RR σ μ w sz (y.cells.zipIdx.foldl (fun cs (x:Value×Nat)=>cs.setIfInBounds (i*sz+x.2) x.1) cs) (rows.set i q.flat):=by
 obtain⟨f1,f2,f3⟩:=hy.flat (List.all_eq_true.1 hone);have e:y.cells.zipIdx.foldl (fun cs (x:Value×Nat)=>cs.setIfInBounds (i*sz+x.2) x.1) cs=(y.cells.toList.zipIdx 0).foldl (fun cs (x:Value×Nat)=>cs.setIfInBounds (i*sz+x.2) x.1) cs:=by
  rw[←Array.foldl_toList,Array.toList_zipIdx]
 have hle:i*sz+sz≤rows.length*sz:=by rw[←Nat.succ_mul];exact Nat.mul_le_mul_right _ hi
 obtain⟨g1,g2⟩:=foldset (i*sz) y.cells.toList 0 cs (by have:=h.1;simp;omega);rw[e];refine⟨by rw[g1,h.1];simp,fun r hr=> ?_,fun k x hx=> ?_,fun k j x r p hj hx hr hp=> ?_⟩
 ·rcases List.mem_or_eq_of_mem_set hr with hr|rfl
  ·exact h.2.1 r hr
  ·exact hq
 ·rw[g2 k]at hx;split at hx
  ·exact f2 _ x (by simpa using hx)
  ·exact h.2.2.1 k x hx
 ·rw[g2]at hx;by_cases hk:k=i
  ·subst hk;rw[if_pos (by simp;omega)]at hx;rw[List.getElem?_set_self hi]at hr;injection hr with hr;subst hr;have e2:k*sz+j - (k*sz+0)=j:=by omega
   rw[e2]at hx;exact f3 j x p (by simpa using hx) hp
  ·rw[List.getElem?_set_ne (fun e=>hk e.symm)]at hr;rw[if_neg]at hx
   ·exact h.2.2.2 k j x r p hj hx hr hp
   ·intro hh;simp at hh;rcases Nat.lt_or_gt_of_ne hk with hlt|hlt
    ·have:(k+1)*sz≤i*sz:=Nat.mul_le_mul_right _ hlt;rw[Nat.succ_mul]at this;omega
    ·have:(i+1)*sz≤k*sz:=Nat.mul_le_mul_right _ hlt;rw[Nat.succ_mul]at this;omega
theorem fillR_ok {sz n:Nat}(h0:0<sz):∀(l:List (Nat×Value)) (r:List (Nat×PV)) (cs:Array Value) (rows r2:List (List PV)),PR σ μ w l r→RR σ μ w sz cs rows→rows.length=n→ZE sz n r rows=some r2→
  ∃cs2,Instr.fill (fun i=>some (i*sz,sz)) cs l=some cs2∧RR σ μ w sz cs2 r2∧r2.length=n
 | [], r, cs, rows, r2, hl, hc, hn, hf => by
  cases hl;simp only[ZE,Option.some.injEq]at hf;subst hf;exact⟨cs,rfl,hc,hn⟩
 | _ :: _, _, cs, rows, r2, .cons i x p l r hx hl, hc, hn, hf => by
  simp only[ZE]at hf;split at hf
  ·rename_i hcond;obtain⟨h1,h2,h3⟩:=hcond;obtain⟨f1,_,_⟩:=hx.flat (List.all_eq_true.1 h3);have hset:=hc.set hx h3 (i:=i) (by omega) h2;obtain⟨cs2,k1,k2⟩:=fillR_ok h0 l r _ _ r2 hl hset (by simpa using hn) hf;refine⟨cs2,?_,k2⟩;unfold Instr.fill;simp only;have hle:i*sz+sz≤rows.length*sz:=by rw[←Nat.succ_mul];exact Nat.mul_le_mul_right _ (by omega)
   rw[if_neg]
   ·exact k1
   ·have:=hc.1;simp;omega
  ·cases hf
end
section
variable {P:Program} {T:TypeId→Option TI} {σ σ':Store} {μ μ':Nat→Nat} {w w':World}
theorem RR.sl (hs:SR σ μ w){sz:Nat}{cs:Array Value}{rows:List (List PV)}(h:RR σ μ w sz cs rows)(t:TypeId):R σ μ (w.alloc (.cells cs t)) (.slice (some ⟨w.heap.size,0,none⟩) rows.length rows.length) (.sl rows):=by
 have hw:=ZW (w:=w) (.cells cs t);have he:=JE hs hw;have hb:=heap_alloc_new w (.cells cs t);have hcell:∀i j,i<rows.length→j<sz→i*sz+j<cs.size:=fun i j hi hj=>by
  rw[h.1];have:(i+1)*sz≤rows.length*sz:=Nat.mul_le_mul_right _ hi;rw[Nat.succ_mul]at this;omega
 refine .sl _ _ sz rows (fun i j=>cs.getD (i*sz+j) undef) (Nat.le_refl _) h.2.1 (fun i j hi hj=>⟨?_,?_⟩) (fun i j hi hj=> ?_) fun i j r p hr hp=> ?_
 ·rw[zX];simp only[World.cell?,hb,Nat.zero_add,Option.isSome_none,Bool.false_eq_true,if_false];rw[Array.getElem?_eq_getElem (hcell i j hi hj),Array.getD_eq_getD_getElem?,Array.getElem?_eq_getElem (hcell i j hi hj)];rfl
 ·rintro⟨id,o,hl,hm,_⟩
  have:=hs.lt hl;rw[add_blk]at hm;simp only at hm;omega
 ·refine h.2.2.1 (i*sz+j) _ ?_;rw[Array.getElem?_eq_getElem (hcell i j hi hj),Array.getD_eq_getD_getElem?,Array.getElem?_eq_getElem (hcell i j hi hj)];rfl
 ·have hi:=(List.getElem?_eq_some_iff.1 hr).1;have hj:=(List.getElem?_eq_some_iff.1 hp).1;rw[h.2.1 r (List.mem_of_getElem? hr)]at hj;refine(h.2.2.2 i j _ r p hj ?_ hr hp).ext hs he;rw[Array.getElem?_eq_getElem (hcell i j hi hj),Array.getD_eq_getD_getElem?,Array.getElem?_eq_getElem (hcell i j hi hj)];rfl
theorem zeros_RR {ti:TI}{z:Value}(hz:z.cells.toList=ti.zero.map Z.val)(hsz:ti.sz=ti.zero.length)(h0:0<ti.sz)(n:Nat):RR σ μ w ti.sz ((Array.range (n*ti.sz)).map (z.cells[· % z.cells.size]!)) (List.replicate n (ZO ti)):=by
 have hcr:=zero_CR (σ:=σ) (μ:=μ) (w:=w) hz;have hzs:z.cells.size=ti.sz:=by have:=congrArg List.length hz;simp at this;omega
 have hget:∀(k:Nat) (x:Value),((Array.range (n*ti.sz)).map (z.cells[· % z.cells.size]!))[k]? =some x→z.cells[k % ti.sz]? =some x:=by
  intro k x hx;rw[Array.getElem?_map]at hx;obtain⟨m,hm,rfl⟩:=Option.map_eq_some_iff.1 hx;have hm':m=k:=by
   rw[Array.getElem?_range]at hm;split at hm
   ·injection hm with hm;exact hm.symm
   ·cases hm
  subst hm';have hlt:m % ti.sz<z.cells.size:=by rw[hzs];exact Nat.mod_lt _ h0
  rw[hzs,Array.getElem?_eq_getElem hlt,getElem!_pos z.cells (m % ti.sz) hlt]
 refine⟨by simp,fun r hr=> ?_,fun i x hx=>hcr.2.1 _ x (hget i x hx),fun i j x r p hj hx hr hp=> ?_⟩
 ·rw[List.eq_of_mem_replicate hr,hsz];simp[ZO]
 ·have hx':=hget _ x hx;rw[Nat.mul_comm,Nat.mul_add_mod,Nat.mod_eq_of_lt hj]at hx';have hr':r=ZO ti:=List.eq_of_mem_replicate (List.mem_of_getElem? hr);subst hr';exact hcr.2.2 j x p hx' hp
theorem st_lit (hs:SR σ μ w){t e:TypeId}{ti te:TI}{n:Nat}(ht:TOK P t ti)(hk:ti.kind=.slc e)(hte:TOK P e te)(hzl:te.sz=te.zero.length)(h0:0<te.sz)(hn:n≠0)(hle:n*te.sz≤16777216){parts:Array (Nat×Value)}{ps:List (Nat×PV)}{rows:List (List PV)}
  (hp:PR σ μ w parts.toList ps) (hf:ZE te.sz n ps (List.replicate n (ZO te))=some rows):Good P σ μ w (do pure (.value (←Instr.buildSlice t n parts))) (.sl rows) σ:=by
 obtain⟨ie,z,g1,g2,_,g4,g5,_⟩:=hte.info;obtain⟨cs,h1,h2,h3⟩:=fillR_ok h0 parts.toList ps _ _ rows hp (zeros_RR g5 hzl h0 n) (by simp) hf;have hpos:¬n*te.sz=0:=by have:=Nat.mul_pos (Nat.pos_of_ne_zero hn) h0;omega
 have hr:=run_buildSlice (P:=P) w t e n parts cs ie z (QA ht hk) g1 g4 (by rw[g2];omega) (by rw[g2];exact hpos) (by rw[g2];exact h1);have hw:=ZW (w:=w) (.cells cs e);refine⟨.value (.slice (some ⟨w.heap.size,0,none⟩) n n),_,_,μ,by simp only[Sem.run_bind,hr,Result.andThen_ok,Sem.run_pure],.inl rfl,JE hs hw,qqN hs hw,?_⟩;have:=h2.sl hs e;rw[h3]at this;exact this
theorem st_lit0 (hs:SR σ μ w){t e:TypeId}{ti te:TI}(ht:TOK P t ti)(hk:ti.kind=.slc e)(hte:TOK P e te){parts:Array (Nat×Value)}(hp:parts.size=0):Good P σ μ w (do pure (.value (←Instr.buildSlice t 0 parts))) .e0 σ:=by
 have hw:=ZW (w:=w) (.cells #[] e);have he:parts= #[]:=Array.eq_empty_of_size_eq_zero hp;subst he;refine⟨.value (.slice (some ⟨w.heap.size,0,none⟩) 0 0),_,_,μ,?_,.inl rfl,JE hs hw,qqN hs hw,.e0 (some ⟨w.heap.size,0,none⟩)⟩;simp[Instr.buildSlice,run_underlying (QA ht hk),QJ hte,newRow,Instr.fill,Array.range_zero']
theorem Ju {op:BinOp}{t:TypeId}{x y:Operand}{u v:Value}(h:∀cs,u≠ .agg cs)(h2:u≠ .nilIface):(eqGuard op t x y u v).run P w=.ok () w:=by
 cases op<;>first|rfl|(cases u<;>first|exact absurd rfl (h _)|exact absurd rfl h2|rfl)
theorem beq_dec (a b:Int):(a==b)=decide (a=b):=rfl
theorem abinI_ok {op:BinOp}{k:IntKind}{a b:Int}{r:Value}{t:TypeId}(h:abinI op k a b=some r):(binOp op t (.int k a) (.int k b)).run P w=.ok r w∧r.oneCell'=true:=by
  cases op<;>simp only[abinI]at h<;>first
    |(injection h with h;subst h;exact⟨by simp[binOp,Op.intArith,Op.intCmp,beq_dec,bne,GT.gt,GE.ge],rfl⟩)
    |(cases h;done)
    | (by_cases hb : b = 0
       · rw[if_pos hb]at h;cases h
       · rw[if_neg hb]at h;injection h with h;subst h;exact⟨by simp[binOp,Op.intDiv,hb],rfl⟩)
theorem YY (a b:ByteArray):(a.toList==b.toList)=decide (a=b):=by
 by_cases h:a=b
 ·subst h;simp
 ·have:a.toList≠b.toList:=fun e=>h (by
   rw[ByteArray.toList_eq,ByteArray.toList_eq]at e;exact ByteArray.ext (Array.ext' e))
  simp[h,this]
theorem abinS_ok {op:BinOp}{a b:ByteArray}{r:Value}{t:TypeId}(h:abinS op a b=some r):(binOp op t (.string a) (.string b)).run P w=.ok r w∧r.oneCell'=true:=by
 unfold abinS at h;split at h
 ·split at h
  ·rename_i hle;injection h with h;subst h;refine⟨?_,rfl⟩;simp only[binOp,Op.stringOp];rw[if_neg (by simp[IntKind.max_i64];omega)];rfl
  ·cases h
 ·injection h with h;subst h;exact⟨by simp[binOp,Op.stringOp,YY],rfl⟩
 ·injection h with h;subst h;exact⟨by simp[binOp,Op.stringOp,YY],rfl⟩
 ·cases h
theorem R_v {x y:Value}(h:R σ μ w x (.v y)):x=y:=by cases h;rfl
theorem eqf_cons {d:Nat}{xs ys:Array Value}{f:Field}{fs:List Field}{a b:Value}{r q:Bool}(hn:(f.name != "_")=true)(ha:(part f.type xs f.offset).run P w=.ok a w)(hb:(part f.type ys f.offset).run P w=.ok b w)(he:(Op.equalIn d f.type a b).run P w=.ok r w)(hr:(Op.eqFields d xs ys fs).run P w=.ok q w):(Op.eqFields d xs ys (f::fs)).run P w=.ok (r&&q) w:=by
 have hn':f.name≠ "_" :=by simpa using hn
 rw[Op.eqFields];simp only[if_pos hn',Sem.run_bind,ha,hb,he,Result.andThen_ok];cases r
 ·simp
 ·simpa using hr
theorem eqC_ok {d:Nat}{ft:TypeId}{ti:TI}(ht:TOK P ft ti){x y:Value}{p q:PV}(hx:R σ μ w x p)(hy:R σ μ w y q){b:Bool}(h:eqC ti.kind p q=some b):(Op.equalIn (d+1) ft x y).run P w=.ok b w:=by
 obtain⟨dd,h1,h2,_⟩:=ht.und;unfold eqC at h;split at h
 ·rename_i k0 k a k' b' hk;obtain rfl:=R_v hx;obtain rfl:=R_v hy;split at h
  ·rename_i hkk;subst hkk;injection h with h;subst h;rw[hk]at h2;cases dd<;>simp only[tk]at h2<;>first|cases h2|skip
   rw[run_equalIn_int w d ft k _ a b' h1,beq_dec]
  ·cases h
 ·rename_i a b' hk;obtain rfl:=R_v hx;obtain rfl:=R_v hy;injection h with h;subst h;rw[hk]at h2;cases dd<;>simp only[tk]at h2<;>first|cases h2|skip
  rw[run_equalIn_string w d ft a b' h1,YY]
 ·rename_i a b' hk;obtain rfl:=R_v hx;obtain rfl:=R_v hy;injection h with h;subst h;rw[hk]at h2;cases dd<;>simp only[tk]at h2<;>first|cases h2|skip
  rw[run_equalIn_bool' w d ft a b' h1];cases a<;>cases b'<;>rfl
 ·cases h
theorem eqFs_ok {d:Nat}(hT:∀t ti,T t=some ti→TOK P t ti){vs us:Array Value}{xs ys:List PV}(hx:R σ μ w (.agg vs) (.ag xs))(hy:R σ μ w (.agg us) (.ag ys)):∀(fl:List Field) (b:Bool),(∀f∈fl,(f.name != "_")=true)→eqFs T xs ys (fl.map fun f=>(f.offset,f.type))=some b→(Op.eqFields (d+1) vs us fl).run P w=.ok b w
 | [], b, _, h => by
  simp only[List.map_nil,eqFs,Option.some.injEq]at h;subst h;simp[Op.eqFields]
 | f :: fl, b, hf, h => by
  simp only[List.map_cons,eqFs]at h;split at h
  ·rename_i ti hti;split at h
   ·cases h
   ·rename_i hag;split at h
    ·rename_i p q hp hq;split at h
     ·rename_i a c ha hc;injection h with h;subst h;have g1:zd ti xs f.offset=some p:=by unfold zd;rw[if_neg hag];exact hp
      have g2:zd ti ys f.offset=some q:=by unfold zd;rw[if_neg hag];exact hq
      obtain⟨x,k1,k2⟩:=qqg (hT _ _ hti) hx g1;obtain⟨y,k3,k4⟩:=qqg (hT _ _ hti) hy g2;exact eqf_cons (hf f List.mem_cons_self) k1 k3 (eqC_ok (hT _ _ hti) k2 k4 ha) (eqFs_ok hT hx hy fl c (fun g hg=>hf g (List.mem_cons_of_mem _ hg)) hc)
     ·cases h
    ·cases h
  ·cases h
theorem sl_some {A:Option Addr}{l c:Nat}{rows:List (List PV)}(h:R σ μ w (.slice A l c) (.sl rows))(hne:rows≠[]):A.isNone=false:=by
 cases h with
 |sl0 A c=>exact absurd rfl hne
 |sl a c sz _ u h1=>rfl
theorem abin_ok {op:BinOp}{t:TypeId}{x y:Value}{p q r:PV}(hT:∀t ti,T t=some ti→TOK P t ti)(hs:SR σ μ w)(hx:R σ μ w x p)(hy:R σ μ w y q)(h:abin T op t p q=some r)(X Y:Operand):
  ∃z,(do eqGuard op t X Y x y;binOp op t x y:Sem Value).run P w=.ok z w∧R σ μ w z r:=by
 unfold abin at h;split at h
 ·rename_i xs ys;split at h
  ·rename_i s1 s2 s3 s4 fs h0;split at h
   ·rename_i b hb;have ht:=hT _ _ h0;obtain⟨dd,u1,u2,u3⟩:=ht.und;clear u3;have hc:=ht.cmp;unfold cmpOf at hc;rw[u1]at hc;cases dd with
    | struct fl =>
     injection u2 with u2;simp only[Bool.and_eq_true,Bool.not_eq_true',List.all_eq_true]at hc;obtain⟨⟨c1,c2⟩,c3⟩:=hc;subst u2;cases hx with|ag vs _ a1 a2 a3=>
     cases hy with|ag us _ b1 b2 b3=>
     have hrun:=eqFs_ok (d:=9998) hT (.ag vs _ a1 a2 a3) (.ag us _ b1 b2 b3) fl.toList b (fun f hf=>(c3 f hf).2) hb;have hfo:P.fieldsOf t=fl:=by simp[Program.fieldsOf,u1]
     have hg:=run_eqGuard_agg (P:=P) w op t X Y vs us c1;have he:(Op.equalIn 10000 t (.agg vs) (.agg us)).run P w=.ok b w:=by
      rw[run_equalIn_struct (P:=P) w 9999 t vs us (by rw[hfo];exact u1) c2,hfo];exact hrun
     split at h
     ·injection h with h;subst h;exact⟨.bool b,by rw[Sem.run_bind,hg];simp only[Result.andThen_ok];rw[run_eql_struct,he];rfl,.v _ rfl⟩
     ·injection h with h;subst h;exact⟨.bool (!b),by rw[Sem.run_bind,hg];simp only[Result.andThen_ok];rw[run_neq_struct,he];rfl,.v _ rfl⟩
     ·cases h
    |_=>simp only[tk]at u2;cases u2
   ·cases h
  ·cases h
 ·rename_i k a k' b;obtain rfl:=R_v hx;obtain rfl:=R_v hy;split at h
  ·rename_i hk;subst hk;obtain⟨z,h1,rfl⟩:=Option.map_eq_some_iff.1 h;obtain⟨h2,h3⟩:=abinI_ok (P:=P) (w:=w) (t:=t) h1;exact⟨z,by rw[Sem.run_bind,Ju (fun _ h=>by cases h) (fun h=>by cases h)];exact h2,.v _ h3⟩
  ·cases h
 ·obtain rfl:=R_v hx;obtain rfl:=R_v hy;obtain⟨z,h1,rfl⟩:=Option.map_eq_some_iff.1 h;obtain⟨h2,h3⟩:=abinS_ok (P:=P) (w:=w) (t:=t) h1;exact⟨z,by rw[Sem.run_bind,Ju (fun _ h=>by cases h) (fun h=>by cases h)];exact h2,.v _ h3⟩
 ·rename_i a b;obtain rfl:=R_v hx;obtain rfl:=R_v hy;split at h
  ·rename_i h0;have hu:=bool_of (hT _ _ h0) rfl;have he:(Op.equal t (.bool a) (.bool b)).run P w=.ok (decide (a=b)) w:=by
    unfold Op.equal Op.maxDepth Op.equalIn;simp only[Sem.run_bind,run_underlying hu,Result.andThen_ok,Sem.run_pure];cases a<;>cases b<;>rfl
   split at h
   ·injection h with h;subst h;exact⟨.bool (decide (a=b)),by rw[Sem.run_bind,Ju (fun _ h=>by cases h) (fun h=>by cases h)];simp[binOp,he],.v _ rfl⟩
   ·injection h with h;subst h;exact⟨.bool (!decide (a=b)),by rw[Sem.run_bind,Ju (fun _ h=>by cases h) (fun h=>by cases h)];simp[binOp,he],.v _ rfl⟩
   ·cases h
  ·cases h
 ·obtain rfl:=R_v hy;split at h
  ·rename_i h0;have hu:=QA (hT _ _ h0) rfl;have run:∀A l c b,A.isNone=b→(do eqGuard .eql t X Y (.slice A l c) (.slice none 0 0);binOp .eql t (.slice A l c) (.slice none 0 0):Sem Value).run P w=.ok (.bool b) w:=fun A l c b hb=>by
    have he:(Op.equal t (.slice A l c) (.slice none 0 0)).run P w=.ok b w:=by
     subst hb;unfold Op.equal Op.maxDepth Op.equalIn;simp only[Sem.run_bind,run_underlying hu,Result.andThen_ok];cases A<;>rfl
    rw[Sem.run_bind,Ju (fun _ h=>by cases h) (fun h=>by cases h)];simp[binOp,he]
   unfold nilS at h;split at h
   ·rename_i hr;obtain⟨A,c,rfl,_⟩:=zN hx hr;injection h with h;subst h;exact⟨_,run A _ c _ rfl,.bb _⟩
   ·rename_i r rs hr;obtain⟨A,c,rfl,_,hsl⟩:=zN hx hr;injection h with h;subst h;exact⟨_,run A _ c false (sl_some hsl (by simp)),.v _ rfl⟩
   ·cases h
  ·cases h
 ·cases h
theorem aun_ok {op:UnOp}{x:Value}{p r:PV}(hx:R σ μ w x p)(h:aun op p=some r):∃z,(Op.unary op x).run P w=.ok z w∧R σ μ w z r:=by
 unfold aun at h;split at h
 ·obtain rfl:=R_v hx;split at h
  ·injection h with h;subst h;exact⟨_,by simp[Op.unary,Op.intArith],.v _ rfl⟩
  ·cases h
 ·obtain rfl:=R_v hx;split at h
  ·injection h with h;subst h;exact⟨_,by simp[Op.unary],.v _ rfl⟩
  ·cases h
 ·cases h
theorem st_conv (hs:SR σ μ w){s d:TypeId}{ts td:TI}{k k':IntKind}{n:Int}{x:Value}(h1:TOK P s ts)(h2:TOK P d td)(hk:td.kind=.int k)(hx:R σ μ w x (.v (.int k' n))):Good P σ μ w (do pure (.value (←convert s d x))) (.v (.int k (k.wrap n))) σ:=by
 obtain rfl:=R_v hx;obtain⟨e,he,_⟩:=h1.und;refine Good.val hs (x:=.int k (k.wrap n)) ?_ (.v _ rfl);simp[convert,run_underlying he,run_underlying (int_of h2 hk),Conv.intToInt]
theorem st_s2b (hs:SR σ μ w){s d e:TypeId}{ts td te:TI}{n:ByteArray}{x:Value}(h1:TOK P s ts)(h2:TOK P d td)(hk:td.kind=.slc e)(h3:TOK P e te)(hk3:te.kind=.int .u8)(hx:R σ μ w x (.v (.string n))):Good P σ μ w (do pure (.value (←convert s d x))) (.sl (n.data.toList.map fun b=>[.v (.int .u8 b.toNat)])) σ:=by
 obtain rfl:=R_v hx;obtain⟨u,hu,_⟩:=h1.und;have hr:=Lib.run_convert_string_bytes (P:=P) w s d e n hu (QA h2 hk) (int_of h3 hk3);have hw:w.grownBy (Lib.bytesWorld w e n) none:=⟨rfl,rfl,rfl,by rw[Lib.bytesWorld_size];omega,fun k hk _=>Lib.bytesWorld_at_old w e n k hk⟩;refine⟨.value (.slice (some ⟨w.heap.size,0,none⟩) n.size (grownCap w n.size 0 e)),_,_,μ,by simp only[Sem.run_bind,hr,Result.andThen_ok,Sem.run_pure],.inl rfl,JE hs hw,qqN hs hw,?_⟩;have hl:(n.data.toList.map fun b=>[PV.v (.int .u8 b.toNat)]).length=n.size:=by simp
 have key:∀i j,i<n.size→j<1→StC σ μ (Lib.bytesWorld w e n) ((⟨w.heap.size,0,none⟩:Addr).add (i*1+j)) (.int .u8 (n.data.toList.getD i 0).toNat):=fun i j hi hj=>by
  obtain rfl:j=0:=by omega
  rw[zX];simp only[Nat.mul_one,Nat.zero_add,Nat.add_zero];refine⟨Lib.bytesWorld_cell w e n i hi,?_⟩
  rintro⟨id,o,hl,hm,_⟩
  have:=hs.lt hl;simp only at hm;omega
 have:=R.sl (σ:=σ) (μ:=μ) (w:=Lib.bytesWorld w e n) ⟨w.heap.size,0,none⟩ (grownCap w n.size 0 e) 1 (n.data.toList.map fun b=>[PV.v (.int .u8 b.toNat)]) (fun i _=>.int .u8 (n.data.toList.getD i 0).toNat) (by rw[hl];exact grownCap_ge w n.size 0 e)
  (fun r hr=>by obtain⟨b,_,rfl⟩:=List.mem_map.1 hr;rfl) (fun i j hi hj=>key i j (by rw[hl]at hi;exact hi) hj) (fun _ _ _ _=>rfl) (fun i j r p hr hp=>by
   rw[List.getElem?_map]at hr;obtain⟨b,hb,rfl⟩:=Option.map_eq_some_iff.1 hr;rcases j with _|j
   ·simp at hp;subst hp;rw[List.getD_eq_getElem?_getD,hb];exact .v _ rfl
   ·simp at hp)
 rw[hl]at this;exact this
theorem zzl:∀(rows:List (List PV)) (l:List UInt8),strR rows=some l→∃ns:List Int,rows=ns.map (fun n=>[PV.v (.int .u8 n)])∧∀s:ByteArray,ns.foldl (fun r n=>r.push (UInt8.ofNat n.toNat)) s=⟨s.data++l.toArray⟩
 |[],l,h=>by simp[strR]at h;subst h;exact⟨[],rfl,fun s=>by simp⟩
 | r :: rows, l, h => by
  unfold strR at h;split at h
  ·cases ‹r::rows=[]›
  ·rename_i n r' he;injection he with he1 he2;subst he1 he2;obtain⟨l',hl',rfl⟩:=Option.map_eq_some_iff.1 h;obtain⟨ns,h1,h2⟩:=zzl rows l' hl';refine⟨n::ns,by rw[h1];rfl,fun s=> ?_⟩;rw[List.foldl_cons,h2];apply ByteArray.ext;simp[ByteArray.push]
  ·cases h
theorem st_b2s (hs:SR σ μ w){s d e:TypeId}{ts td te:TI}{rows:List (List PV)}{l:List UInt8}{x:Value}(h1:TOK P s ts)(hk1:ts.kind=.slc e)(h2:TOK P d td)(hk:td.kind=.str)(h3:TOK P e te)(hk3:te.kind=.int .u8)(hl:strR rows=some l)(hx:R σ μ w x (.sl rows)):Good P σ μ w (do pure (.value (←convert s d x))) (.v (.string ⟨l.toArray⟩)) σ:=by
 obtain⟨ns,rfl,hf⟩:=zzl rows l hl;have conv:∀(a:Option Addr) (l c:Nat),(convert s d (.slice a l c)).run P w=(Conv.bytesToString (.slice a l c)).run P w:=fun a l c=>run_convert_bytes_string w s d e a l c (QA h1 hk1) (int_of h3 hk3) (qqt h2 hk);have hfin:=hf .empty;have he:(⟨ByteArray.empty.data++l.toArray⟩:ByteArray)=⟨l.toArray⟩:=by apply ByteArray.ext;show #[]++l.toArray=_;simp
 rw[he]at hfin;have nil:ns=[]→l=[]:=fun h=>by subst h;simpa [strR] using hl.symm
 have some':∀(a:Addr) (c:Nat),(∀i,i<ns.length→w.cell? (a.add i)=some (.int .u8 (ns.getD i 0)))→Good P σ μ w (do pure (.value (←convert s d (.slice (some a) ns.length c)))) (.v (.string ⟨l.toArray⟩)) σ:=fun a c hc=>by
  refine Good.val hs (x:=.string ⟨l.toArray⟩) ?_ (.v _ rfl);rw[conv,run_bytesToString w a ns.length c ns ?_,hfin];have:=run_loadCells (P:=P) (w:=w) a ns.length (fun i=>.int .u8 (ns.getD i 0)) hc;rw[this];congr 1;apply Array.ext';simp;apply List.ext_getElem?;intro i;by_cases hi:i<ns.length<;>simp[hi,List.getD_eq_getElem?_getD]
 generalize hrows:ns.map (fun n=>[PV.v (.int .u8 n)])=rows at hx;have hlen:rows.length=ns.length:=by rw[←hrows];simp
 cases hx with
 | sl0 A c =>
  have hn:ns=[]:=by have:=congrArg List.length hrows;simpa using this
  obtain rfl:=nil hn;subst hn;cases A with
  |none=>exact Good.val hs (x:=.string ⟨#[]⟩) (by rw[conv];rfl) (.v _ rfl)
  |some a=>exact some' a c (fun i hi=>by simp at hi)
 | sl a c sz _ u g1 g2 g3 g4 g5 =>
  rw[hlen];refine some' a c fun i hi=> ?_;have hr:rows[i]? =some [PV.v (.int .u8 (ns.getD i 0))]:=by rw[←hrows,List.getElem?_map,List.getElem?_eq_getElem hi,List.getD_eq_getElem?_getD,List.getElem?_eq_getElem hi];rfl
  have hsz:sz=1:=by have:=g2 _ (List.mem_of_getElem? hr);simpa using this.symm
  subst hsz;have h5:=R_v (g5 i 0 _ _ hr (by rfl));have h6:=(g3 i 0 (by omega) (by omega)).1;rw[h5,Nat.mul_one,Nat.add_zero]at h6;exact h6
end
section
variable {P:Program} {T:TypeId→Option TI} {σ σ':Store} {μ μ':Nat→Nat} {w w':World}
theorem JM {x:Value}{rows:List (List PV)}(h:R σ μ w x (.sl rows)):(rows=[]∧∃A c,x=.slice A 0 c)∨∃(a:Addr) (c sz:Nat) (u:Nat→Nat→Value),x=.slice (some a) rows.length c∧rows.length≤c∧(∀r∈rows,r.length=sz)∧(∀i j,i<rows.length→j<sz→StC σ μ w (a.add (i*sz+j)) (u i j))∧
  (∀i j,i<rows.length→j<sz→(u i j).oneCell'=true)∧∀i j r p,rows[i]? =some r→r[j]? =some p→R σ μ w (u i j) p:=by
 cases h with
 |sl0 A c=>exact .inl ⟨rfl,A,c,rfl⟩
 |sl a c sz _ u h1 h2 h3 h4 h5=>exact .inr ⟨a,c,sz,u,rfl,h1,h2,h3,h4,h5⟩
theorem YI {k:IntKind}{n:Int}{y:Nat}{code:BoundsCode}(h0:0≤n)(h1:n≤y):(Instr.sliceBound (.int k n) y code).run P w=.ok n.toNat w:=by
 simp[Instr.sliceBound,asIntOf,h0,h1]
def hiA (env:Env)(hi:Option Operand)(n:Nat):Option Int:=match hi with|some h=>intOf? (val env h)|none=>some (n:Int)
theorem zzp (isS:Bool){len cap:Nat}{lo hi:Option Value}{l h:Int}(hlo:(lo=none∧l=0)∨∃k,lo=some (.int k l))(hhi:(hi=none∧h=len)∨∃k,hi=some (.int k h))(h0:0≤l)(h1:l≤h)(h2:h≤cap):
  (Instr.sliceBounds isS len cap lo hi none).run P w=.ok (l.toNat,h.toNat,cap) w:=by
 unfold Instr.sliceBounds;rcases hhi with⟨rfl,rfl⟩|⟨k,rfl⟩
 ·rcases hlo with⟨rfl,rfl⟩|⟨k',rfl⟩
  ·simp
  ·simp only[Sem.run_bind,Sem.run_pure,Result.andThen_ok,Option.isSome_none,Bool.false_eq_true,if_false,YI h0 (show l≤(len:Nat) from h1),Int.toNat_natCast]
 ·rcases hlo with⟨rfl,rfl⟩|⟨k',rfl⟩
  ·simp only[Sem.run_bind,Sem.run_pure,Result.andThen_ok,YI (show 0≤h by omega) h2];simp
  ·simp only[Sem.run_bind,Sem.run_pure,Result.andThen_ok,YI (show 0≤h by omega) h2,Option.isSome_none,Bool.false_eq_true,if_false,YI h0 (show l≤(h.toNat:Nat) by omega)]
theorem st_cut_str (hs:SR σ μ w){t:TypeId}{ti:TI}(ht:TOK P t ti)(hk:ti.kind=.str){x:Value}{s:ByteArray}{lo hi:Option Value}{l h:Int}(hx:R σ μ w x (.v (.string s)))
  (hlo:(lo=none∧l=0)∨∃k,lo=some (.int k l)) (hhi:(hi=none∧h=s.size)∨∃k,hi=some (.int k h)) (h0:0≤l) (h1:l≤h) (h2:h≤s.size):
  Good P σ μ w (do pure (.value (←Instr.sliceAt t x lo hi none))) (.v (.string (s.extract l.toNat h.toNat))) σ:=by
 obtain rfl:=R_v hx;have hb:=zzp (P:=P) (w:=w) false hlo hhi h0 h1 h2;refine Good.val hs (x:=.string (s.extract l.toNat h.toNat)) ?_ (.v _ rfl);simp only[Instr.sliceAt,Instr.slice,Sem.run_bind,run_underlying (qqt ht hk),Result.andThen_ok,Option.isSome_none,Bool.false_eq_true,if_false,hb,Sem.run_pure,Sem.run_ite]
theorem st_cut_sl (hs:SR σ μ w){t e:TypeId}{ti te:TI}(ht:TOK P t ti)(hk:ti.kind=.slc e)(hte:TOK P e te){x:Value}{p:PV}{rows:List (List PV)}{lo hi:Option Value}{l h:Int}(hx:R σ μ w x p)(hr:rowsOf p=some rows)
  (hlo:(lo=none∧l=0)∨∃k,lo=some (.int k l)) (hhi:(hi=none∧h=rows.length)∨∃k,hi=some (.int k h)) (h0:0≤l) (h1:l≤h) (h2:h≤rows.length) (hsz:∀r∈rows,r.length=te.sz):
  Good P σ μ w (do pure (.value (←Instr.sliceAt t x lo hi none))) (.sl ((rows.take h.toNat).drop l.toNat)) σ:=by
 obtain⟨A,c,rfl,hc,hsl⟩:=zN hx hr;have hb:=zzp (P:=P) (w:=w) (len:=rows.length) (cap:=c) true hlo hhi h0 h1 (by omega);have hlen:((rows.take h.toNat).drop l.toNat).length=h.toNat - l.toNat:=by simp;omega
 have hrun:(Instr.sliceAt t (.slice A rows.length c) lo hi none).run P w=.ok (.slice (if c=l.toNat then A else A.map (·.add (l.toNat*te.sz))) (h.toNat - l.toNat) (c - l.toNat)) w:=by
  simp only[Instr.sliceAt,Instr.slice,Sem.run_bind,run_underlying (QA ht hk),Result.andThen_ok,hb,Sem.run_pure,QJ hte]
 refine Good.val hs hrun ?_;by_cases he:h.toNat - l.toNat=0
 ·have:(rows.take h.toNat).drop l.toNat=[]:=List.eq_nil_of_length_eq_zero (by omega);rw[this,he];exact .sl0 _ _
 ·rw[if_neg (by omega)];rcases JM hsl with⟨rfl,_⟩|⟨a,c',sz,u,heq,k1,k2,k3,k4,k5⟩
  ·simp at h2;omega
  ·injection heq with e1 e2 e3;subst e1 e3;have hne:rows≠[]:=fun e=>by rw[e]at h2;simp at h2;omega
   obtain⟨r0,hr0⟩:=List.exists_mem_of_ne_nil rows hne;have hz:sz=te.sz:=(k2 r0 hr0).symm.trans (hsz r0 hr0);subst hz;have hget:∀i r,((rows.take h.toNat).drop l.toNat)[i]? =some r→rows[l.toNat+i]? =some r:=fun i r hi=>by
    rw[List.getElem?_drop,List.getElem?_take]at hi;split at hi
    ·exact hi
    ·cases hi
   have:=R.sl (σ:=σ) (μ:=μ) (w:=w) (a.add (l.toNat*te.sz)) (c - l.toNat) te.sz ((rows.take h.toNat).drop l.toNat) (fun i j=>u (l.toNat+i) j) (by rw[hlen];omega)
    (fun r hr=>hsz r (List.mem_of_mem_take (List.mem_of_mem_drop hr))) (fun i j hi hj=>by
     rw[add_add,←Nat.add_assoc,←Nat.add_mul];exact k3 _ j (by rw[hlen]at hi;omega) hj) (fun i j hi hj=>k4 _ j (by rw[hlen]at hi;omega) hj) (fun i j r p hr hp=>k5 _ j r p (hget i r hr) hp)
   rw[hlen]at this;exact this
theorem st_index_str (hs:SR σ μ w){t:TypeId}{ti:TI}(ht:TOK P t ti)(hk:ti.kind=.str){x y:Value}{q:PV}{s:ByteArray}{n:Int}{b:UInt8}(hx:R σ μ w x (.v (.string s)))(hy:R σ μ w y q)(hn:intOf? q=some n)(h0:0≤n)(hb:s.data.toList[n.toNat]? =some b):
  Good P σ μ w (do pure (.value (←Instr.index t x y))) (.v (.int .u8 b.toNat)) σ:=by
 obtain rfl:=R_v hx;obtain⟨k,rfl⟩:=Jk hy hn;have hb':s[n.toNat]? =some b:=by
  have h1:s.data[n.toNat]? =some b:=by simpa using hb
  obtain⟨hlt,he⟩:=Array.getElem?_eq_some_iff.1 h1;have hlt':n.toNat<s.size:=hlt;rw[getElem?_pos s n.toNat hlt'];exact congrArg some he
 exact Good.val hs (x:=.int .u8 b.toNat) (by simp only[Instr.index,asIntOf,Sem.run_bind,Sem.run_pure,Result.andThen_ok,run_underlying (qqt ht hk),h0,if_true,hb']) (.v _ rfl)
theorem st_index_arr (hs:SR σ μ w){t e:TypeId}{ti te:TI}{m:Nat}(ht:TOK P t ti)(hk:ti.kind=.arr m e)(hte:TOK P e te){x y:Value}{q p:PV}{cells:List PV}{n:Int}(hx:R σ μ w x (.ag cells))(hy:R σ μ w y q)(hn:intOf? q=some n)(h0:0≤n)(h1:n<m)(hp:zd te cells (n.toNat*te.sz)=some p):
  Good P σ μ w (do pure (.value (←Instr.index t x y))) p σ:=by
 obtain⟨k,rfl⟩:=Jk hy hn;obtain⟨cs,rfl⟩:=R_ag hx;obtain⟨z,h3,h4⟩:=qqg hte hx hp;exact Good.val hs (by simp only[Instr.index,asIntOf,Sem.run_bind,Sem.run_pure,Result.andThen_ok,run_underlying (arr_of ht hk),h0,h1,and_self,if_true,Sem.run_ite,QJ hte,h3]) h4
theorem len_str (hs:SR σ μ w){t ty:TypeId}{ti:TI}(ht:TOK P t ti)(hk:ti.kind=.str){tys:Array TypeId}(h0:tys[0]? =some t){x:Value}{s:ByteArray}(hx:R σ μ w x (.v (.string s))):(Builtin.len_ tys ty #[x]).run P w=.ok (.int .i64 s.size) w:=by
 obtain rfl:=R_v hx;simp[Builtin.len_,h0,run_underlying (qqt ht hk),goInt]
theorem qqC (hs:SR σ μ w){t e ty:TypeId}{ti:TI}(ht:TOK P t ti)(hk:ti.kind=.slc e){tys:Array TypeId}(h0:tys[0]? =some t){A:Option Addr}{n c:Nat}:(Builtin.len_ tys ty #[.slice A n c]).run P w=.ok (.int .i64 n) w:=by
 simp[Builtin.len_,h0,run_underlying (QA ht hk),goInt]
end
section
variable {P:Program} {T:TypeId→Option TI} {σ σ':Store} {μ μ':Nat→Nat} {w w':World}
theorem bbeq (a b:ByteArray):(a==b)=decide (a=b):=by
 obtain⟨a⟩:=a;obtain⟨b⟩:=b;show(a==b)=_;by_cases h:a=b
 ·subst h;simp
 ·simp[h]
theorem kkOf_ok {k:TypeId}{tk:TI}{kk:KK}(h:TOK P k tk)(hk:JY tk.kind=some kk):(kk=.s∧P.underlying k=some .string)∨∃q,kk=.i q∧P.underlying k=some (.int q):=by
 unfold JY at hk;split at hk
 ·rename_i hh;injection hk with hk;exact .inl ⟨hk.symm,qqt h hh⟩
 ·rename_i q hh;injection hk with hk;exact .inr ⟨_,hk.symm,int_of h hh⟩
 ·cases hk
theorem keyA_ok {kk:KK}{x:Value}{p:PV}{key:Value}(hx:R σ μ w x p)(hk:keyA kk p=some key):x=key∧kk.ok key:=by
 unfold keyA at hk;split at hk
 ·split at hk
  ·rename_i hh;injection hk with hk;exact⟨(R_v hx).trans hk,by rw[hh,←hk];exact⟨_,rfl⟩⟩
  ·cases hk
 ·split at hk
  ·rename_i hh;injection hk with hk;exact⟨(R_v hx).trans hk,by rw[hh,←hk];exact⟨_,rfl⟩⟩
  ·cases hk
 ·cases hk
theorem JJ {k:TypeId}{tk:TI}{kk:KK}{key:Value}(h:TOK P k tk)(hk:JY tk.kind=some kk)(ho:kk.ok key)(b:Bool):(Instr.checkKey b 10000 k key).run P w=.ok () w:=by
 rcases kkOf_ok h hk with⟨rfl,hu⟩|⟨q,rfl,hu⟩
 ·obtain⟨x,rfl⟩:=ho;unfold Instr.checkKey;simp only[Sem.run_bind,run_underlying hu,Result.andThen_ok,Sem.run_pure]
 ·obtain⟨x,rfl⟩:=ho;unfold Instr.checkKey;simp only[Sem.run_bind,run_underlying hu,Result.andThen_ok,Sem.run_pure]
open Classical in
theorem sameNow_ok {k:TypeId}{tk:TI}{kk:KK}{key key':Value}{d:TypeDesc}(hd:P.underlying k=some d)(h:TOK P k tk)(hk:JY tk.kind=some kk)(ho:kk.ok key)(ho':kk.ok key'):Instr.sameNow d key key'=some (decide (key'=key)):=by
 rcases kkOf_ok h hk with⟨rfl,hu⟩|⟨q,rfl,hu⟩
 ·obtain⟨x,rfl⟩:=ho;obtain⟨y,rfl⟩:=ho';rw[hd]at hu;injection hu with hu;subst hu;simp only[Instr.sameNow,bbeq];by_cases he:x=y
  ·subst he;simp
  ·have:¬(Value.string y=Value.string x):=fun e=>he (by injection e with e;exact e.symm);simp[he,this]
 ·obtain⟨x,rfl⟩:=ho;obtain⟨y,rfl⟩:=ho';rw[hd]at hu;injection hu with hu;subst hu;simp only[Instr.sameNow,if_true];by_cases he:x=y
  ·subst he;simp
  ·have:¬(Value.int q y=Value.int q x):=fun e=>he (by injection e with _ e;exact e.symm);simp[he,this]
theorem zzt {k:TypeId}{tk:TI}{kk:KK}{key:Value}{d:TypeDesc}(hd:P.underlying k=some d)(h:TOK P k tk)(hk:JY tk.kind=some kk)(ho:kk.ok key):∀(es:List MapEntry) (i:Nat),(∀e∈es,kk.ok e.key)→
  (∃(j:Nat) (e:MapEntry),es[j]? =some e∧e.key=key∧Instr.findNow d key es i=some (some (i+j,e.val)))∨((∀e∈es,e.key≠key)∧Instr.findNow d key es i=some none)
 |[],i,_=>.inr ⟨by simp,rfl⟩
 | e :: es, i, ha => by
  have hs:=sameNow_ok hd h hk ho (ha e List.mem_cons_self);unfold Instr.findNow;rw[hs];by_cases he:e.key=key
  ·exact .inl ⟨0,e,rfl,he,by simp[he]⟩
  ·simp only[he,decide_false];rcases zzt hd h hk ho es (i+1) (fun e he=>ha e (List.mem_cons_of_mem _ he))with⟨j,e',h1,h2,h3⟩|⟨h1,h2⟩
   ·exact .inl ⟨j+1,e',by simpa using h1,h2,by rw[h3];congr 3;omega⟩
   ·exact .inr ⟨fun x hx=>by
     rcases List.mem_cons.1 hx with rfl|hx
     ·exact he
     ·exact h1 x hx,h2⟩
theorem zzu {k:TypeId}{tk:TI}{kk:KK}{key:Value}(h:TOK P k tk)(hk:JY tk.kind=some kk)(ho:kk.ok key)(es:List MapEntry)(ha:∀e∈es,kk.ok e.key):
  (∃(j:Nat) (e:MapEntry),es[j]? =some e∧e.key=key∧(Instr.findKey k key es).run P w=.ok (some (j,e.val)) w)∨((∀e∈es,e.key≠key)∧(Instr.findKey k key es).run P w=.ok none w):=by
 obtain⟨d,hd,_⟩:=h.und;rcases zzt hd h hk ho es 0 ha with⟨j,e,h1,h2,h3⟩|⟨h1,h2⟩
 ·refine .inl ⟨j,e,h1,h2,?_⟩;simp only[Instr.findKey,Sem.run_bind,run_underlying hd,Result.andThen_ok,h3,Sem.run_pure,Nat.zero_add]
 ·refine .inr ⟨h1,?_⟩;simp only[Instr.findKey,Sem.run_bind,run_underlying hd,Result.andThen_ok,h2,Sem.run_pure]
theorem Yd {r:Nat}{es:Array MapEntry}{c:Nat}(h:w.heap[r]? =some (.map es c)):(getObj r).run P w=.ok (.map es c) w:=by
 simp[getObj,Sem.run,h]
theorem mp_val {id:Nat}{x:Value}{kk:KK}{m:Value→Option PV}{n:Nat}(hx:R σ μ w x (.mp id))(ho:σ[id]? =some (some (.map kk m n))):x=.map (some (μ id)):=by
 cases hx with
 |mp _ _ _ _ h3=>exact h3 ⟨_,_,_,ho,by simp⟩
theorem st_lookup (hs:SR σ μ w){t k e:TypeId}{ti tk te:TI}(ht:TOK P t ti)(hm:ti.kind=.map k e)(htk:TOK P k tk)(hte:TOK P e te){kk:KK}(hkk:JY tk.kind=some kk){x y:Value}{q:PV}{key:Value}{id n:Nat}{mm:Value→Option PV}(ok:Bool)
  (hx:R σ μ w x (.mp id)) (ho:σ[id]? =some (some (.map kk mm n))) (hy:R σ μ w y q) (hk:keyA kk q=some key):
  Good P σ μ w (do pure (.value (←Instr.lookup t x y ok))) (if ok then .tu [(mm key).getD (zpv te),.v (.bool (mm key).isSome)]else(mm key).getD (zpv te)) σ:=by
 obtain rfl:=mp_val hx ho;obtain⟨rfl,hok⟩:=keyA_ok hy hk;obtain⟨es,clock,h1,h2,h3,h4,h5⟩:=hs.obj id _ ⟨ho,by simp⟩;obtain⟨z,z1,z2,z3,z4⟩:=tok_zero (w:=w) hte;obtain⟨hz,_,_⟩:=zrow_R (σ:=σ) (μ:=μ) (w:=w) z2 z3 z4;have hall:∀e∈es.toList,kk.ok e.key:=fun e he=>by
  obtain⟨i,hi⟩:=List.getElem?_of_mem he;exact(h4 i e (by simpa using hi)).1
 rcases zzu (w:=w) htk hkk hok es.toList hall with⟨j,e,k1,k2,k3⟩|⟨k1,k2⟩
 ·obtain⟨_,p,hp,hr⟩:=h4 j e (by simpa using k1);rw[k2]at hp;rw[hp];have hrun:(Instr.lookup t (.map (some (μ id))) y ok).run P w=.ok (if ok then .tuple #[e.val,.bool true]else e.val) w:=by
   simp only[Instr.lookup,Sem.run_bind,run_underlying (map_of ht hm),Result.andThen_ok,Yd h1,Sem.run_pure,JJ htk hkk hok,k3]
  refine Good.val hs hrun ?_;cases ok with
  |false=>exact hr
  | true =>
   refine .tu _ _ rfl fun i x p hx hp=> ?_
   match i,hx,hp with
   |0,hx,hp=>simp at hx hp;subst hx hp;exact hr
   |1,hx,hp=>simp at hx hp;subst hx hp;exact .v _ rfl
   |n+2,hx,hp=>simp at hp
 ·have hnone:mm y=none:=by
   cases hq:mm y with
   |none=>rfl
   | some p =>
    obtain⟨i,e,g1,g2⟩:=h5 y p hq;exact absurd g2 (k1 e (List.mem_of_getElem? (l:=es.toList) (i:=i) (by simpa using g1)))
  rw[hnone];have hrun:(Instr.lookup t (.map (some (μ id))) y ok).run P w=.ok (if ok then .tuple #[z,.bool false]else z) w:=by
   simp only[Instr.lookup,Sem.run_bind,run_underlying (map_of ht hm),Result.andThen_ok,Yd h1,Sem.run_pure,JJ htk hkk hok,k2,z1]
  refine Good.val hs hrun ?_;cases ok with
  |false=>exact hz
  | true =>
   refine .tu _ _ rfl fun i x p hx hp=> ?_
   match i,hx,hp with
   |0,hx,hp=>simp at hx hp;subst hx hp;exact hz
   |1,hx,hp=>simp at hx hp;subst hx hp;exact .v _ rfl
   |n+2,hx,hp=>simp at hp
theorem set_grown {r:Nat}{o:Obj}:w.grownBy {w with heap:=w.heap.setIfInBounds r o} (some r):=
 ⟨rfl,rfl,rfl,by simp,fun k hk hne=>by
  rw[Array.getElem?_setIfInBounds_ne];exact fun e=>hne (by rw[e])⟩
theorem sameBits_key {kk:KK}{key:Value}(h:kk.ok key):Instr.sameBits 10000 key key=true:=by
 cases kk with
 |s=>obtain⟨x,rfl⟩:=h;unfold Instr.sameBits;simp[bbeq]
 |i k=>obtain⟨x,rfl⟩:=h;unfold Instr.sameBits;simp
theorem st_put (hs:SR σ μ w){t k e:TypeId}{ti tk:TI}(ht:TOK P t ti)(hm:ti.kind=.map k e)(htk:TOK P k tk){kk:KK}(hkk:JY tk.kind=some kk){x y z:Value}{q p:PV}{key:Value}{id n:Nat}{mm:Value→Option PV}
  (hx:R σ μ w x (.mp id)) (ho:σ[id]? =some (some (.map kk mm n))) (hy:R σ μ w y q) (hk:keyA kk q=some key) (hz:R σ μ w z p):
  ∃w',(Instr.mapUpdate t x y z).run P w=.ok () w'∧Ext σ μ w (σ.set id (some (.map kk (upm mm key p) (n+1)))) μ w'∧SR (σ.set id (some (.map kk (upm mm key p) (n+1)))) μ w':=by
 obtain rfl:=mp_val hx ho;obtain⟨rfl,hok⟩:=keyA_ok hy hk;have hl:live σ id (.map kk mm n):=⟨ho,by simp⟩;obtain⟨es,clock,h1,h2,h3,h4,h5⟩:=hs.obj id _ hl;have hall:∀e∈es.toList,kk.ok e.key:=fun e he=>by
  obtain⟨i,hi⟩:=List.getElem?_of_mem he;exact(h4 i e (by simpa using hi)).1
 have hlt:=hs.lt hl;have fin:∀es' clock',(∀e'∈es'.toList,e'=e'→True)→(Instr.mapUpdate t (.map (some (μ id))) y z).run P w=.ok () {w with heap:=w.heap.setIfInBounds (μ id) (.map es' clock')}→es'.size≤n+1→
   (∀(i j:Nat) e e',es'[i]? =some e→es'[j]? =some e'→e.key=e'.key→i=j)→
   (∀(i:Nat) e,es'[i]? =some e→kk.ok e.key∧((e.key=y∧e.val=z)∨(e.key≠y∧∃(i':Nat) (e':MapEntry),es[i']? =some e'∧e'.key=e.key∧e'.val=e.val)))→
   (∃(i:Nat) (e:MapEntry),es'[i]? =some e∧e.key=y)→(∀(i:Nat) e,es[i]? =some e→∃(i':Nat) (e':MapEntry),es'[i']? =some e'∧e'.key=e.key)→
   ∃w',(Instr.mapUpdate t (.map (some (μ id))) y z).run P w=.ok () w'∧Ext σ μ w (σ.set id (some (.map kk (upm mm y p) (n+1)))) μ w'∧SR (σ.set id (some (.map kk (upm mm y p) (n+1)))) μ w':=by
  intro es' clock' _ hrun g1 g2 g3 g4 g5;have hw:w.grownBy {w with heap:=w.heap.setIfInBounds (μ id) (.map es' clock')} (some (μ id)):=set_grown;have he:Ext σ μ w (σ.set id (some (.map kk (upm mm y p) (n+1)))) μ {w with heap:=w.heap.setIfInBounds (μ id) (.map es' clock')}:=Jl hs hl (by simp) rfl hw (fun e sz len cur h=>by cases h);refine⟨_,hrun,he,JL hs hl he hw ⟨es',clock',?_,g1,g2,fun i e hi=> ?_,fun k' p' hp'=> ?_⟩⟩
  ·simp[hlt]
  ·obtain⟨a1,a2⟩:=g3 i e hi;refine⟨a1,?_⟩;rcases a2 with⟨b1,b2⟩|⟨b1,i',e',b2,b3,b4⟩
   ·exact⟨p,by unfold upm;rw[if_pos b1],by rw[b2];exact hz.ext hs he⟩
   ·obtain⟨_,p0,c1,c2⟩:=h4 i' e' b2;refine⟨p0,by unfold upm;rw[if_neg b1,←b3];exact c1,?_⟩;rw[←b4];exact c2.ext hs he
  ·unfold upm at hp';by_cases hkey:k'=y
   ·obtain⟨i,e,hi,hek⟩:=g4;exact⟨i,e,hi,by rw[hek,hkey]⟩
   ·rw[if_neg hkey]at hp';obtain⟨i,e,hi,hek⟩:=h5 k' p' hp';obtain⟨i',e',c1,c2⟩:=g5 i e hi;exact⟨i',e',c1,by rw[c2,hek]⟩
 have hset:∀(o:Obj),(∀c t f,o≠ .cells c t f)→(setObj (μ id) o).run P w=.ok () {w with heap:=w.heap.setIfInBounds (μ id) o}:=fun o _=>by simp[setObj,Sem.run,h1]
 rcases zzu (w:=w) htk hkk hok es.toList hall with⟨j,e,k1,k2,k3⟩|⟨k1,k2⟩
 ·have k1':es[j]? =some e:=by simpa using k1
  refine fin (es.modify j fun e=>{e with key:=y,val:=z}) clock (fun _ _ _=>trivial) ?_ (by simp;omega) (fun i i' a b ha hb hab=> ?_) (fun i a ha=> ?_) ⟨j,{e with key:=y,val:=z},by simp[Array.getElem?_modify,k1'],rfl⟩ (fun i a ha=> ?_)
  ·have hkt:(Instr.keyThatStays e.key y).run P w=.ok y w:=by
    rw[k2];simp[Instr.keyThatStays,sameBits_key hok]
   simp only[Instr.mapUpdate,Sem.run_bind,run_underlying (map_of ht hm),Result.andThen_ok,Yd h1,JJ htk hkk hok,k3,k1',Option.map_some,Option.getD_some,hkt];exact hset _ (by simp)
  ·have key_of:∀(i:Nat) (a:MapEntry),(es.modify j fun e=>{e with key:=y,val:=z})[i]? =some a→∃a',es[i]? =some a'∧a'.key=a.key:=fun i a ha=>by
    rw[Array.getElem?_modify]at ha;split at ha
    ·rename_i hj;obtain⟨a',b1,rfl⟩:=Option.map_eq_some_iff.1 ha;subst hj;rw[k1']at b1;injection b1 with b1;exact⟨e,k1',k2⟩
    ·exact⟨a,ha,rfl⟩
   obtain⟨a',c1,c2⟩:=key_of i a ha;obtain⟨b',d1,d2⟩:=key_of i' b hb;exact h3 i i' a' b' c1 d1 (by rw[c2,d2,hab])
  ·rw[Array.getElem?_modify]at ha;split at ha
   ·obtain⟨a',b1,rfl⟩:=Option.map_eq_some_iff.1 ha;exact⟨hok,.inl ⟨rfl,rfl⟩⟩
   ·rename_i hj;refine⟨(h4 i a ha).1,.inr ⟨fun he=>hj ?_,i,a,ha,rfl,rfl⟩⟩;exact(h3 i j a e ha k1' (he.trans k2.symm)).symm
  ·by_cases hj:j=i
   ·subst hj;refine⟨j,{e with key:=y,val:=z},by simp[Array.getElem?_modify,k1'],?_⟩;rw[k1']at ha;injection ha with ha;rw[←ha,k2]
   ·exact⟨i,a,by rw[Array.getElem?_modify,if_neg hj];exact ha,rfl⟩
 ·have hno:∀(i:Nat) (a:MapEntry),es[i]? =some a→a.key≠y:=fun i a ha=>k1 a (List.mem_of_getElem? (l:=es.toList) (i:=i) (by simpa using ha));have hpush:∀(i:Nat) (a:MapEntry),(es.push {key:=y,val:=z,born:=clock})[i]? =some a→(i<es.size∧es[i]? =some a)∨(i=es.size∧a={key:=y,val:=z,born:=clock}):=fun i a ha=>by
   rw[Array.getElem?_push]at ha;split at ha
   ·rename_i hi;injection ha with ha;exact .inr ⟨hi,ha.symm⟩
   ·exact .inl ⟨(Array.getElem?_eq_some_iff.1 ha).1,ha⟩
  refine fin (es.push {key:=y,val:=z,born:=clock}) (clock+1) (fun _ _ _=>trivial) ?_ (by simp;omega) (fun i i' a b ha hb hab=> ?_) (fun i a ha=> ?_) ⟨es.size,{key:=y,val:=z,born:=clock},by simp,rfl⟩ (fun i a ha=> ?_)
  ·simp only[Instr.mapUpdate,Sem.run_bind,run_underlying (map_of ht hm),Result.andThen_ok,Yd h1,JJ htk hkk hok,k2];exact hset _ (by simp)
  ·rcases hpush i a ha with⟨c1,c2⟩|⟨c1,c2⟩<;>rcases hpush i' b hb with⟨d1,d2⟩|⟨d1,d2⟩
   ·exact h3 i i' a b c2 d2 hab
   ·exact absurd (by rw[hab,d2]) (hno i a c2)
   ·exact absurd (by rw[←hab,c2]) (hno i' b d2)
   ·omega
  ·rcases hpush i a ha with⟨c1,c2⟩|⟨c1,c2⟩
   ·exact⟨(h4 i a c2).1,.inr ⟨hno i a c2,i,a,c2,rfl,rfl⟩⟩
   ·subst c2;exact⟨hok,.inl ⟨rfl,rfl⟩⟩
  ·have:=(Array.getElem?_eq_some_iff.1 ha).1;exact⟨i,a,by rw[Array.getElem?_push,if_neg (by omega)];exact ha,rfl⟩
end
section
variable {P:Program} {T:TypeId→Option TI} {σ σ':Store} {μ μ':Nat→Nat} {w w':World}
theorem ow_mk {t g e sz len cap:Nat}{cs:Array Value}{rows:List (List PV)}{u:Nat→Nat→Value}(hb:w'.heap[g]? =some (.cells cs e (0,0)))(hsz:cs.size=cap*sz)(hlen:rows.length=len)(hle:len≤cap)(hm:cap≤maxLen)(hrow:∀r∈rows,r.length=sz)
  (hcell:∀i j,i<len→j<sz→cs[i*sz+j]? =some (u i j)) (hone:∀i j,i<len→j<sz→(u i j).oneCell'=true) (hR:∀i j r p,rows[i]? =some r→r[j]? =some p→R σ' μ' w' (u i j) p)
  (hl:live σ' t (.tok e sz len)) (hμ:μ' t=g) (honly:∀id o,live σ' id o→μ' id=g→id=t):R σ' μ' w' (.slice (some ⟨g,0,none⟩) len cap) (.ow t rows):=by
 subst hlen;refine .ow _ _ _ (.sl _ _ sz rows u hle hrow (fun i j hi hj=>⟨?_,?_⟩) hone hR) hl.known (fun hh=>by have h:σ'[t]? =_:=hh;rw[hl.1]at h;cases h) fun e' sz' len' hl'=> ?_
 ·rw[zX];simp only[World.cell?,hb,Nat.zero_add,Option.isSome_none,Bool.false_eq_true,if_false];exact hcell i j hi hj
 ·rintro⟨id,o,hl',hm',how⟩
  rw[add_blk]at hm';obtain rfl:=honly id o hl' hm';obtain rfl:=hl'.eq hl;rw[zX]at how;have:(i+1)*sz≤rows.length*sz:=Nat.mul_le_mul_right _ hi;rw[Nat.succ_mul,Nat.mul_comm rows.length]at this;simp only[AObj.owns]at how;omega
 ·have he:=hl'.eq hl;injection he with h1 h2 h3;subst h1 h2 h3;exact⟨Nat.le_refl _,fun _=>⟨cap,cs,by rw[hμ],by rw[hμ];exact hb,hle,hm,hsz⟩⟩
def zh (u:Nat→Nat→Value)(sz n:Nat):List Value:=(List.range (n*sz)).map fun k=>u (k / sz) (k % sz)
theorem ZA (u:Nat→Nat→Value)(sz n:Nat):(zh u sz n).length=n*sz:=by simp[zh]
theorem JU {u:Nat→Nat→Value}{sz n k:Nat}{x:Value}(h:(zh u sz n)[k]? =some x):k<n*sz∧x=u (k / sz) (k % sz):=by
 unfold zh at h;rw[List.getElem?_map]at h;by_cases hk:k<n*sz
 ·rw[List.getElem?_range hk]at h;exact⟨hk,by simpa using h.symm⟩
 ·rw[List.getElem?_eq_none (by simp;omega)]at h;cases h
theorem zzg {u:Nat→Nat→Value}{sz n i j:Nat}(hi:i<n)(hj:j<sz):(zh u sz n)[i*sz+j]? =some (u i j):=by
 have h1:(i+1)*sz≤n*sz:=Nat.mul_le_mul_right _ hi;rw[Nat.succ_mul]at h1;unfold zh;rw[List.getElem?_map,List.getElem?_range (by omega)];have h2:(i*sz+j) / sz=i:=by
  rw[Nat.mul_comm,Nat.mul_add_div (by omega),Nat.div_eq_of_lt hj];omega
 have h3:(i*sz+j) % sz=j:=by
  rw[Nat.mul_comm,Nat.mul_add_mod,Nat.mod_eq_of_lt hj]
 simp[h2,h3]
theorem JI {a:Addr}{u:Nat→Nat→Value}{sz n:Nat}(h0:0<sz)(h:∀i j,i<n→j<sz→StC σ μ w (a.add (i*sz+j)) (u i j)):∀j v,(zh u sz n)[j]? =some v→w.cell? (a.add j)=some v:=by
 intro k v hv;obtain⟨h1,rfl⟩:=JU hv;have h2:=(h (k / sz) (k % sz) (by rw[Nat.div_lt_iff_lt_mul h0];exact h1) (Nat.mod_lt _ h0)).1;rw[Nat.mul_comm,Nat.div_add_mod]at h2;exact h2
theorem flatU_one {u:Nat→Nat→Value}{sz n:Nat}(h0:0<sz)(h:∀i j,i<n→j<sz→(u i j).oneCell'=true):∀v∈zh u sz n,v.oneCell'=true:=by
 intro v hv;obtain⟨k,hk⟩:=List.getElem?_of_mem hv;obtain⟨h1,rfl⟩:=JU hk;exact h _ _ (by rw[Nat.div_lt_iff_lt_mul h0];exact h1) (Nat.mod_lt _ h0)
theorem Zb {z:Array Value}{n:Nat}:(Builtin.zeroCells z n).size=n*z.size:=by simp[Builtin.zeroCells]
def Jc (P:Program)(tys:Array TypeId)(ty:TypeId)(x y:Value):Sem Next:=do pure (.value (←Builtin.append_ tys ty #[x,y]))
theorem Jv (o:Obj):w.grownBy (w.drew.alloc o) none:=⟨rfl,rfl,rfl,by simp,fun k hk _=>heap_alloc_old w.drew o hk⟩
theorem qqq {t e ty:TypeId}{ti te:TI}(ht:TOK P t ti)(hk:ti.kind=.slc e)(hte:TOK P e te)(h0:0<te.sz){x:Value}{a:Addr}{c k:Nat}{u:Nat→Nat→Value}(hx':x=.slice none 0 0∨∃b,x=.slice (some b) 0 0)
  (k3:∀i j,i<k→j<te.sz→StC σ μ w (a.add (i*te.sz+j)) (u i j)) (hpos:0<k) (hb:k*te.bytes≤140737488355328) (hm:k≤140737488355328):
  ∃(z:Value) (cap:Nat),z.cells.size=te.sz∧k≤cap∧cap≤maxLen∧(Builtin.append_ #[t,t] ty #[x,.slice (some a) k c]).run P w=.ok (.slice (some ⟨w.heap.size,0,none⟩) k cap) (w.drew.alloc (.cells ((zh u te.sz k).toArray++Builtin.zeroCells z.cells (cap - k)) e)):=by
 obtain⟨ie,z,g1,g2,g3,g4,g5,g6,g7⟩:=hte.info;have hzs:z.cells.size=te.sz:=by have h1:=congrArg List.length g5;have h2:=hte.zl;simp at h1;omega
 have hfl:=ZA u te.sz k;rcases hx' with rfl|⟨b,rfl⟩
 ·exact⟨z,_,hzs,grownCap_ge w k 0 e,grownCap_le_maxLen w k 0 e (by unfold maxLen;omega),
   run_append_nil (P:=P) w t ty e ie z (QA ht hk) g1 g4 a k c (zh u te.sz k) (by rw[g2];exact hfl) (JI h0 k3) hpos (by omega) (by rw[g3];omega)⟩
 ·have:=run_append_grow (P:=P) w t ty e ie z (QA ht hk) g1 g4 b 0 0 [] (by simp) (by simp) a k c (zh u te.sz k) (by rw[g2];exact hfl) (JI h0 k3) (by omega) (by omega) (by rw[g3];exact growslice_fits (by omega) (by rw[Nat.zero_add];exact hb));simp only[Nat.zero_add,Array.empty_append]at this;exact⟨z,_,hzs,grownCap_ge w k 0 e,grownCap_le_maxLen w k 0 e (by unfold maxLen;omega),this⟩
theorem app_run {t e ty g0:Nat}{ti te:TI}(ht:TOK P t ti)(hk:ti.kind=.slc e)(hte:TOK P e te)(h0:0<te.sz){a:Addr}{c k n cap0:Nat}{u:Nat→Nat→Value}{cur:Array Value}(hlt:g0<w.heap.size)(hcur:w.heap[g0]? =some (.cells cur e (0,0)))
  (q1:n≤cap0) (q2:cap0≤maxLen) (q3:cur.size=cap0*te.sz) (k3:∀i j,i<k→j<te.sz→StC σ μ w (a.add (i*te.sz+j)) (u i j)) (k4:∀i j,i<k→j<te.sz→(u i j).oneCell'=true) (hpos:0<k) (hb:(n+k)*te.bytes≤140737488355328) (hm:n+k≤140737488355328):
  ∃(w':World) (g' cap:Nat) (cs cur':Array Value),w.grownBy w' (some g0)∧w'.heap[g0]? =some (.cells cur' e (0,0))∧(∀j,j<te.sz*n→cur'[j]? =cur[j]?)∧(g'=g0∨w.heap.size≤g')∧w'.heap[g']? =some (.cells cs e (0,0))∧cs.size=cap*te.sz∧n+k≤cap∧cap≤maxLen∧
   (∀j,j<n*te.sz→cs[j]? =cur[j]?)∧(∀j,j<k*te.sz→cs[n*te.sz+j]? =(zh u te.sz k)[j]?)∧(Builtin.append_ #[t,t] ty #[.slice (some ⟨g0,0,none⟩) n cap0,.slice (some a) k c]).run P w=.ok (.slice (some ⟨g',0,none⟩) (n+k) cap) w':=by
 obtain⟨ie,z,g1,g2,g3,g4,g5,g6,g7⟩:=hte.info;have hzs:z.cells.size=te.sz:=by have h1:=congrArg List.length g5;have h2:=hte.zl;simp at h1;omega
 have hfl:=ZA u te.sz k;have hcap:n*te.sz≤cap0*te.sz:=Nat.mul_le_mul_right _ q1;by_cases hroom:n+k≤cap0
 ·have hadd:(n+k)*te.sz≤cap0*te.sz:=Nat.mul_le_mul_right _ hroom;rw[Nat.add_mul]at hadd;have hrun:=run_append_room (P:=P) w t ty e ie (QA ht hk) g1 g0 n cap0 cur hcur a k c (zh u te.sz k) (by rw[g2];exact hfl) (JI h0 k3) (flatU_one h0 k4) hroom (by rw[g2];omega);rw[g2]at hrun;have hset:=setRow_heap w g0 cur (cur.toList.take (n*te.sz)++zh u te.sz k++cur.toList.drop (n*te.sz+(zh u te.sz k).length)).toArray e (0,0) hcur;have hget:=fun j=>ZP (cells:=cur.toList) (off:=n*te.sz) (c:=zh u te.sz k) (by simp;omega) j;refine⟨_,g0,cap0,_,_,Yw hlt,hset,fun j hj=> ?_,.inl rfl,hset,by simp;omega,hroom,q2,fun j hj=> ?_,fun j hj=> ?_,hrun⟩
  ·rw[Nat.mul_comm]at hj;rw[List.getElem?_toArray,hget,if_pos hj];simp
  ·rw[List.getElem?_toArray,hget,if_pos hj];simp
  ·rw[List.getElem?_toArray,hget,if_neg (by omega),if_pos (by omega)];congr 1;omega
 ·have hro:∀j v,(cur.toList.take (n*te.sz))[j]? =some v→w.cell? ((⟨g0,0,none⟩:Addr).add j)=some v:=fun j v hv=>by
   rw[List.getElem?_take]at hv;split at hv
   ·rw[zX];simpa [World.cell?,hcur] using hv
   ·cases hv
  have hrun:=run_append_grow (P:=P) w t ty e ie z (QA ht hk) g1 g4 ⟨g0,0,none⟩ n cap0 (cur.toList.take (n*te.sz)) (by rw[g2];simp;omega) hro a k c (zh u te.sz k) (by rw[g2];exact hfl) (JI h0 k3) (by omega) (by omega) (by rw[g3];exact growslice_fits (by omega) hb);have c1:=grownCap_ge w (n+k) cap0 e;have c2:=grownCap_le_maxLen w (n+k) cap0 e (by unfold maxLen;omega);have hw:=Jv (w:=w) (.cells ((cur.toList.take (n*te.sz)).toArray++(zh u te.sz k).toArray++Builtin.zeroCells z.cells (grownCap w (n+k) cap0 e - (n+k))) e);have hbk:=heap_alloc_new w.drew (.cells ((cur.toList.take (n*te.sz)).toArray++(zh u te.sz k).toArray++Builtin.zeroCells z.cells (grownCap w (n+k) cap0 e - (n+k))) e);have htk:(cur.toList.take (n*te.sz)).length=n*te.sz:=by simp;omega
  refine⟨_,w.heap.size,_,_,cur,⟨hw.os,hw.tape,hw.output,hw.size,fun k hk' _=>hw.block k hk' (by simp)⟩,(hw.block _ hlt (by simp)).trans hcur,fun _ _=>rfl,.inr (Nat.le_refl _),hbk,?_,c1,c2,fun j hj=> ?_,fun j hj=> ?_,hrun⟩
  ·simp only[Array.size_append,List.size_toArray,htk,hfl,Zb,hzs,←Nat.add_mul];congr 1;omega
  ·rw[Array.getElem?_append_left (by simp[hfl];omega),Array.getElem?_append_left (by simp;omega)];simp[List.getElem?_take,hj]
  ·rw[Array.getElem?_append_left (by simp[hfl];omega),Array.getElem?_append_right (by simp;omega)];simp only[List.size_toArray,htk,List.getElem?_toArray];congr 1;omega
theorem app_new (hs:SR σ μ w){t e ty:TypeId}{ti te:TI}(ht:TOK P t ti)(hk:ti.kind=.slc e)(hte:TOK P e te)(h0:0<te.sz){x y:Value}{px py:PV}{ns:List (List PV)}(hx:R σ μ w x px)(hpx:px=.e0∨px=.v (.slice none 0 0))(hy:R σ μ w y py)(hns:rowsOf py=some ns)(hne:ns≠[])
  (hrow:∀r∈ns,r.length=te.sz) (hb:ns.length*te.bytes≤140737488355328) (hm:ns.length≤140737488355328):Good P σ μ w (Jc P #[t,t] ty x y) (.ow σ.length ns) (σ++[some (.tok e te.sz ns.length)]):=by
 obtain⟨_,_,_,_,hsl⟩:=zN hy hns;rcases JM hsl with⟨rfl,_⟩|⟨a,c,sz,u,rfl,k1,k2,k3,k4,k5⟩
 ·exact absurd rfl hne
 ·obtain⟨r0,hr0⟩:=List.exists_mem_of_ne_nil ns hne;have hz:sz=te.sz:=(k2 r0 hr0).symm.trans (hrow r0 hr0);subst hz;obtain⟨ie,z,g1,g2,g3,g4,g5,g6,g7⟩:=hte.info;have hpos:0<ns.length:=List.length_pos_iff.2 hne;have hzs:z.cells.size=te.sz:=by have h1:=congrArg List.length g5;have h2:=hte.zl;simp at h1;omega
  have hfl:=ZA u te.sz ns.length;have hx':x=.slice none 0 0∨∃b,x=.slice (some b) 0 0:=by
   rcases hpx with rfl|rfl
   ·cases hx with
    | e0 A => cases A with
     |none=>exact .inl rfl
     |some b=>exact .inr ⟨b,rfl⟩
   ·exact .inl (R_v hx)
  obtain⟨z,cap,hzs,c1,c2,hrun⟩:=qqq (P:=P) (σ:=σ) (μ:=μ) (c:=c) (ty:=ty) ht hk hte h0 hx' k3 hpos hb hm;have hw:=Jv (w:=w) (.cells ((zh u te.sz ns.length).toArray++Builtin.zeroCells z.cells (cap - ns.length)) e);have hn:=NewAt.push σ (ob:=.tok e te.sz ns.length) (by simp);have he:=YW hs hn (Nat.le_refl w.heap.size) hw;have hbk:=heap_alloc_new w.drew (.cells ((zh u te.sz ns.length).toArray++Builtin.zeroCells z.cells (cap - ns.length)) e);refine⟨.value (.slice (some ⟨w.heap.size,0,none⟩) ns.length cap),_,_,_,by unfold Jc;simp only[Sem.run_bind,hrun,Result.andThen_ok,Sem.run_pure],.inl rfl,he,sr_new hs hn (Nat.le_refl _) hw ⟨_,hbk⟩,?_⟩;refine ow_mk hbk ?_ rfl c1 c2 hrow (u:=u) (fun i j hi hj=> ?_) k4 (fun i j r p hr hp=>(k5 i j r p hr hp).ext hs he) (zzd (by simp)) μp_new (fun id o hl hid=> ?_)
  ·simp only[Array.size_append,List.size_toArray,hfl,Zb,hzs,←Nat.add_mul];congr 1;omega
  ·rw[Array.getElem?_append_left]
   ·simpa using zzg (u:=u) hi hj
   ·have:(i+1)*te.sz≤ns.length*te.sz:=Nat.mul_le_mul_right _ hi;rw[Nat.succ_mul]at this;simp[hfl];omega
  ·rcases qqB hl with⟨q1,q2⟩|⟨q1,_⟩
   ·rw[μp_old (by omega)]at hid;have h1:=hs.lt q2;have h2:μ id=w.heap.size:=hid;omega
   ·exact q1
theorem ow_inv {x:Value}{t:Nat}{rows:List (List PV)}{e sz len:Nat}(hx:R σ μ w x (.ow t rows))(ho:σ[t]? =some (some (.tok e sz len)))(hlen:rows.length=len):R σ μ w x (.sl rows)∧OwnF w (μ t) e sz x len:=by
 cases hx with
 |ow _ _ _ h1 h2 _ h3=>exact⟨h1,(h3 e sz len ⟨ho,by simp⟩).2 hlen⟩
theorem ext_tok (hs:SR σ μ w){t e sz len n g:Nat}(hl:live σ t (.tok e sz len))(hn:0<n)(hw:w.grownBy w' (some (μ t))){cur cur':Array Value}(hc:w.heap[μ t]? =some (.cells cur e (0,0)))(hc':w'.heap[μ t]? =some (.cells cur' e (0,0)))(hj:∀j,j<sz*len→cur'[j]? =cur[j]?)
  (hg:g=μ t∨w.heap.size≤g) (hgb:∃cs,w'.heap[g]? =some (.cells cs e (0,0))):Ext σ μ w (σ.set t (some (.tok e sz (len+n)))) (fun i=>if i=t then g else μ i) w'∧SR (σ.set t (some (.tok e sz (len+n)))) (fun i=>if i=t then g else μ i) w':=by
 have hblk:∀i oi,live σ i oi→i≠t→w'.heap[μ i]? =w.heap[μ i]? :=fun i oi hi hne=>hw.block _ (hs.lt hi) (fun e=>hne (hs.inj i t _ _ hi hl (by injection e)));have he:Ext σ μ w (σ.set t (some (.tok e sz (len+n)))) (fun i=>if i=t then g else μ i) w':=by
  refine⟨hw.os,hw.tape,hw.output,hw.size,by simp,fun _ h=>JR (by simp) h,fun g' hg' hn'=>hw.block g' hg' (fun e=>hn' t _ hl (by injection e with e;exact e.symm)),fun i e' sz' len' c hi hcc=> ?_,fun i _ hh=>YV hh (by simp),fun i oi hk hi=> ?_,fun i oi hi=> ?_⟩
  ·by_cases heq:i=t
   ·subst heq;have h1:=hl.eq hi;injection h1 with a1 a2 a3;subst a1 a2 a3;rw[hc]at hcc;injection hcc with hcc;injection hcc with hcc;subst hcc;exact⟨cur',hc',hj⟩
   ·exact⟨c,(hblk i _ hi heq).trans hcc,fun _ _=>rfl⟩
  ·rcases za hi with⟨h1,h2⟩|⟨h1,h2,_⟩
   ·exact .inl ⟨oi,h2,Qa.same h2.2 (if_neg h1) (hblk i _ h2 h1)⟩
   ·subst h1 h2;exact .inl ⟨_,hl,rfl,rfl,by omega,fun h=>by omega⟩
  ·rcases za hi with⟨h1,h2⟩|⟨h1,h2,_⟩
   ·exact .inl ⟨h2.known,if_neg h1⟩
   ·subst h1;rcases hg with rfl|hg
    ·exact .inl ⟨hl.known,if_pos rfl⟩
    ·exact .inr (by simp;exact hg)
 refine⟨he,fun i j oi oj hi hj hm=> ?_,fun i oi hi=> ?_⟩
 ·have lt_of:∀i oi,live σ i oi→i≠t→μ i≠g:=fun i oi hi hne heq=>by
   rcases hg with rfl|hg
   ·exact hne (hs.inj i t _ _ hi hl heq)
   ·have:=hs.lt hi;omega
  rcases za hi with⟨h1,h2⟩|⟨h1,h2,_⟩<;>rcases za hj with⟨h3,h4⟩|⟨h3,h4,_⟩
  ·simp only[if_neg h1,if_neg h3]at hm;exact hs.inj i j _ _ h2 h4 hm
  ·simp only[if_neg h1,if_pos h3]at hm;exact absurd hm (lt_of i _ h2 h1)
  ·simp only[if_pos h1,if_neg h3]at hm;exact absurd hm.symm (lt_of j _ h4 h3)
  ·exact h1.trans h3.symm
 ·rcases za hi with⟨h1,h2⟩|⟨h1,h2,_⟩
  ·simp only[if_neg h1];exact(hs.obj i oi h2).ext hs he (hblk i _ h2 h1)
  ·subst h1 h2;simp only[if_true];exact hgb
theorem app_own (hs:SR σ μ w){t e ty g:Nat}{ti te:TI}(ht:TOK P t ti)(hk:ti.kind=.slc e)(hte:TOK P e te)(h0:0<te.sz){x y:Value}{py:PV}{rows ns:List (List PV)}(hx:R σ μ w x (.ow g rows))(ho:σ[g]? =some (some (.tok e te.sz rows.length)))(hy:R σ μ w y py)(hns:rowsOf py=some ns)(hne:ns≠[])
  (hrow:∀r∈ns,r.length=te.sz) (hrow0:∀r∈rows,r.length=te.sz) (hb:(rows.length+ns.length)*te.bytes≤140737488355328) (hm:rows.length+ns.length≤140737488355328):Good P σ μ w (Jc P #[t,t] ty x y) (.ow g (rows++ns)) (σ.set g (some (.tok e te.sz (rows.length+ns.length)))):=by
 obtain⟨_,_,_,_,hsl⟩:=zN hy hns;obtain⟨hxs,cap0,cur,rfl,hcur,q1,q2,q3⟩:=ow_inv hx ho rfl;have hl:live σ g (.tok e te.sz rows.length):=⟨ho,by simp⟩;rcases JM hsl with⟨rfl,_⟩|⟨a,c,sz,u,rfl,k1,k2,k3,k4,k5⟩
 ·exact absurd rfl hne
 ·obtain⟨r0,hr0⟩:=List.exists_mem_of_ne_nil ns hne;have hz:sz=te.sz:=(k2 r0 hr0).symm.trans (hrow r0 hr0);subst hz;obtain⟨ie,z,g1,g2,g3,g4,g5,g6,g7⟩:=hte.info;have hpos:0<ns.length:=List.length_pos_iff.2 hne;have hzs:z.cells.size=te.sz:=by have h1:=congrArg List.length g5;have h2:=hte.zl;simp at h1;omega
  have hfl:=ZA u te.sz ns.length;have hcap:rows.length*te.sz≤cap0*te.sz:=Nat.mul_le_mul_right _ q1
  -- the cells that were there
  have hold:∃v:Nat→Nat→Value,(∀i j,i<rows.length→j<te.sz→cur[i*te.sz+j]? =some (v i j))∧(∀i j,i<rows.length→j<te.sz→(v i j).oneCell'=true)∧∀i j r p,rows[i]? =some r→r[j]? =some p→R σ μ w (v i j) p:=by
   rcases JM hxs with⟨rfl,_⟩|⟨a',c',sz',v,heq,l1,l2,l3,l4,l5⟩
   ·exact⟨fun _ _=>undef,fun i j hi=>by simp at hi,fun i j hi=>by simp at hi,fun i j r p hr=>by simp at hr⟩
   ·injection heq with e1 e2 e3;injection e1 with e1;subst e1;by_cases hemp:rows=[]
    ·subst hemp;exact⟨fun _ _=>undef,fun i j hi=>by simp at hi,fun i j hi=>by simp at hi,fun i j r p hr=>by simp at hr⟩
    ·obtain⟨r1,hr1⟩:=List.exists_mem_of_ne_nil rows hemp;have hz:sz'=te.sz:=(l2 r1 hr1).symm.trans (hrow0 r1 hr1);subst hz;refine⟨v,fun i j hi hj=> ?_,l4,l5⟩;have:=(l3 i j hi hj).1;rw[zX]at this;simpa [World.cell?,hcur] using this
  obtain⟨v,v1,v2,v3⟩:=hold
  -- what lies behind, whatever block it is
  have fin:∀(w':World) (g' cap:Nat) (cs:Array Value),w.grownBy w' (some (μ g))→(∃cur',w'.heap[μ g]? =some (.cells cur' e (0,0))∧∀j,j<te.sz*rows.length→cur'[j]? =cur[j]?)→(g'=μ g∨w.heap.size≤g')→w'.heap[g']? =some (.cells cs e (0,0))→
    cs.size=cap*te.sz→rows.length+ns.length≤cap→cap≤maxLen→(∀j,j<rows.length*te.sz→cs[j]? =cur[j]?)→(∀j,j<ns.length*te.sz→cs[rows.length*te.sz+j]? =(zh u te.sz ns.length)[j]?)→
    (Builtin.append_ #[t,t] ty #[.slice (some ⟨μ g,0,none⟩) rows.length cap0,.slice (some a) ns.length c]).run P w=.ok (.slice (some ⟨g',0,none⟩) (rows.length+ns.length) cap) w'→
    Good P σ μ w (Jc P #[t,t] ty (.slice (some ⟨μ g,0,none⟩) rows.length cap0) (.slice (some a) ns.length c)) (.ow g (rows++ns)) (σ.set g (some (.tok e te.sz (rows.length+ns.length)))):=by
   intro w' g' cap cs hw ⟨cur',hc',hj'⟩ hg' hcs hsz hle hmx hlow hhigh hrun;obtain⟨he,hsr⟩:=ext_tok hs hl hpos hw hcur hc' hj' hg' ⟨cs,hcs⟩;have hlive:=Zl (σ:=σ) (id:=g) (o':=.tok e te.sz (rows.length+ns.length)) hl.known.1 (by simp);refine⟨.value (.slice (some ⟨g',0,none⟩) (rows.length+ns.length) cap),_,_,_,by unfold Jc;simp only[Sem.run_bind,hrun,Result.andThen_ok,Sem.run_pure],.inl rfl,he,hsr,?_⟩;refine ow_mk hcs hsz (by simp) hle hmx (fun r hr=> ?_) (u:=fun i j=>if i<rows.length then v i j else u (i - rows.length) j) (fun i j hi hj=> ?_) (fun i j hi hj=> ?_) (fun i j r p hr hp=> ?_) hlive (by simp) (fun id o hlo hid=> ?_)
   ·rcases List.mem_append.1 hr with hr|hr
    ·exact hrow0 r hr
    ·exact hrow r hr
   ·by_cases hlt:i<rows.length
    ·have h1:(i+1)*te.sz≤rows.length*te.sz:=Nat.mul_le_mul_right _ hlt;rw[Nat.succ_mul]at h1;rw[hlow _ (by omega),if_pos hlt];exact v1 i j hlt hj
    ·rw[if_neg hlt];have h1:i*te.sz=rows.length*te.sz+(i - rows.length)*te.sz:=by rw[←Nat.add_mul];congr 1;omega
     have h2:(i - rows.length+1)*te.sz≤ns.length*te.sz:=Nat.mul_le_mul_right _ (by omega);rw[Nat.succ_mul]at h2;rw[h1,Nat.add_assoc,hhigh _ (by omega)];exact zzg (by omega) hj
   ·show Value.oneCell' (if i<rows.length then v i j else u (i - rows.length) j)=true;split
    ·exact v2 i j (by assumption) hj
    ·exact k4 _ j (by omega) hj
   ·show R _ _ _ (if i<rows.length then v i j else u (i - rows.length) j) p;split
    ·rename_i hlt;rw[List.getElem?_append_left hlt]at hr;exact(v3 i j r p hr hp).ext hs he
    ·rw[List.getElem?_append_right (by omega)]at hr;exact(k5 _ j r p hr hp).ext hs he
   ·exact hsr.inj id g _ _ hlo hlive (by simp only[if_true];exact hid)
  obtain⟨w',g',cap,cs,cur',r1,r2,r3,r4,r5,r6,r7,r8,r9,r10,r11⟩:=app_run (P:=P) (σ:=σ) (μ:=μ) (c:=c) (ty:=ty) ht hk hte h0 (hs.lt hl) hcur q1 q2 q3 k3 k4 hpos hb hm;exact fin w' g' cap cs r1 ⟨cur',r2,r3⟩ r4 r5 r6 r7 r8 r9 r10 r11
end
section
variable {P:Program} {T:TypeId→Option TI} {σ σ':Store} {μ μ':Nat→Nat} {w w':World}
theorem qqs {x:Value}{id len:Nat}{e:TypeId}{sz:Nat}{c:List PV}(hx:R σ μ w x (.vc id len))(ho:σ[id]? =some (some (.vec e sz len c))):OwnF w (μ id) e sz x len:=by
 cases hx with
 |vc _ _ _ h1 h2 _ h3=>exact(h3 e sz len ⟨c,ho,by simp⟩).2 rfl
theorem vq_inv {x:Value}{id len off:Nat}{e:TypeId}{sz:Nat}{c:List PV}(hx:R σ μ w x (.vq id len off))(ho:σ[id]? =some (some (.vec e sz len c))):x=.pointer (some ⟨μ id,off,none⟩):=by
 cases hx with
 |vq _ _ _ _ h1 h2 _ h3=>exact(h3 e sz len ⟨c,ho,by simp⟩).2 rfl
theorem vq_mk {id len off:Nat}{e:TypeId}{sz:Nat}{c:List PV}(ho:σ[id]? =some (some (.vec e sz len c))):R σ μ w (.pointer (some ⟨μ id,off,none⟩)) (.vq id len off):=by
 have hl:live σ id (.vec e sz len c):=⟨ho,by simp⟩;refine .vq _ _ _ _ hl.known rfl (fun hh=>by have h:σ[id]? =_:=hh;rw[ho]at h;cases h) fun e' sz' n ⟨c',hl'⟩=> ?_;have h:=hl'.eq hl;injection h with h1 h2 h3 h4;exact⟨by omega,fun _=>rfl⟩
theorem vc_mk {t g sz len cap:Nat}{e:TypeId}{cs:Array Value}{c:List PV}(hl:live σ' t (.vec e sz len c))(hμ:μ' t=g)(hb:w'.heap[g]? =some (.cells cs e (0,0)))(hsz:cs.size=cap*sz)(hle:len≤cap)(hm:cap≤maxLen):R σ' μ' w' (.slice (some ⟨g,0,none⟩) len cap) (.vc t len):=by
 refine .vc _ _ _ hl.known rfl (fun hh=>by have h:σ'[t]? =_:=hh;rw[hl.1]at h;cases h) fun e' sz' n ⟨c',hl'⟩=> ?_;have h:=hl'.eq hl;injection h with h1 h2 h3 h4;subst h1 h2;exact⟨by omega,fun _=>⟨cap,cs,by rw[hμ],by rw[hμ];exact hb,hle,hm,hsz⟩⟩
theorem vec_cells (hs:SR σ μ w){id sz len:Nat}{e:TypeId}{cells:List PV}(hl:live σ id (.vec e sz len cells)):∃cs:Array Value,w.heap[μ id]? =some (.cells cs e (0,0))∧cells.length≤cs.size∧
  (∀j,j<cells.length→w.cell? ((⟨μ id,0,none⟩:Addr).add j)=some (cs.getD j undef))∧(∀j,j<cells.length→(cs.getD j undef).oneCell'=true)∧(∀j q,cells[j]? =some q→R σ μ w (cs.getD j undef) q):=by
 obtain⟨cs,h1,_,h2,h3,h4⟩:=hs.obj id _ hl;have hx:∀j,j<cells.length→cs[j]? =some (cs.getD j undef):=fun j hj=>by rw[Array.getElem?_eq_getElem (by omega),Array.getD_eq_getD_getElem?,Array.getElem?_eq_getElem (by omega)];rfl
 refine⟨cs,h1,h2,fun j hj=> ?_,fun j hj=>h3 j _ hj (hx j hj),fun j q hq=>h4 j _ q (hx j (List.getElem?_eq_some_iff.1 hq).1) hq⟩;rw[zX];simp only[World.cell?,h1,Nat.zero_add,Option.isSome_none,Bool.false_eq_true,if_false];exact hx j hj
theorem load_vq (hs:SR σ μ w){t:TypeId}{ti:TI}(ht:TOK P t ti){id len off sz:Nat}{e:TypeId}{cells:List PV}{x:Value}{p:PV}(hx:R σ μ w x (.vq id len off))(ho:σ[id]? =some (some (.vec e sz len cells)))(hp:zd ti cells off=some p):
  ∃y,(Instr.loadAt t x).run P w=.ok y w∧R σ μ w y p:=by
 have hl:live σ id (.vec e sz len cells):=⟨ho,by simp⟩;obtain rfl:=vq_inv hx ho;obtain⟨cs,_,_,h4,h5,h6⟩:=vec_cells hs hl;obtain⟨y,h7,h8⟩:=qqj ht h4 h5 h6 hp;rw[zX,Nat.zero_add]at h7;exact⟨y,by simpa [Instr.loadAt,Instr.sureAddr] using h7,h8⟩
theorem store_vq (hs:SR σ μ w){t:TypeId}{ti:TI}(ht:TOK P t ti){id len off sz:Nat}{e:TypeId}{cells:List PV}{x y:Value}{q:PV}(hx:R σ μ w x (.vq id len off))(hy:R σ μ w y q)(ho:σ[id]? =some (some (.vec e sz len cells)))
  (hlen:q.flat.length=ti.sz) (hle:off+ti.sz≤cells.length) (hone:q.flat.all PV.one=true):
  ∃w',(Instr.storeAt t x y).run P w=.ok () w'∧Ext σ μ w (σ.set id (some (.vec e sz len (zz cells off q.flat)))) μ w'∧SR (σ.set id (some (.vec e sz len (zz cells off q.flat)))) μ w':=by
 have hl:live σ id (.vec e sz len cells):=⟨ho,by simp⟩;obtain⟨f1,f2,f3⟩:=hy.flat (List.all_eq_true.1 hone);obtain rfl:=vq_inv hx ho;obtain⟨cs,k1,k0,k2,k3,k4⟩:=hs.obj id _ hl;have hst:=run_storeCells_at P (μ id) off e y.cells.toList 0 cs w k1 (by simp;omega) (fun v hv=>by
  obtain⟨i,hi⟩:=List.getElem?_of_mem hv;exact f2 i v (by simpa using hi))
 have hsz:y.cells.size=ti.sz:=by omega
 have hw:=Yw (w:=w) (cs:=(cs.toList.take (off+0)++y.cells.toList++cs.toList.drop (off+0+y.cells.toList.length)).toArray) (hs.lt hl);have hrow:=setRow_heap w (μ id) cs (cs.toList.take (off+0)++y.cells.toList++cs.toList.drop (off+0+y.cells.toList.length)).toArray e _ k1;have he:Ext σ μ w (σ.set id (some (.vec e sz len (zz cells off q.flat)))) μ (w.setRow (μ id) (cs.toList.take (off+0)++y.cells.toList++cs.toList.drop (off+0+y.cells.toList.length)).toArray):=
  Jl hs hl (by simp) ⟨rfl,rfl,Nat.le_refl _,fun _=>⟨rfl,fun cur e' hc=>by
   rw[k1]at hc;injection hc with hc;injection hc with hc1 hc2;subst hc1 hc2;exact⟨_,hrow,by simp;omega⟩⟩⟩ hw (fun e sz len cur h=>by cases h)
 refine⟨_,?_,he,JL hs hl he hw ⟨_,hrow,?_,?_,fun i v hi hv=> ?_,fun i v p hv hp=> ?_⟩⟩
 ·simp only[Instr.storeAt,Instr.sureAddr,Sem.run_bind,Sem.run_pure,Result.andThen_ok,storeVar,QJ ht,hsz,ne_eq,not_true,if_false,hst]
 ·rw[←k0];simp[zz];omega
 ·simp[zz];omega
 ·have hi':i<cells.length:=by simp[zz]at hi;omega
  rw[List.getElem?_toArray,Nat.add_zero,ZP (by simp;omega)]at hv;split at hv
  ·exact k3 i v hi' (by simpa using hv)
  ·split at hv
   ·exact f2 (i - off) v (by simpa using hv)
   ·exact k3 i v hi' (by simpa using hv)
 ·rw[List.getElem?_toArray,Nat.add_zero,ZP (by simp;omega)]at hv;rw[qqb (by omega)]at hp;by_cases h1:i<off
  ·rw[if_pos h1]at hv hp;exact(k4 i v p (by simpa using hv) hp).ext hs he
  ·rw[if_neg h1]at hv hp;by_cases h2:i<off+ti.sz
   ·rw[if_pos (by simp;omega)]at hv;rw[if_pos (by omega)]at hp;exact(f3 (i - off) v p (by simpa using hv) hp).ext hs he
   ·rw[if_neg (by simp;omega)]at hv;rw[if_neg (by omega)]at hp;exact(k4 i v p (by simpa using hv) hp).ext hs he
theorem st_field_vq (hs:SR σ μ w){t ft:TypeId}{ti tf:TI}{fs:List (Nat×TypeId)}{f off id len o sz:Nat}{e:TypeId}{cells:List PV}{x:Value}(ht:TOK P t ti)(hk:ti.kind=.st fs)(hf:fs[f]? =some (off,ft))(htf:TOK P ft tf)(hsz:tf.sz≠0)
  (hx:R σ μ w x (.vq id len o)) (ho:σ[id]? =some (some (.vec e sz len cells))):Good P σ μ w (do pure (.value (←Instr.fieldAt t x f))) (.vq id len (o+off)) σ:=by
 obtain rfl:=vq_inv hx ho;exact Good.val hs (qqx ht hk hf htf hsz _) (by rw[zX];exact vq_mk ho)
theorem st_index_vc (hs:SR σ μ w){t e e':TypeId}{ti te:TI}(ht:TOK P t ti)(hk:ti.kind=.slc e)(hte:TOK P e te){x y:Value}{q:PV}{id sz len:Nat}{cells:List PV}{n:Int}(hx:R σ μ w x (.vc id len))(ho:σ[id]? =some (some (.vec e' sz len cells)))(hy:R σ μ w y q)(hn:intOf? q=some n)
  (h0:0≤n) (h1:n<len) (hsz:sz=te.sz):Good P σ μ w (do pure (.value (←Instr.indexAt t x y))) (.vq id len (n.toNat*sz)) σ:=by
 obtain⟨k,rfl⟩:=Jk hy hn;obtain⟨cap,cur,rfl,_⟩:=qqs hx ho;have:=run_idx (P:=P) (w:=w) ht hk hte ⟨μ id,0,none⟩ len cap k n h0 h1;rw[zX,Nat.zero_add,←hsz]at this;exact Good.val hs this (vq_mk ho)
theorem qql {sz:Nat}(h0:0<sz):∀(ns:List (List PV)) (m:Nat) (p:PV),(∀r∈ns,r.length=sz)→ns.flatten[m]? =some p→∃r,ns[m / sz]? =some r∧r[m % sz]? =some p
 |[],m,p,_,h=>by simp at h
 | r :: ns, m, p, hr, h => by
  have hl:=hr r (by simp);rw[List.flatten_cons]at h;by_cases hm:m<sz
  ·rw[List.getElem?_append_left (by omega)]at h;exact⟨r,by rw[Nat.div_eq_of_lt hm];rfl,by rw[Nat.mod_eq_of_lt hm];exact h⟩
  ·rw[List.getElem?_append_right (by omega),hl]at h;obtain⟨r',h1,h2⟩:=qql h0 ns (m - sz) p (fun r hr'=>hr r (by simp[hr'])) h;have e1:m / sz=(m - sz) / sz+1:=by rw[Nat.div_eq_sub_div h0 (by omega)]
   have e2:m % sz=(m - sz) % sz:=Nat.mod_eq_sub_mod (by omega);exact⟨r',by rw[e1];exact h1,by rw[e2];exact h2⟩
theorem YC {sz:Nat}:∀(ns:List (List PV)),(∀r∈ns,r.length=sz)→ns.flatten.length=ns.length*sz
 |[],_=>by simp
 | r :: ns, h => by
  rw[List.flatten_cons,List.length_append,h r (by simp),YC ns (fun r hr=>h r (by simp[hr])),List.length_cons,Nat.succ_mul];omega
theorem app_vnew (hs:SR σ μ w){t e ty:TypeId}{ti te:TI}(ht:TOK P t ti)(hk:ti.kind=.slc e)(hte:TOK P e te)(h0:0<te.sz){x y:Value}{py:PV}{ns:List (List PV)}(hx:R σ μ w x .nv)(hy:R σ μ w y py)(hns:rowsOf py=some ns)(hne:ns≠[])
  (hrow:∀r∈ns,r.length=te.sz) (hb:ns.length*te.bytes≤140737488355328) (hm:ns.length≤140737488355328):Good P σ μ w (Jc P #[t,t] ty x y) (.vc σ.length ns.length) (σ++[some (.vec e te.sz ns.length ns.flatten)]):=by
 obtain⟨_,_,_,_,hsl⟩:=zN hy hns;rcases JM hsl with⟨rfl,_⟩|⟨a,c,sz,u,rfl,k1,k2,k3,k4,k5⟩
 ·exact absurd rfl hne
 ·obtain⟨r0,hr0⟩:=List.exists_mem_of_ne_nil ns hne;have hz:sz=te.sz:=(k2 r0 hr0).symm.trans (hrow r0 hr0);subst hz;have hpos:0<ns.length:=List.length_pos_iff.2 hne;have hx':x=.slice none 0 0∨∃b,x=.slice (some b) 0 0:=by
   cases hx with
   | nv A => cases A with
    |none=>exact .inl rfl
    |some b=>exact .inr ⟨b,rfl⟩
  have hfl:=ZA u te.sz ns.length;have hflat:=YC ns hrow;obtain⟨z,cap,hzs,c1,c2,hrun⟩:=qqq (P:=P) (σ:=σ) (μ:=μ) (c:=c) (ty:=ty) ht hk hte h0 hx' k3 hpos hb hm;have hw:=Jv (w:=w) (.cells ((zh u te.sz ns.length).toArray++Builtin.zeroCells z.cells (cap - ns.length)) e);have hn:=NewAt.push σ (ob:=.vec e te.sz ns.length ns.flatten) (by simp);have he:=YW hs hn (Nat.le_refl w.heap.size) hw;have hbk:=heap_alloc_new w.drew (.cells ((zh u te.sz ns.length).toArray++Builtin.zeroCells z.cells (cap - ns.length)) e);have hsz:((zh u te.sz ns.length).toArray++Builtin.zeroCells z.cells (cap - ns.length)).size=cap*te.sz:=by
   simp only[Array.size_append,List.size_toArray,hfl,Zb,hzs,←Nat.add_mul];congr 1;omega
  have hcell:∀i v,i<ns.length*te.sz→((zh u te.sz ns.length).toArray++Builtin.zeroCells z.cells (cap - ns.length))[i]? =some v→v=u (i / te.sz) (i % te.sz)∧i / te.sz<ns.length∧i % te.sz<te.sz:=fun i v hi hv=>by
   rw[Array.getElem?_append_left (by simp[hfl];omega)]at hv;obtain⟨h1,h2⟩:=JU (by simpa using hv);exact⟨h2,by rw[Nat.div_lt_iff_lt_mul h0];exact h1,Nat.mod_lt _ h0⟩
  have hcap:ns.length*te.sz≤cap*te.sz:=Nat.mul_le_mul_right _ c1;have hob:ORep (σ++[some (.vec e te.sz ns.length ns.flatten)]) (μp σ.length μ w.heap.size) (w.drew.alloc (.cells ((zh u te.sz ns.length).toArray++Builtin.zeroCells z.cells (cap - ns.length)) e)) w.heap.size (.vec e te.sz ns.length ns.flatten):=by
   refine⟨_,hbk,hflat,by omega,fun i v hi hv=> ?_,fun i v p hv hp=> ?_⟩
   ·obtain⟨rfl,h1,h2⟩:=hcell i v (by omega) hv;exact k4 _ _ h1 h2
   ·have hi:i<ns.length*te.sz:=by have:=(List.getElem?_eq_some_iff.1 hp).1;omega
    obtain⟨rfl,h1,h2⟩:=hcell i v hi hv;obtain⟨r,h3,h4⟩:=qql h0 ns i p hrow hp;exact(k5 _ _ r p h3 h4).ext hs he
  exact⟨.value (.slice (some ⟨w.heap.size,0,none⟩) ns.length cap),_,_,_,by unfold Jc;simp only[Sem.run_bind,hrun,Result.andThen_ok,Sem.run_pure],.inl rfl,he,sr_new hs hn (Nat.le_refl _) hw hob,vc_mk (zzd (by simp)) μp_new hbk hsz c1 c2⟩
theorem vc_hol {x:Value}{id len:Nat}(hx:R σ μ w x (.vc id len))(ho:σ[id]? =some (some .hol)):len=0∧∃A,x=.slice A 0 0:=by
 cases hx with
 |vc _ _ _ h1 h2 h3 _=>exact h3 ho
theorem ext_hol (hs:SR σ μ w){t:Nat}{o':AObj}(ho:σ[t]? =some (some .hol))(hn:o'.came)(hw:w.grownBy w' none):Ext σ μ w (σ.set t (some o')) (μp t μ w.heap.size) w':=by
 have hne:∀{i o},live σ i o→i≠t:=fun {i o} hl hit=>by
  subst hit;have:=hl.1;rw[ho]at this;injection this with this;injection this with this;exact hl.2.2 this.symm
 refine⟨hw.os,hw.tape,hw.output,hw.size,by simp,fun _ h=>JR (by rintro rfl;exact hn) h,fun g hg _=>hw.block g hg (by simp),fun id e sz len cur hl hc=>⟨cur,(hw.block _ (hs.lt hl) (by simp)).trans hc,fun _ _=>rfl⟩,fun i _ hh=>YV hh (by rintro rfl;exact hn),fun i oi hk hi=> ?_,fun i oi hi=> ?_⟩
 ·rcases za hi with⟨h1,h2⟩|⟨h1,h2,_⟩
  ·exact .inl ⟨oi,h2,Qa.same h2.2 (μp_old h1) (hw.block _ (hs.lt h2) (by simp))⟩
  ·subst h1 h2;exact .inr ⟨ho,hn,by rw[μp_new];exact Nat.le_refl _⟩
 ·rcases za hi with⟨h1,h2⟩|⟨h1,h2,_⟩
  ·exact .inl ⟨h2.known,μp_old h1⟩
  ·exact .inr (by rw[h1,μp_new];exact Nat.le_refl _)
theorem sr_hol (hs:SR σ μ w){t:Nat}{o':AObj}(ho:σ[t]? =some (some .hol))(hn:o'.came)(hw:w.grownBy w' none)(hob:ORep (σ.set t (some o')) (μp t μ w.heap.size) w' w.heap.size o'):SR (σ.set t (some o')) (μp t μ w.heap.size) w':=by
 refine⟨fun i j o o2 hi hj he=> ?_,fun i o hl=> ?_⟩
 ·rcases za hi with⟨h1,h2⟩|⟨h1,h2,_⟩<;>rcases za hj with⟨h3,h4⟩|⟨h3,h4,_⟩
  ·rw[μp_old h1,μp_old h3]at he;exact hs.inj i j _ _ h2 h4 he
  ·rw[μp_old h1,h3,μp_new]at he;have:=hs.lt h2;omega
  ·rw[μp_old h3,h1,μp_new]at he;have:=hs.lt h4;omega
  ·omega
 ·rcases za hl with⟨h1,h2⟩|⟨h1,h2,_⟩
  ·rw[μp_old h1];exact(hs.obj i o h2).ext hs (ext_hol hs ho hn hw) (hw.block _ (hs.lt h2) (by simp))
  ·rw[h1,h2,μp_new];exact hob
theorem app_vhol (hs:SR σ μ w){t e ty g:Nat}{ti te:TI}(ht:TOK P t ti)(hk:ti.kind=.slc e)(hte:TOK P e te)(h0:0<te.sz){x y:Value}{py:PV}{ns:List (List PV)}(hx:R σ μ w x (.vc g 0))(ho:σ[g]? =some (some .hol))(hy:R σ μ w y py)(hns:rowsOf py=some ns)(hne:ns≠[])
  (hrow:∀r∈ns,r.length=te.sz) (hb:ns.length*te.bytes≤140737488355328) (hm:ns.length≤140737488355328):Good P σ μ w (Jc P #[t,t] ty x y) (.vc g ns.length) (σ.set g (some (.vec e te.sz ns.length ns.flatten))):=by
 obtain⟨_,_,_,_,hsl⟩:=zN hy hns;rcases JM hsl with⟨rfl,_⟩|⟨a,c,sz,u,rfl,k1,k2,k3,k4,k5⟩
 ·exact absurd rfl hne
 ·obtain⟨r0,hr0⟩:=List.exists_mem_of_ne_nil ns hne;have hz:sz=te.sz:=(k2 r0 hr0).symm.trans (hrow r0 hr0);subst hz;have hpos:0<ns.length:=List.length_pos_iff.2 hne;have hx':x=.slice none 0 0∨∃b,x=.slice (some b) 0 0:=by
   obtain⟨_,A,rfl⟩:=vc_hol hx ho;cases A with
   |none=>exact .inl rfl
   |some b=>exact .inr ⟨b,rfl⟩
  have hfl:=ZA u te.sz ns.length;have hflat:=YC ns hrow;obtain⟨z,cap,hzs,c1,c2,hrun⟩:=qqq (P:=P) (σ:=σ) (μ:=μ) (c:=c) (ty:=ty) ht hk hte h0 hx' k3 hpos hb hm;have hw:=Jv (w:=w) (.cells ((zh u te.sz ns.length).toArray++Builtin.zeroCells z.cells (cap - ns.length)) e);have he:=ext_hol (o':=.vec e te.sz ns.length ns.flatten) hs ho hpos hw;have hbk:=heap_alloc_new w.drew (.cells ((zh u te.sz ns.length).toArray++Builtin.zeroCells z.cells (cap - ns.length)) e);have hsz:((zh u te.sz ns.length).toArray++Builtin.zeroCells z.cells (cap - ns.length)).size=cap*te.sz:=by
   simp only[Array.size_append,List.size_toArray,hfl,Zb,hzs,←Nat.add_mul];congr 1;omega
  have hcell:∀i v,i<ns.length*te.sz→((zh u te.sz ns.length).toArray++Builtin.zeroCells z.cells (cap - ns.length))[i]? =some v→v=u (i / te.sz) (i % te.sz)∧i / te.sz<ns.length∧i % te.sz<te.sz:=fun i v hi hv=>by
   rw[Array.getElem?_append_left (by simp[hfl];omega)]at hv;obtain⟨h1,h2⟩:=JU (by simpa using hv);exact⟨h2,by rw[Nat.div_lt_iff_lt_mul h0];exact h1,Nat.mod_lt _ h0⟩
  have hcap:ns.length*te.sz≤cap*te.sz:=Nat.mul_le_mul_right _ c1;have hob:ORep (σ.set g (some (.vec e te.sz ns.length ns.flatten))) (μp g μ w.heap.size) (w.drew.alloc (.cells ((zh u te.sz ns.length).toArray++Builtin.zeroCells z.cells (cap - ns.length)) e)) w.heap.size (.vec e te.sz ns.length ns.flatten):=by
   refine⟨_,hbk,hflat,by omega,fun i v hi hv=> ?_,fun i v p hv hp=> ?_⟩
   ·obtain⟨rfl,h1,h2⟩:=hcell i v (by omega) hv;exact k4 _ _ h1 h2
   ·have hi:i<ns.length*te.sz:=by have:=(List.getElem?_eq_some_iff.1 hp).1;omega
    obtain⟨rfl,h1,h2⟩:=hcell i v hi hv;obtain⟨r,h3,h4⟩:=qql h0 ns i p hrow hp;exact(k5 _ _ r p h3 h4).ext hs he
  exact⟨.value (.slice (some ⟨w.heap.size,0,none⟩) ns.length cap),_,_,_,by unfold Jc;simp only[Sem.run_bind,hrun,Result.andThen_ok,Sem.run_pure],.inl rfl,he,sr_hol hs ho hpos hw hob,vc_mk (Zl (List.getElem?_eq_some_iff.1 ho).1 (by simp)) μp_new hbk hsz c1 c2⟩
theorem ow_hol {x:Value}{id:Nat}{rows:List (List PV)}(hx:R σ μ w x (.ow id rows))(ho:σ[id]? =some (some .hol)):rows=[]∧∃A,x=.slice A 0 0:=by
 cases hx with
 |ow _ _ _ h1 h2 h3 _=>exact h3 ho
theorem app_thol (hs:SR σ μ w){t e ty g:Nat}{ti te:TI}(ht:TOK P t ti)(hk:ti.kind=.slc e)(hte:TOK P e te)(h0:0<te.sz){x y:Value}{py:PV}{rows ns:List (List PV)}(hx:R σ μ w x (.ow g rows))(ho:σ[g]? =some (some .hol))(hy:R σ μ w y py)(hns:rowsOf py=some ns)(hne:ns≠[])
  (hrow:∀r∈ns,r.length=te.sz) (hb:ns.length*te.bytes≤140737488355328) (hm:ns.length≤140737488355328):Good P σ μ w (Jc P #[t,t] ty x y) (.ow g ns) (σ.set g (some (.tok e te.sz ns.length))):=by
 obtain⟨_,_,_,_,hsl⟩:=zN hy hns;rcases JM hsl with⟨rfl,_⟩|⟨a,c,sz,u,rfl,k1,k2,k3,k4,k5⟩
 ·exact absurd rfl hne
 ·obtain⟨r0,hr0⟩:=List.exists_mem_of_ne_nil ns hne;have hz:sz=te.sz:=(k2 r0 hr0).symm.trans (hrow r0 hr0);subst hz;have hpos:0<ns.length:=List.length_pos_iff.2 hne;have hx':x=.slice none 0 0∨∃b,x=.slice (some b) 0 0:=by
   obtain⟨_,A,rfl⟩:=ow_hol hx ho;cases A with
   |none=>exact .inl rfl
   |some b=>exact .inr ⟨b,rfl⟩
  have hfl:=ZA u te.sz ns.length;obtain⟨z,cap,hzs,c1,c2,hrun⟩:=qqq (P:=P) (σ:=σ) (μ:=μ) (c:=c) (ty:=ty) ht hk hte h0 hx' k3 hpos hb hm;have hw:=Jv (w:=w) (.cells ((zh u te.sz ns.length).toArray++Builtin.zeroCells z.cells (cap - ns.length)) e);have he:=ext_hol (o':=.tok e te.sz ns.length) hs ho hpos hw;have hbk:=heap_alloc_new w.drew (.cells ((zh u te.sz ns.length).toArray++Builtin.zeroCells z.cells (cap - ns.length)) e);have hlt:=(List.getElem?_eq_some_iff.1 ho).1;refine⟨.value (.slice (some ⟨w.heap.size,0,none⟩) ns.length cap),_,_,_,by unfold Jc;simp only[Sem.run_bind,hrun,Result.andThen_ok,Sem.run_pure],.inl rfl,he,sr_hol hs ho hpos hw ⟨_,hbk⟩,?_⟩;refine ow_mk hbk ?_ rfl c1 c2 hrow (u:=u) (fun i j hi hj=> ?_) k4 (fun i j r p hr hp=>(k5 i j r p hr hp).ext hs he) (Zl hlt (by simp)) μp_new (fun id o hl hid=> ?_)
  ·simp only[Array.size_append,List.size_toArray,hfl,Zb,hzs,←Nat.add_mul];congr 1;omega
  ·rw[Array.getElem?_append_left]
   ·simpa using zzg (u:=u) hi hj
   ·have:(i+1)*te.sz≤ns.length*te.sz:=Nat.mul_le_mul_right _ hi;rw[Nat.succ_mul]at this;simp[hfl];omega
  ·rcases za hl with⟨q1,q2⟩|⟨q1,_⟩
   ·rw[μp_old q1]at hid;have h1:=hs.lt q2;have h2:μ id=w.heap.size:=hid;omega
   ·exact q1
theorem ext_vec (hs:SR σ μ w){t sz len n g:Nat}{e:TypeId}{c c':List PV}(hl:live σ t (.vec e sz len c))(hn:0<n)(hw:w.grownBy w' (some (μ t)))(hg:g=μ t∨w.heap.size≤g):Ext σ μ w (σ.set t (some (.vec e sz (len+n) c'))) (fun i=>if i=t then g else μ i) w':=by
 have hblk:∀i oi,live σ i oi→i≠t→w'.heap[μ i]? =w.heap[μ i]? :=fun i oi hi hne=>hw.block _ (hs.lt hi) (fun e=>hne (hs.inj i t _ _ hi hl (by injection e)));refine⟨hw.os,hw.tape,hw.output,hw.size,by simp,fun _ h=>JR (by simp) h,fun g' hg' hn'=>hw.block g' hg' (fun e=>hn' t _ hl (by injection e with e;exact e.symm)),fun i e' sz' len' cc hi hcc=> ?_,fun i _ hh=>YV hh (by simp),fun i oi hk hi=> ?_,fun i oi hi=> ?_⟩
 ·by_cases heq:i=t
  ·subst heq;have h1:=hl.eq hi;cases h1
  ·exact⟨cc,(hblk i _ hi heq).trans hcc,fun _ _=>rfl⟩
 ·rcases za hi with⟨h1,h2⟩|⟨h1,h2,_⟩
  ·exact .inl ⟨oi,h2,Qa.same h2.2 (if_neg h1) (hblk i _ h2 h1)⟩
  ·subst h1 h2;exact .inl ⟨_,hl,rfl,rfl,by omega,fun h=>by omega⟩
 ·rcases za hi with⟨h1,h2⟩|⟨h1,h2,_⟩
  ·exact .inl ⟨h2.known,if_neg h1⟩
  ·subst h1;rcases hg with rfl|hg
   ·exact .inl ⟨hl.known,if_pos rfl⟩
   ·exact .inr (by simp;exact hg)
theorem sr_vec (hs:SR σ μ w){t sz len n g:Nat}{e:TypeId}{c c':List PV}(hl:live σ t (.vec e sz len c))(hw:w.grownBy w' (some (μ t)))(hg:g=μ t∨w.heap.size≤g)
  (he:Ext σ μ w (σ.set t (some (.vec e sz (len+n) c'))) (fun i=>if i=t then g else μ i) w') (hob:ORep (σ.set t (some (.vec e sz (len+n) c'))) (fun i=>if i=t then g else μ i) w' g (.vec e sz (len+n) c')):SR (σ.set t (some (.vec e sz (len+n) c'))) (fun i=>if i=t then g else μ i) w':=by
 have hblk:∀i oi,live σ i oi→i≠t→w'.heap[μ i]? =w.heap[μ i]? :=fun i oi hi hne=>hw.block _ (hs.lt hi) (fun e=>hne (hs.inj i t _ _ hi hl (by injection e)));refine⟨fun i j oi oj hi hj hm=> ?_,fun i oi hi=> ?_⟩
 ·have lt_of:∀i oi,live σ i oi→i≠t→μ i≠g:=fun i oi hi hne heq=>by
   rcases hg with rfl|hg
   ·exact hne (hs.inj i t _ _ hi hl heq)
   ·have:=hs.lt hi;omega
  rcases za hi with⟨h1,h2⟩|⟨h1,h2,_⟩<;>rcases za hj with⟨h3,h4⟩|⟨h3,h4,_⟩
  ·simp only[if_neg h1,if_neg h3]at hm;exact hs.inj i j _ _ h2 h4 hm
  ·simp only[if_neg h1,if_pos h3]at hm;exact absurd hm (lt_of i _ h2 h1)
  ·simp only[if_pos h1,if_neg h3]at hm;exact absurd hm.symm (lt_of j _ h4 h3)
  ·exact h1.trans h3.symm
 ·rcases za hi with⟨h1,h2⟩|⟨h1,h2,_⟩
  ·simp only[if_neg h1];exact(hs.obj i oi h2).ext hs he (hblk i _ h2 h1)
  ·subst h1 h2;simp only[if_true];exact hob
theorem app_vc (hs:SR σ μ w){t e ty:TypeId}{g n:Nat}{ti te:TI}{cells:List PV}(ht:TOK P t ti)(hk:ti.kind=.slc e)(hte:TOK P e te)(h0:0<te.sz){x y:Value}{py:PV}{ns:List (List PV)}(hx:R σ μ w x (.vc g n))(ho:σ[g]? =some (some (.vec e te.sz n cells)))(hy:R σ μ w y py)(hns:rowsOf py=some ns)(hne:ns≠[])
  (hrow:∀r∈ns,r.length=te.sz) (hb:(n+ns.length)*te.bytes≤140737488355328) (hm:n+ns.length≤140737488355328):Good P σ μ w (Jc P #[t,t] ty x y) (.vc g (n+ns.length)) (σ.set g (some (.vec e te.sz (n+ns.length) (cells++ns.flatten)))):=by
 obtain⟨_,_,_,_,hsl⟩:=zN hy hns;have hl:live σ g (.vec e te.sz n cells):=⟨ho,by simp⟩;obtain⟨cap0,cur,rfl,hcur,q1,q2,q3⟩:=qqs hx ho;rcases JM hsl with⟨rfl,_⟩|⟨a,c,sz,u,rfl,k1,k2,k3,k4,k5⟩
 ·exact absurd rfl hne
 ·obtain⟨r0,hr0⟩:=List.exists_mem_of_ne_nil ns hne;have hz:sz=te.sz:=(k2 r0 hr0).symm.trans (hrow r0 hr0);subst hz;have hpos:0<ns.length:=List.length_pos_iff.2 hne;have hflat:=YC ns hrow;obtain⟨w',g',cap,cs,cur',r1,r2,r3,r4,r5,r6,r7,r8,r9,r10,r11⟩:=app_run (P:=P) (σ:=σ) (μ:=μ) (c:=c) (ty:=ty) ht hk hte h0 (hs.lt hl) hcur q1 q2 q3 k3 k4 hpos hb hm;have he:=ext_vec (c':=cells++ns.flatten) hs hl hpos r1 r4;obtain⟨cs0,o1,o2,o3,o4,o5⟩:=hs.obj g _ hl;obtain rfl:cs0=cur:=by rw[hcur]at o1;injection o1 with o1;injection o1 with o1;exact o1.symm
  have hcap:(n+ns.length)*te.sz≤cap*te.sz:=Nat.mul_le_mul_right _ r7;rw[Nat.add_mul]at hcap;have hhi:∀i v,n*te.sz≤i→i<n*te.sz+ns.length*te.sz→cs[i]? =some v→v=u ((i - n*te.sz) / te.sz) ((i - n*te.sz) % te.sz)∧(i - n*te.sz) / te.sz<ns.length∧(i - n*te.sz) % te.sz<te.sz:=fun i v h1 h2 hv=>by
   have:=r10 (i - n*te.sz) (by omega);rw[show n*te.sz+(i - n*te.sz)=i by omega,hv]at this;obtain⟨h3,h4⟩:=JU this.symm;exact⟨h4,by rw[Nat.div_lt_iff_lt_mul h0];exact h3,Nat.mod_lt _ h0⟩
  have hob:ORep (σ.set g (some (.vec e te.sz (n+ns.length) (cells++ns.flatten)))) (fun i=>if i=g then g' else μ i) w' g' (.vec e te.sz (n+ns.length) (cells++ns.flatten)):=by
   refine⟨cs,r5,by rw[List.length_append,o2,hflat,Nat.add_mul],by rw[List.length_append,o2,hflat];omega,fun i v hi hv=> ?_,fun i v p hv hp=> ?_⟩
   ·rw[List.length_append,o2,hflat]at hi;by_cases hlt:i<n*te.sz
    ·rw[r9 i hlt]at hv;exact o4 i v (by omega) hv
    ·obtain⟨rfl,h1,h2⟩:=hhi i v (by omega) hi hv;exact k4 _ _ h1 h2
   ·have hi:i<n*te.sz+ns.length*te.sz:=by have:=(List.getElem?_eq_some_iff.1 hp).1;rw[List.length_append,o2,hflat]at this;exact this
    by_cases hlt:i<n*te.sz
    ·rw[r9 i hlt]at hv;rw[List.getElem?_append_left (by omega)]at hp;exact(o5 i v p hv hp).ext hs he
    ·obtain⟨rfl,h1,h2⟩:=hhi i v (by omega) hi hv;rw[List.getElem?_append_right (by omega),o2]at hp;obtain⟨r,h3,h4⟩:=qql h0 ns _ p hrow hp;exact(k5 _ _ r p h3 h4).ext hs he
  have hsr:=sr_vec hs hl r1 r4 he hob;exact⟨.value (.slice (some ⟨g',0,none⟩) (n+ns.length) cap),_,_,_,by unfold Jc;simp only[Sem.run_bind,r11,Result.andThen_ok,Sem.run_pure],.inl rfl,he,hsr,vc_mk (Zl hl.known.1 (by simp)) (by simp) r5 r6 r7 r8⟩
end
section
variable {P:Program} {T:TypeId→Option TI} {σ σ':Store} {μ μ':Nat→Nat} {w w':World}
structure Sim (n:Nat)(σ:Store)(μ:Nat→Nat)(env:Env)(a:Act)(w:World):Prop where
 sr:SR σ μ w
 env:∀t,R σ μ w (a.tmps.getD t undef) (env t)
 size:a.tmps.size=n
 defs:a.defers=[]
theorem ofV_R (x:Value):R σ μ w x (ofV x):=by
 unfold ofV;split
 ·rename_i cs;split
  ·rename_i hall;refine .ag _ _ (by simp) (fun i y hy=> ?_) fun i y p hy hp=> ?_
   ·exact List.all_eq_true.1 hall y (by simpa using Array.mem_of_getElem? hy)
   ·have hy':cs.toList[i]? =some y:=by simpa using hy
    rw[List.getElem?_map,hy']at hp;simp at hp;subst hp;exact .v _ (List.all_eq_true.1 hall y (by simpa using Array.mem_of_getElem? hy))
  ·exact .any _
 ·exact .any _
 ·rename_i h1 h2;refine .v _ ?_;cases x with
  |agg cs=>exact absurd rfl (h1 cs)
  |tuple vs=>exact absurd rfl (h2 vs)
  |_=>rfl
theorem Sim.val {n:Nat}{env:Env}{a:Act}(h:Sim n σ μ env a w)(x:Operand):R σ μ w (a.eval x) (val env x):=by
 cases x with
 |tmp t=>exact h.env t
 |const v=>exact ofV_R v
 |global g=>exact .v _ rfl
 |func f=>exact .fn f #[] #[] [] [] rfl rfl (fun i x p hx=>by simp at hx) (fun i x p hx=>by simp at hx)
theorem Sim.vals {n:Nat}{env:Env}{a:Act}(h:Sim n σ μ env a w)(xs:Array Operand):RL σ μ w (xs.map a.eval) (xs.toList.map (E.val env)):=by
 refine⟨by simp,fun i x p hx hp=> ?_⟩;rw[Array.getElem?_map]at hx;rw[List.getElem?_map]at hp;obtain⟨o,h1,rfl⟩:=Option.map_eq_some_iff.1 hx;obtain⟨o',h2,rfl⟩:=Option.map_eq_some_iff.1 hp;have:xs.toList[i]? =some o:=by simpa using h1
 rw[this]at h2;injection h2 with h2;subst h2;exact h.val o
theorem Sim.parts {n:Nat}{env:Env}{a:Act}(h:Sim n σ μ env a w):∀(l:List (Nat×Operand)),PR σ μ w (l.map fun q=>(q.1,a.eval q.2)) (l.map fun q=>(q.1,E.val env q.2))
 |[]=>.nil
 |q::l=>.cons q.1 _ _ _ _ (h.val q.2) (h.parts l)
theorem RL.append {vs us:Array Value}{ps qs:List PV}(h:RL σ μ w vs ps)(k:RL σ μ w us qs):RL σ μ w (vs++us) (ps++qs):=by
 refine⟨by simp[h.1,k.1],fun i x p hx hp=> ?_⟩;by_cases hi:i<vs.size
 ·rw[Array.getElem?_append_left hi]at hx;rw[List.getElem?_append_left (by have:=h.1;omega)]at hp;exact h.2 i x p hx hp
 ·rw[Array.getElem?_append_right (by omega)]at hx;rw[List.getElem?_append_right (by have:=h.1;omega)]at hp;rw[h.1]at hx;exact k.2 _ x p hx hp
theorem Good.mono {s s':Sem Next}{p:PV}(h:Good P σ μ w s p σ')(he:s.run P w=s'.run P w):Good P σ μ w s' p σ':=by
 obtain⟨nx,x,w',μ',h1,h2⟩:=h;exact⟨nx,x,w',μ',he▸h1,h2⟩
theorem Good.unit {s:Sem Unit}(h:∃w',s.run P w=.ok () w'∧Ext σ μ w σ' μ w'∧SR σ' μ w'):Good P σ μ w (do s;pure .skip) .any σ':=by
 obtain⟨w',h1,h2,h3⟩:=h;exact⟨.skip,undef,w',μ,by simp[h1],.inr ⟨rfl,rfl⟩,h2,h3,.any _⟩
theorem Good.pure {x:Value}{p:PV}(hs:SR σ μ w)(hp:R σ μ w x p):Good P σ μ w (Pure.pure (.value x)) p σ:=⟨.value x,x,w,μ,rfl,.inl rfl,Ext.refl _ _ _,hs,hp⟩
theorem call_run {c:Call}{ty:TypeId}{f:Operand}{ρ:Operand→Value}{g:FuncId}{fs cs:Array Value}(hc:c.callee=.value f)(hf:ρ f=.func (.func g) fs cs):(do let d ←resolve ρ c ty;invoke d.target d.args:Sem Next).run P w=(callFunc g (fs++c.args.map ρ++cs)).run P w:=by
 simp only[resolve,hc,Sem.run_bind,Deferred.ofValue,hf,Sem.run_pure,Result.andThen_ok,invoke]
theorem builtin_run {c:Call}{ty:TypeId}{b:Builtin}{ρ:Operand→Value}(hc:c.callee=.builtin b):(do let d ←resolve ρ c ty;invoke d.target d.args:Sem Next).run P w=(builtin b c.argTypes ty (c.args.map fun| .const _=>true|_=>false) (c.args.map ρ)).run P w:=by
 simp only[resolve,hc,Sem.run_bind,Sem.run_pure,Result.andThen_ok,invoke];rfl
theorem list1 {xs:Array Operand}{env:Env}{p:PV}(h:xs.toList.map (val env)=[p]):∃x,xs= #[x]∧val env x=p:=by
 obtain⟨l⟩:=xs
 match l,h with
 |[x],h=>exact⟨x,rfl,by simpa using h⟩
theorem list2 {xs:Array Operand}{env:Env}{p q:PV}(h:xs.toList.map (val env)=[p,q]):∃x y,xs= #[x,y]∧val env x=p∧val env y=q:=by
 obtain⟨l⟩:=xs
 match l,h with
 |[x,y],h=>exact⟨x,y,rfl,by simpa using h⟩
theorem opt_lo {n:Nat}{env:Env}{a:Act}(h:Sim n σ μ env a w){lo:Option Operand}{l:Int}(hl:(match lo with|some l=>intOf? (E.val env l)|none=>some 0)=some l):(lo.map a.eval=none∧l=0)∨∃k,lo.map a.eval=some (.int k l):=by
 cases lo with
 |none=>simp at hl;exact .inl ⟨rfl,hl.symm⟩
 | some x =>
  obtain⟨k,hk⟩:=Jk (h.val x) hl;exact .inr ⟨k,by simp[hk]⟩
theorem opt_hi {n m:Nat}{env:Env}{a:Act}(h:Sim n σ μ env a w){hi:Option Operand}{l:Int}(hl:(match hi with|some l=>intOf? (E.val env l)|none=>some (m:Int))=some l):(hi.map a.eval=none∧l=m)∨∃k,hi.map a.eval=some (.int k l):=by
 cases hi with
 |none=>simp at hl;exact .inl ⟨rfl,hl.symm⟩
 | some x =>
  obtain⟨k,hk⟩:=Jk (h.val x) hl;exact .inr ⟨k,by simp[hk]⟩
theorem app_nil {t e ty:TypeId}{sz:Nat}{A B:Option Addr}{k c d:Nat}(hu:P.underlying t=some (.slice e))(hsz:(sizeOf e).run P w=.ok sz w)(hle:k≤c):(Builtin.append_ #[t,t] ty #[.slice A k c,.slice B 0 d]).run P w=.ok (.slice A k c) w:=by
 simp only[Builtin.append_,List.getElem?_toArray,List.getElem?_cons_zero,List.getElem?_cons_succ,Sem.run_bind,run_underlying hu,Result.andThen_ok,hsz,Builtin.lenOf,Sem.run_pure,Nat.add_zero,hle,if_true,Bool.false_eq_true,if_false,Sem.run_ite];cases A<;>cases B<;>simp[Builtin.firstCells,loadCells,loadCellsFrom,storeCells]
theorem append_ok {n:Nat}{env:Env}{a:Act}(hT:∀t ti,T t=some ti→TOK P t ti)(h:Sim n σ μ env a w){tys:Array TypeId}{ty t:TypeId}{x y:Value}{s q p:PV}(htys:tys= #[t,t])(hx:R σ μ w x s)(hy:R σ μ w y q)(hA:qB T t s q σ=.val p∧σ'=σ∨qB T t s q σ=.eff p σ'):
  Good P σ μ w (Jc P tys ty x y) p σ':=by
 subst htys;have hs:=h.sr;unfold qB at hA;split at hA
 case h_2=>rcases hA with⟨h,_⟩|h<;>cases h
 rename_i e ht;split at hA
 case h_2=>rcases hA with⟨h,_⟩|h<;>cases h
 rename_i te hte;split at hA
 case h_2=>rcases hA with⟨h,_⟩|h<;>cases h
 rename_i ns hns;have ht':=hT _ _ ht;have hte':=hT _ _ hte;split at hA
 ·rename_i hemp;split at hA
  ·rcases hA with⟨h1,rfl⟩|h1
   case inr=>cases h1
   injection h1 with h1;subst h1 hemp;obtain⟨B,d,hye,_,_⟩:=zN hy hns;refine Good.val hs (x:=x) ?_ hx;rw[hye];have hu:=QA ht' rfl;have hsz:=QJ (w:=w) hte';cases hx with
   | nv A =>
    exact app_nil hu hsz (Nat.le_refl 0)
  ·rename_i g len;have hslc:∃A k c,x=.slice A k c∧k≤c:=by
    split at hA
    ·split at hA
     case isFalse=>rcases hA with⟨h,_⟩|h<;>cases h
     rename_i ho hl0;obtain⟨_,A,hxe⟩:=vc_hol hx ho;exact⟨A,0,0,hxe,Nat.le_refl _⟩
    ·split at hA
     case isFalse=>rcases hA with⟨h,_⟩|h<;>cases h
     rename_i ho hl0;subst hl0;obtain⟨cap,cur,hxe,_,hle,_⟩:=qqs hx ho;exact⟨_,_,_,hxe,hle⟩
    ·rcases hA with⟨h,_⟩|h<;>cases h
   have hval:p=.vc g len∧σ'=σ:=by
    split at hA
    ·split at hA
     ·rcases hA with⟨h,h2⟩|h
      ·injection h with h;exact⟨h.symm,h2⟩
      ·cases h
     ·rcases hA with⟨h,_⟩|h<;>cases h
    ·split at hA
     ·rcases hA with⟨h,h2⟩|h
      ·injection h with h;exact⟨h.symm,h2⟩
      ·cases h
     ·rcases hA with⟨h,_⟩|h<;>cases h
    ·rcases hA with⟨h,_⟩|h<;>cases h
   obtain⟨rfl,rfl⟩:=hval;obtain⟨A,k,c,hxe,hkc⟩:=hslc;subst hemp;obtain⟨B,d,hye,_,_⟩:=zN hy hns;refine Good.val hs (x:=x) ?_ hx;rw[hxe,hye];exact app_nil (QA ht' rfl) (QJ (w:=w) hte') hkc
  split at hA
  case h_2=>rcases hA with⟨h,_⟩|h<;>cases h
  rename_i rows hrows;rcases hA with⟨h1,rfl⟩|h1
  case inr=>cases h1
  injection h1 with h1;subst h1 hemp;obtain⟨A,c,hxe,hle,_⟩:=zN hx hrows;obtain⟨B,d,hye,_,_⟩:=zN hy hns;refine Good.val hs (x:=x) ?_ hx;rw[hxe,hye];have hu:=QA ht' rfl;have hsz:=QJ (w:=w) hte';simp only[Builtin.append_,List.getElem?_toArray,List.getElem?_cons_zero,List.getElem?_cons_succ,Sem.run_bind,run_underlying hu,Result.andThen_ok,hsz,Builtin.lenOf,Sem.run_pure,List.length_nil,Nat.add_zero,hle,if_true,Bool.false_eq_true,if_false,Sem.run_ite];cases A<;>cases B<;>simp[Builtin.firstCells,loadCells,loadCellsFrom,storeCells]
 ·split at hA
  case isFalse=>rcases hA with⟨h,_⟩|h<;>cases h
  rename_i hne hcond;obtain⟨hrow,h0⟩:=hcond;split at hA
  ·split at hA
   case isFalse=>rcases hA with⟨h,_⟩|h<;>cases h
   rename_i hb;rcases hA with⟨h1,_⟩|h1
   ·cases h1
   ·injection h1 with h1 h2;subst h1 h2;exact app_new hs ht' rfl hte' h0 hx (.inr rfl) hy hns hne hrow hb.1 hb.2
  ·split at hA
   case isFalse=>rcases hA with⟨h,_⟩|h<;>cases h
   rename_i hb;rcases hA with⟨h1,_⟩|h1
   ·cases h1
   ·injection h1 with h1 h2;subst h1 h2;exact app_new hs ht' rfl hte' h0 hx (.inl rfl) hy hns hne hrow hb.1 hb.2
  ·split at hA
   case h_3=>rcases hA with⟨h,_⟩|h<;>cases h
   ·rename_i g rows _ ho;split at hA
    case isFalse=>rcases hA with⟨h,_⟩|h<;>cases h
    rename_i hb;obtain⟨rfl,b1,b2⟩:=hb;rcases hA with⟨h1,_⟩|h1
    ·cases h1
    ·injection h1 with h1 h2;subst h1 h2;exact app_thol hs ht' rfl hte' h0 hx ho hy hns hne hrow b1 b2
   rename_i g rows _ e' sz' len ho;split at hA
   case isFalse=>rcases hA with⟨h,_⟩|h<;>cases h
   rename_i hb;obtain⟨rfl,rfl,rfl,b1,b2,b3⟩:=hb;rcases hA with⟨h1,_⟩|h1
   ·cases h1
   ·injection h1 with h1 h2;subst h1 h2;exact app_own hs ht' rfl hte' h0 hx ho hy hns hne hrow b1 b2 b3
  ·split at hA
   case isFalse=>rcases hA with⟨h,_⟩|h<;>cases h
   rename_i hb;rcases hA with⟨h1,_⟩|h1
   ·cases h1
   ·injection h1 with h1 h2;subst h1 h2;exact app_vnew hs ht' rfl hte' h0 hx hy hns hne hrow hb.1 hb.2
  ·split at hA
   case h_3=>rcases hA with⟨h,_⟩|h<;>cases h
   ·rename_i g len _ ho;split at hA
    case isFalse=>rcases hA with⟨h,_⟩|h<;>cases h
    rename_i hb;obtain⟨rfl,b1,b2⟩:=hb;rcases hA with⟨h1,_⟩|h1
    ·cases h1
    ·injection h1 with h1 h2;subst h1 h2;exact app_vhol hs ht' rfl hte' h0 hx ho hy hns hne hrow b1 b2
   rename_i g len _ e' sz' n' cells ho;split at hA
   case isFalse=>rcases hA with⟨h,_⟩|h<;>cases h
   rename_i hb;obtain⟨rfl,rfl,rfl,b1,b2⟩:=hb;rcases hA with⟨h1,_⟩|h1
   ·cases h1
   ·injection h1 with h1 h2;subst h1 h2;exact app_vc hs ht' rfl hte' h0 hx ho hy hns hne hrow b1 b2
  ·rcases hA with⟨h,_⟩|h<;>cases h
end
section
variable {P:Program} {T:TypeId→Option TI} {σ σ':Store} {μ μ':Nat→Nat} {w w':World}
def StepOK (P:Program)(σ:Store)(μ:Nat→Nat)(w:World)(s:Sem Next):AR→Prop
 | .val p=>Good P σ μ w s p σ
 | .new ob mk=>(ob≠ .res∧ob≠ .hol)∧∀id σ',NewAt σ σ' id ob→Good P σ μ w s (mk id) σ'
 | .eff p σ'=>Good P σ μ w s p σ'
 | .call f args=>∃vs,s.run P w=(callFunc f vs).run P w∧RL σ μ w vs args
 | .bad=>True
theorem ms_inv {x:Value}{id sz len:Nat}{bt:TypeId}{cells:List PV}(hx:R σ μ w x (.ms id sz len))(ho:σ[id]? =some (some (.box bt cells))):∃cap,len≤cap∧x=.slice (some ⟨μ id,0,none⟩) len cap:=by
 cases hx with
 |ms _ _ _ _ _ _ h3=>exact h3 ⟨_,_,ho,by simp⟩
theorem nv_inv {x:Value}(hx:R σ μ w x .nv):∃A,x=.slice A 0 0:=by cases hx;exact⟨_,rfl⟩
theorem call_ok {n:Nat}{env:Env}{a:Act}(hT:∀t ti,T t=some ti→TOK P t ti)(h:Sim n σ μ env a w)(c:Call)(ty:TypeId)(b:Builtin)(hb:c.callee=.builtin b):
  StepOK P σ μ w (do let d ←resolve a.eval c ty;invoke d.target d.args) (Qd T b c.argTypes (c.args.toList.map (val env)) σ):=by
 have hs:=h.sr;have hrun:=fun w=>builtin_run (P:=P) (w:=w) (c:=c) (ty:=ty) (ρ:=a.eval) hb;unfold Qd;split
 ·rename_i p t rest hl htys;obtain⟨x,hx,hv⟩:=list1 hl;have hR:=h.val x;rw[hv]at hR;have ht0:c.argTypes[0]? =some t:=by rw[←Array.getElem?_toList,htys];rfl
  unfold lenX;split
  ·rename_i ht;split
   case h_2=>trivial
   rename_i s;refine(Good.val hs (s:=Builtin.len_ c.argTypes ty #[a.eval x]) (x:=.int .i64 s.size) (len_str hs (hT _ _ ht) rfl ht0 hR) (.v _ rfl)).mono ?_;rw[hrun,hx];simp[builtin]
  ·rename_i e ht;split
   ·rename_i id sz len;split
    case h_2=>trivial
    rename_i bt cells ho;obtain⟨cap,_,hxe⟩:=ms_inv hR ho;refine(Good.val hs (s:=Builtin.len_ c.argTypes ty #[a.eval x]) (x:=.int .i64 len) ?_ (.v _ rfl)).mono ?_
    ·rw[hxe];exact qqC hs (hT _ _ ht) rfl ht0
    ·rw[hrun,hx];simp[builtin]
   ·obtain⟨A,hxe⟩:=nv_inv hR;refine(Good.val hs (s:=Builtin.len_ c.argTypes ty #[a.eval x]) (x:=.int .i64 (0:Nat)) ?_ (.v _ rfl)).mono ?_
    ·rw[hxe];exact qqC hs (hT _ _ ht) rfl ht0
    ·rw[hrun,hx];simp[builtin]
   ·rename_i id len;split
    case h_3=>trivial
    ·rename_i ho;split
     case isFalse=>trivial
     rename_i hn;subst hn;obtain⟨_,A,hxe⟩:=vc_hol hR ho;refine(Good.val hs (s:=Builtin.len_ c.argTypes ty #[a.eval x]) (x:=.int .i64 (0:Nat)) ?_ (.v _ rfl)).mono ?_
     ·rw[hxe];exact qqC hs (hT _ _ ht) rfl ht0
     ·rw[hrun,hx];simp[builtin]
    rename_i ve vsz vn cells ho;split
    case isFalse=>trivial
    rename_i hn;subst hn;obtain⟨cap,cur,hxe,_⟩:=qqs hR ho;refine(Good.val hs (s:=Builtin.len_ c.argTypes ty #[a.eval x]) (x:=.int .i64 vn) ?_ (.v _ rfl)).mono ?_
    ·rw[hxe];exact qqC hs (hT _ _ ht) rfl ht0
    ·rw[hrun,hx];simp[builtin]
   ·split
    case h_2=>trivial
    rename_i rows hr;obtain⟨A,cap,hxe,_,_⟩:=zN hR hr;refine(Good.val hs (s:=Builtin.len_ c.argTypes ty #[a.eval x]) (x:=.int .i64 rows.length) ?_ (.v _ rfl)).mono ?_
    ·rw[hxe];exact qqC hs (hT _ _ ht) rfl ht0
    ·rw[hrun,hx];simp[builtin]
  ·trivial
 ·rename_i k i k' j hl;obtain⟨x,y,hx,hv,hu⟩:=list2 hl;have hR:=h.val x;have hS:=h.val y;rw[hv]at hR;rw[hu]at hS;split
  case isFalse=>trivial
  rename_i hk;subst hk;refine(Good.val hs (s:=Builtin.min_ c.argTypes ty #[a.eval x,a.eval y]) (x:=.int k (if j<i then j else i)) ?_ (.v _ rfl)).mono ?_
  ·rw[R_v hR,R_v hS];simp[Builtin.min_,Builtin.min2]
  ·rw[hrun,hx];simp[builtin]
 ·rename_i k i k' j hl;obtain⟨x,y,hx,hv,hu⟩:=list2 hl;have hR:=h.val x;have hS:=h.val y;rw[hv]at hR;rw[hu]at hS;split
  case isFalse=>trivial
  rename_i hk;subst hk;refine(Good.val hs (s:=Builtin.max_ c.argTypes ty #[a.eval x,a.eval y]) (x:=.int k (if i<j then j else i)) ?_ (.v _ rfl)).mono ?_
  ·rw[R_v hR,R_v hS];simp[Builtin.max_,Builtin.max2]
  ·rw[hrun,hx];simp[builtin]
 ·rename_i p q t t' hl htys;obtain⟨x,y,hx,hv,hu⟩:=list2 hl;split
  case isFalse=>trivial
  rename_i htt;subst htt;have htys':c.argTypes= #[t,t]:=by
   have:=congrArg List.toArray htys;simpa using this
  have hgo:∀p' σ',(qB T t p q σ=.val p'∧σ'=σ∨qB T t p q σ=.eff p' σ')→Good P σ μ w (do let d ←resolve a.eval c ty;invoke d.target d.args) p' σ':=fun p' σ' hA=>by
   refine(append_ok (ty:=ty) hT h htys' (hv▸h.val x) (hu▸h.val y) hA).mono ?_;rw[hrun,hx];simp[builtin,Jc]
  cases hA:qB T t p q σ with
  |val p'=>exact hgo p' σ (.inl ⟨hA,rfl⟩)
  |eff p' σ'=>exact hgo p' σ' (.inr hA)
  |new ob mk=>exact absurd hA (by unfold qB;(repeat' split)<;>simp)
  |call f args=>exact absurd hA (by unfold qB;(repeat' split)<;>simp)
  |bad=>trivial
 ·trivial
end
end Go.Proofs.Ytohmmfimedgccaa.E
end
