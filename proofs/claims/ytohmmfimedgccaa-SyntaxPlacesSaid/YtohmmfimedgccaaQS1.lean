import Derived.Scope
import Derived.Test.YtohmmfimedgccaaProg
import Derived.KernelRfl
import Derived.Test.YtohmmfimedgccaaQS0
/- SyntaxPlaces: a program's text, one token of it cut, doubled or put in another's place, is refused no sooner than there. PART 2 OF 7: ED EF EG EH EI EJ EE EK EL ET EM EP -/
section
namespace Go.Proofs.Ytohmmfimedgccaa.E
set_option linter.unusedVariables false
set_option linter.unusedSimpArgs false
section
variable {P:Program} {T:TypeId→Option TI} {σ σ':Store} {μ μ':Nat→Nat} {w w':World}
theorem load_ok {n:Nat}{env:Env}{a:Act}(hT:∀t ti,T t=some ti→TOK P t ti)(h:Sim n σ μ env a w)(t:TypeId)(x:Operand):StepOK P σ μ w (do pure (.value (←Instr.loadAt t (a.eval x)))) (ql T (.load t x) env σ):=by
 have hs:=h.sr;simp only[ql];split
 case h_2=>trivial
 rename_i ti ht;split
 ·rename_i id off hv;have hR:=h.val x;rw[hv]at hR;split
  case h_2=>trivial
  rename_i bt cells ho;split
  case h_2=>trivial
  rename_i p hp;obtain⟨y,h1,h2⟩:=load_pt hs (hT _ _ ht) hR ho hp;exact Good.val hs h1 h2
 ·rename_i row off hv;have hR:=h.val x;rw[hv]at hR;split
  case h_2=>trivial
  rename_i p hp;obtain⟨y,h1,h2⟩:=load_rp (hT _ _ ht) hR hp;exact Good.val hs h1 h2
 ·rename_i id len off hv;have hR:=h.val x;rw[hv]at hR;split
  case h_2=>trivial
  rename_i ve vsz vn cells ho;split
  case isFalse=>trivial
  rename_i hn;subst hn;split
  case h_2=>trivial
  rename_i p hp;obtain⟨y,h1,h2⟩:=load_vq hs (hT _ _ ht) hR ho hp;exact Good.val hs h1 h2
 ·trivial
theorem store_ok {n:Nat}{env:Env}{a:Act}(hT:∀t ti,T t=some ti→TOK P t ti)(h:Sim n σ μ env a w)(t:TypeId)(x y:Operand):StepOK P σ μ w (do Instr.storeAt t (a.eval x) (a.eval y);pure .skip) (ql T (.store t x y) env σ):=by
 have hs:=h.sr;simp only[ql];split
 case h_2=>trivial
 rename_i ti ht;split
 ·rename_i id off hv;have hR:=h.val x;rw[hv]at hR;split
  case h_2=>trivial
  rename_i bt cells ho;split
  case isFalse=>trivial
  rename_i hc;obtain⟨c1,c2,c3⟩:=hc;exact Good.unit (store_pt hs (hT _ _ ht) hR (h.val y) ho c1 c2 c3)
 ·rename_i id len off hv;have hR:=h.val x;rw[hv]at hR;split
  case h_2=>trivial
  rename_i ve vsz vn cells ho;split
  case isFalse=>trivial
  rename_i hc;obtain⟨rfl,c1,c2,c3⟩:=hc;exact Good.unit (store_vq hs (hT _ _ ht) hR (h.val y) ho c1 c2 c3)
 ·trivial
theorem fieldAddr_ok {n:Nat}{env:Env}{a:Act}(hT:∀t ti,T t=some ti→TOK P t ti)(h:Sim n σ μ env a w)(t:TypeId)(x:Operand)(f:Nat):StepOK P σ μ w (do pure (.value (←Instr.fieldAt t (a.eval x) f))) (ql T (.fieldAddr t x f) env σ):=by
 have hs:=h.sr;simp only[ql];split
 case h_2=>trivial
 rename_i fs ht;split
 case h_2=>trivial
 rename_i off ft hf;split
 case h_2=>trivial
 rename_i ti hft;split
 case isTrue=>trivial
 rename_i hsz;split
 ·rename_i id o hv;have hR:=h.val x;rw[hv]at hR;split
  case h_2=>trivial
  rename_i bt cells ho;exact st_field_pt hs (hT _ _ ht) rfl hf (hT _ _ hft) hsz hR ho
 ·rename_i row o hv;have hR:=h.val x;rw[hv]at hR;exact st_field_rp hs (hT _ _ ht) rfl hf (hT _ _ hft) hsz hR
 ·rename_i id len o hv;have hR:=h.val x;rw[hv]at hR;split
  case h_2=>trivial
  rename_i ve vsz vn cells ho;split
  case isFalse=>trivial
  rename_i hn;subst hn;exact st_field_vq hs (hT _ _ ht) rfl hf (hT _ _ hft) hsz hR ho
 ·trivial
theorem field_ok {n:Nat}{env:Env}{a:Act}(hT:∀t ti,T t=some ti→TOK P t ti)(h:Sim n σ μ env a w)(t:TypeId)(x:Operand)(f:Nat):StepOK P σ μ w (do pure (.value (←Instr.field t (a.eval x) f))) (ql T (.field t x f) env σ):=by
 have hs:=h.sr;simp only[ql];split
 case h_2=>trivial
 rename_i fs ht;split
 case h_2=>trivial
 rename_i off ft hf;split
 case h_2=>trivial
 rename_i ti cells hft hv;have hR:=h.val x;rw[hv]at hR;split
 case h_2=>trivial
 rename_i p hp;exact st_fieldV hs (hT _ _ ht) rfl hf (hT _ _ hft) hR hp
theorem indexAddr_ok {n:Nat}{env:Env}{a:Act}(hT:∀t ti,T t=some ti→TOK P t ti)(h:Sim n σ μ env a w)(t:TypeId)(x y:Operand):StepOK P σ μ w (do pure (.value (←Instr.indexAt t (a.eval x) (a.eval y)))) (ql T (.indexAddr t x y) env σ):=by
 have hs:=h.sr;simp only[ql];split
 case h_3=>trivial
 case h_2=>
  rename_i m e ht;split
  case h_2=>trivial
  rename_i ti i id off hte hi hv;have hR:=h.val x;rw[hv]at hR;split
  case h_2=>trivial
  rename_i bt cells ho;split
  case isFalse=>trivial
  rename_i hc;exact st_index_pa hs (hT _ _ ht) rfl (hT _ _ hte) hR ho (h.val y) hi hc.1 hc.2
 rename_i e ht;split
 case h_2=>trivial
 rename_i ti i hte hi;split
 case isFalse=>trivial
 rename_i h0;split
 ·rename_i id sz len hv;have hR:=h.val x;rw[hv]at hR;split
  case h_2=>trivial
  rename_i bt cells ho;split
  case isFalse=>trivial
  rename_i hc;exact st_index_ms hs (hT _ _ ht) rfl (hT _ _ hte) hR ho (h.val y) hi h0 hc.1 hc.2
 ·rename_i id len hv;have hR:=h.val x;rw[hv]at hR;split
  case h_2=>trivial
  rename_i ve vsz vn cells ho;split
  case isFalse=>trivial
  rename_i hc;obtain⟨c1,rfl,c3⟩:=hc;exact st_index_vc hs (hT _ _ ht) rfl (hT _ _ hte) hR ho (h.val y) hi h0 c1 c3
 ·split
  case h_2=>trivial
  rename_i rows hr;split
  case h_2=>trivial
  rename_i row hrow;split
  case isFalse=>trivial
  rename_i hsz;exact st_index_sl hs (hT _ _ ht) rfl (hT _ _ hte) (h.val x) hr (h.val y) hi h0 hrow hsz
theorem index_ok {n:Nat}{env:Env}{a:Act}(hT:∀t ti,T t=some ti→TOK P t ti)(h:Sim n σ μ env a w)(t:TypeId)(x y:Operand):StepOK P σ μ w (do pure (.value (←Instr.index t (a.eval x) (a.eval y)))) (ql T (.index t x y) env σ):=by
 have hs:=h.sr;simp only[ql];split
 ·rename_i s i ht hv hi;have hR:=h.val x;rw[hv]at hR;split
  case isFalse=>trivial
  rename_i h0;split
  case h_2=>trivial
  rename_i b hb;exact st_index_str hs (hT _ _ ht) rfl hR (h.val y) hi h0 hb
 ·rename_i len e cells i ht hv hi;have hR:=h.val x;rw[hv]at hR;split
  case h_2=>trivial
  rename_i te hte;split
  case isFalse=>trivial
  rename_i h0;split
  case h_2=>trivial
  rename_i p hp;exact st_index_arr hs (hT _ _ ht) rfl (hT _ _ hte) hR (h.val y) hi h0.1 h0.2 hp
 ·trivial
theorem build_ok {n:Nat}{env:Env}{a:Act}(hT:∀t ti,T t=some ti→TOK P t ti)(h:Sim n σ μ env a w)(t:TypeId)(parts:Array (Nat×Operand)):StepOK P σ μ w (do pure (.value (←Instr.build t (parts.map fun(i,x)=>(i,a.eval x))))) (ql T (.build t parts) env σ):=by
 have hs:=h.sr;have hp:PR σ μ w (parts.map fun(i,x)=>(i,a.eval x)).toList (parts.toList.map fun q=>(q.1,val env q.2)):=by
  rw[Array.toList_map];exact h.parts parts.toList
 simp only[ql];split
 ·rename_i zero fs ht;split
  case h_2=>trivial
  rename_i cells hc;exact st_build_st hT hs (hT _ _ ht) rfl hp hc
 ·rename_i zero _ e ht;split
  case h_2=>trivial
  rename_i te hte;split
  case h_2=>trivial
  rename_i cells hc;exact st_build_arr hs (hT _ _ ht) rfl (hT _ _ hte) hp hc
 ·trivial
theorem buildSlice_ok {n:Nat}{env:Env}{a:Act}(hT:∀t ti,T t=some ti→TOK P t ti)(h:Sim n σ μ env a w)(t:TypeId)(m:Nat)(parts:Array (Nat×Operand)):StepOK P σ μ w (do pure (.value (←Instr.buildSlice t m (parts.map fun(i,x)=>(i,a.eval x))))) (ql T (.buildSlice t m parts) env σ):=by
 have hs:=h.sr;have hp:PR σ μ w (parts.map fun(i,x)=>(i,a.eval x)).toList (parts.toList.map fun q=>(q.1,val env q.2)):=by
  rw[Array.toList_map];exact h.parts parts.toList
 simp only[ql];split
 case h_2=>trivial
 rename_i e ht;split
 case h_2=>trivial
 rename_i te hte;split
 ·rename_i hm;subst hm;split
  case isFalse=>trivial
  rename_i hps;exact st_lit0 hs (hT _ _ ht) rfl (hT _ _ hte) (by simpa using hps)
 ·rename_i hm;split
  case isFalse=>trivial
  rename_i hc;split
  case h_2=>trivial
  rename_i rows hrows;exact st_lit hs (hT _ _ ht) rfl (hT _ _ hte) (hT _ _ hte).zl hc.2 hm hc.1 hp hrows
theorem slice_ok {n:Nat}{env:Env}{a:Act}(hT:∀t ti,T t=some ti→TOK P t ti)(h:Sim n σ μ env a w)(t:TypeId)(x:Operand)(lo hi:Option Operand):StepOK P σ μ w (do pure (.value (←Instr.sliceAt t (a.eval x) (lo.map a.eval) (hi.map a.eval) none))) (ql T (.slice t x lo hi none) env σ):=by
 have hs:=h.sr;simp only[ql];split
 ·rename_i s l ht hv hl;have hR:=h.val x;rw[hv]at hR;split
  case h_2=>trivial
  rename_i hh hhi;split
  case isFalse=>trivial
  rename_i hc;exact st_cut_str hs (hT _ _ ht) rfl hR (opt_lo h hl) (opt_hi h hhi) hc.1 hc.2.1 hc.2.2
 ·rename_i e l ht hl;split
  case h_2=>trivial
  rename_i te rows hte hr;split
  case h_2=>trivial
  rename_i hh hhi;split
  case isFalse=>trivial
  rename_i hc;exact st_cut_sl hs (hT _ _ ht) rfl (hT _ _ hte) (h.val x) hr (opt_lo h hl) (opt_hi h hhi) hc.1 hc.2.1 hc.2.2.1 hc.2.2.2
 ·trivial
theorem lookup_ok {n:Nat}{env:Env}{a:Act}(hT:∀t ti,T t=some ti→TOK P t ti)(h:Sim n σ μ env a w)(t:TypeId)(x y:Operand)(ok:Bool):StepOK P σ μ w (do pure (.value (←Instr.lookup t (a.eval x) (a.eval y) ok))) (ql T (.lookup t x y ok) env σ):=by
 have hs:=h.sr;simp only[ql];split
 case h_2=>trivial
 rename_i k e ht;split
 case h_2=>trivial
 rename_i tk te htk hte;split
 case h_2=>trivial
 rename_i id hv;have hR:=h.val x;rw[hv]at hR;split
 case h_2=>trivial
 rename_i kk mm m ho;split
 case h_2=>trivial
 rename_i key hkey;split
 case isFalse=>trivial
 rename_i hkk;have:=st_lookup (P:=P) hs (hT _ _ ht) rfl (hT _ _ htk) (hT _ _ hte) hkk ok hR ho (h.val y) hkey;cases ok<;>exact this
theorem put_ok {n:Nat}{env:Env}{a:Act}(hT:∀t ti,T t=some ti→TOK P t ti)(h:Sim n σ μ env a w)(t:TypeId)(x y z:Operand):StepOK P σ μ w (do Instr.mapUpdate t (a.eval x) (a.eval y) (a.eval z);pure .skip) (ql T (.mapUpdate t x y z) env σ):=by
 have hs:=h.sr;simp only[ql];split
 case h_2=>trivial
 rename_i k e ht;split
 case h_2=>trivial
 rename_i tk htk;split
 case h_2=>trivial
 rename_i id hv;have hR:=h.val x;rw[hv]at hR;split
 case h_2=>trivial
 rename_i kk mm m ho;split
 case h_2=>trivial
 rename_i key hkey;split
 case isFalse=>trivial
 rename_i hkk;exact Good.unit (st_put hs (hT _ _ ht) rfl (hT _ _ htk) hkk.1 hR ho (h.val y) hkey (h.val z))
theorem map_R {n:Nat}{env:Env}{a:Act}(h:Sim n σ μ env a w)(xs:Array Operand):(xs.map a.eval).size=(xs.toList.map (val env)).length∧∀(i:Nat) (x:Value) (p:PV),(xs.map a.eval)[i]? =some x→(xs.toList.map (val env))[i]? =some p→R σ μ w x p:=h.vals xs
theorem qqM {n:Nat}{env:Env}{a:Act}(hT:∀t ti,T t=some ti→TOK P t ti)(h:Sim n σ μ env a w)(o:Oper):StepOK P σ μ w (execOp a.eval o) (ql T o.op env σ):=by
 have hs:=h.sr;obtain⟨dst,op,ty,pos,after,guard⟩:=o;cases op with
 |move x=>exact Good.pure hs (h.val x)
 |assign x=>exact Good.pure hs (h.val x)
 | pick c x y =>
  simp only[ql];split
  case h_2=>trivial
  rename_i t hv;have hR:=h.val c;rw[hv]at hR;have hc:=R_v hR;refine(Good.pure hs (x:=if t then a.eval x else a.eval y) (p:=if t then val env x else val env y) ?_).mono ?_
  ·cases t
   ·exact h.val y
   ·exact h.val x
  ·simp[execOp,hc,asBool]
 | alloc e =>
  simp only[ql];split
  case h_2=>trivial
  rename_i ti ht;exact⟨by simp,fun id σ' hn=>st_alloc hs (hT _ _ ht) hn⟩
 | box e x =>
  simp only[ql];split
  case isFalse=>trivial
  rename_i hone;exact⟨by simp,fun id σ' hn=>st_box hs e (h.val x) hone hn⟩
 |build t parts=>exact build_ok hT h t parts
 |buildSlice t m parts=>exact buildSlice_ok hT h t m parts
 |load t x=>exact load_ok hT h t x
 |store t x y=>exact store_ok hT h t x y
 | nilCheck x =>
  simp only[ql];split
  ·rename_i id o hv;have hR:=h.val x;rw[hv]at hR;split
   case h_2=>trivial
   rename_i bt cells ho;have hx:=pt_val hs hR ho;refine(Good.pure hs hR).mono ?_;simp[execOp,hx]
  ·rename_i row o hv;have hR:=h.val x;rw[hv]at hR;refine(Good.pure hs hR).mono ?_;generalize hq:a.eval x=v at hR;cases hR;simp[execOp,hq]
  ·rename_i id len o hv;have hR:=h.val x;rw[hv]at hR;split
   case h_2=>trivial
   rename_i ve vsz vn cells ho;split
   case isFalse=>trivial
   rename_i hn;subst hn;have hx:=vq_inv hR ho;refine(Good.pure hs hR).mono ?_;simp[execOp,hx]
  ·trivial
 | binOp b t x y ty' =>
  simp only[ql];split
  case h_2=>trivial
  rename_i p hp;obtain⟨z,h1,h2⟩:=abin_ok hT hs (h.val x) (h.val y) hp x y;exact Good.val hs h1 h2
 | unOp b t x =>
  simp only[ql];split
  case h_2=>trivial
  rename_i p hp;obtain⟨z,h1,h2⟩:=aun_ok (P:=P) (h.val x) hp;exact Good.val hs h1 h2
 | convert s d x =>
  simp only[ql];split
  ·rename_i k k' m hts htd hv;have hR:=h.val x;rw[hv]at hR;exact st_conv hs (hT _ _ hts) (hT _ _ htd) rfl hR
  ·rename_i hts htd hv;have hR:=h.val x;rw[hv]at hR;split
   case h_2=>trivial
   rename_i hte;exact st_s2b hs (hT _ _ hts) (hT _ _ htd) rfl (hT _ _ hte) rfl hR
  ·rename_i hts htd hv;have hR:=h.val x;rw[hv]at hR;split
   case h_2=>trivial
   rename_i hte hl;exact st_b2s hs (hT _ _ hts) rfl (hT _ _ htd) rfl (hT _ _ hte) rfl hl hR
  ·trivial
 | makeFunc f first caps =>
  cases f with
  | func f =>
   have h1:=map_R h first
   have h2:=map_R h caps;exact Good.val hs (s:=Instr.makeFunc (.func f) (first.map a.eval) (caps.map a.eval)) rfl (.fn f _ _ _ _ h1.1 h2.1 h1.2 h2.2)
  |_=>trivial
 | makeMap t r =>
  cases r with
  |some r=>trivial
  | none =>
   simp only[ql];split
   case h_2=>trivial
   split
   case h_2=>trivial
   rename_i kk _;exact⟨by simp,fun id σ' hn=>st_makeMap hs t kk hn⟩
 | slice t x lo hi mx =>
  cases mx with
  |some m=>trivial
  |none=>exact slice_ok hT h t x lo hi
 |fieldAddr t x f=>exact fieldAddr_ok hT h t x f
 |field t x f=>exact field_ok hT h t x f
 |indexAddr t x y=>exact indexAddr_ok hT h t x y
 |index t x y=>exact index_ok hT h t x y
 |lookup t x y ok=>exact lookup_ok hT h t x y ok
 |mapUpdate t x y z=>exact put_ok hT h t x y z
 | extract x i =>
  simp only[ql];split
  case h_2=>trivial
  rename_i ps hv;have hR:=h.val x;rw[hv]at hR;split
  case h_2=>trivial
  rename_i p hp;exact st_extract hs hR hp
 | call c =>
  simp only[ql];split
  ·rename_i b hb;exact call_ok hT h c ty b hb
  ·rename_i f hf;split
   case h_2=>trivial
   rename_i g first caps hv
   have hR:=h.val f;rw[hv]at hR;generalize hq:a.eval f=v at hR;cases hR with
   | fn _ vs cs _ _ h1 h2 h3 h4 =>
    refine⟨vs++c.args.map a.eval++cs,call_run hf hq,?_⟩;exact RL.append (RL.append ⟨h1,h3⟩ (h.vals c.args)) ⟨h2,h4⟩
  ·trivial
 |_=>trivial
end
section
variable {P:Program} {T:TypeId→Option TI} {σ σ' τ s H:Store} {F:Nat→Option AObj} {e e':Env}
theorem YS? (i:Nat):(ov σ F)[i]? =(σ[i]?).map (ovc F i):=by unfold ov;rw[List.getElem?_mapIdx]
theorem QU:(ov σ F).length=σ.length:=by unfold ov;simp
theorem YS {i:Nat}{o:AObj}(h:σ[i]? =some (some o))(hne:o≠ .res):(ov σ F)[i]? =some (some o):=by
 rw[YS?,h];simp only[Option.map_some,Option.some.injEq];cases o<;>first|rfl|exact absurd rfl hne
theorem ov_live {i:Nat}{o:AObj}(h:live σ i o):live (ov σ F) i o:=⟨YS h.1 h.2.1,h.2⟩
theorem YR:ov σ (fun _=>none)=σ:=by
 apply List.ext_getElem?;intro i;rw[YS?];cases σ[i]? with
 |none=>rfl
 | some o => cases o with
  |none=>rfl
  |some o=>cases o<;>rfl
theorem Fok.nil:Fok σ (fun _=>none):=fun _ _ h=>by cases h
theorem Fok.non {i:Nat}(h:Fok σ F)(hn:σ[i]?≠some (some .res)):F i=none:=by
 cases hf:F i with
 |none=>rfl
 |some ob=>exact absurd (h i ob hf).1 hn
theorem zU {i:Nat}{o:Option AObj}(h:F i=none):ovc F i o=o:=by
 unfold ovc;split
 ·rename_i h1;rw[h]at h1;cases h1
 ·rfl
theorem Yl (h:Fok σ F)(x:Option AObj):ov (σ++[x]) F=ov σ F++[x]:=by
 have hn:F σ.length=none:=h.non (by simp);apply List.ext_getElem?;intro i;rw[YS?];by_cases hi:i<σ.length
 ·rw[List.getElem?_append_left hi,List.getElem?_append_left (by rw[QU];exact hi),YS?]
 ·rw[List.getElem?_append_right (by omega),List.getElem?_append_right (by rw[QU];omega),QU]
  match hk:i - σ.length with
  | 0 =>
   have:i=σ.length:=by omega
   subst this;simp[zU hn]
  |n+1=>simp
theorem Fok.push (h:Fok σ F)(x:Option AObj):Fok (σ++[x]) F:=fun i ob hi=>by
 obtain⟨h1,h2⟩:=h i ob hi;exact⟨by rw[List.getElem?_append_left (List.getElem?_eq_some_iff.1 h1).1];exact h1,h2⟩
theorem Jr {i:Nat}(h:F i=none)(x:Option AObj):ov (σ.set i x) F=(ov σ F).set i x:=by
 apply List.ext_getElem?;intro j;rw[YS?,List.getElem?_set,List.getElem?_set,YS?,QU];split
 ·rename_i hij;subst hij;split
  ·simp[zU h]
  ·rfl
 ·rfl
theorem Fok.set {i:Nat}(h:Fok σ F)(hn:F i=none)(x:Option AObj):Fok (σ.set i x) F:=fun j ob hj=>by
 obtain⟨h1,h2⟩:=h j ob hj;refine⟨?_,h2⟩;rw[List.getElem?_set_ne]
 ·exact h1
 ·rintro rfl
  rw[hn]at hj;cases hj
theorem qr.refl (σ:Store):qr σ σ:=fun _ h=>h
theorem qr.trans (h:qr σ s)(k:qr s τ):qr σ τ:=fun i hi=>k i (h i hi)
theorem qr.Fok (h:qr σ s)(hF:Fok σ F):Fok s F:=fun i ob hi=>⟨h i (hF i ob hi).1,(hF i ob hi).2⟩
theorem qr.push (x:Option AObj):qr σ (σ++[x]):=fun i hi=>by rw[List.getElem?_append_left (List.getElem?_eq_some_iff.1 hi).1];exact hi
theorem qr.set {i:Nat}{o:Option AObj}(x:Option AObj)(h:σ[i]? =some o)(hne:o≠some .res):qr σ (σ.set i x):=fun j hj=>by
 rw[List.getElem?_set_ne]
 ·exact hj
 ·rintro rfl
  rw[h]at hj;injection hj with hj;exact hne hj
theorem JK:sub σ (ov σ F):=fun i o h=>⟨YS h.1 h.2,h.2⟩
theorem sub.get {i:Nat}{o:AObj}(h:sub H s)(ho:H[i]? =some (some o))(hne:o≠ .res):s[i]? =some (some o):=(h i o ⟨ho,hne⟩).1
theorem YF {t:TypeId}{p q:PV}{r:AR}(h:qB T t p q σ=r)(hr:r≠ .bad):(∃p',r=.val p'∧∀τ,sub σ τ→qB T t p q τ=.val p')∨(∃(p':Nat→PV) (ob:AObj),r=.eff (p' σ.length) (σ++[some ob])∧ob≠ .res∧∀τ,qB T t p q τ=.eff (p' τ.length) (τ++[some ob]))∨
  (∃p' g o ob,r=.eff p' (σ.set g (some ob))∧ob≠ .res∧o≠ .res∧σ[g]? =some (some o)∧∀τ,τ[g]? =some (some o)→qB T t p q τ=.eff p' (τ.set g (some ob))):=by
 unfold qB at h;split at h
 case h_2=>exact absurd h.symm hr
 rename_i e ht;split at h
 case h_2=>exact absurd h.symm hr
 rename_i te hte;split at h
 case h_2=>exact absurd h.symm hr
 rename_i ns hns;split at h
 ·rename_i hemp;split at h
  ·exact .inl ⟨_,h.symm,fun τ hτ=>by simp only[qB,ht,hte,hns,hemp,if_true]⟩
  ·rename_i g len;split at h
   ·rename_i ho;split at h
    case isFalse=>exact absurd h.symm hr
    rename_i hn;exact .inl ⟨_,h.symm,fun τ hτ=>by simp only[qB,ht,hte,hns,hemp,if_true,hτ.get ho (by simp),if_pos hn]⟩
   ·rename_i ve vsz vn cells ho;split at h
    case isFalse=>exact absurd h.symm hr
    rename_i hn;exact .inl ⟨_,h.symm,fun τ hτ=>by simp only[qB,ht,hte,hns,hemp,if_true,hτ.get ho (by simp),if_pos hn]⟩
   ·exact absurd h.symm hr
  rename_i hnv hnc;split at h
  case h_2=>exact absurd h.symm hr
  rename_i rows hrows;refine .inl ⟨p,h.symm,fun τ hτ=> ?_⟩;cases p<;>first|exact absurd rfl hnv|exact absurd rfl (hnc _ _)|simp only[qB,ht,hte,hns,hemp,if_true,hrows]
 ·rename_i hne;split at h
  case isFalse=>exact absurd h.symm hr
  rename_i hc;split at h
  ·split at h
   case isFalse=>exact absurd h.symm hr
   rename_i hb;exact .inr (.inl ⟨fun n=>.ow n ns,_,h.symm,by simp,fun τ=>by simp only[qB,ht,hte,hns,if_neg hne,if_pos hc,if_pos hb]⟩)
  ·split at h
   case isFalse=>exact absurd h.symm hr
   rename_i hb;exact .inr (.inl ⟨fun n=>.ow n ns,_,h.symm,by simp,fun τ=>by simp only[qB,ht,hte,hns,if_neg hne,if_pos hc,if_pos hb]⟩)
  ·split at h
   case h_3=>exact absurd h.symm hr
   ·rename_i g rows _ ho;split at h
    case isFalse=>exact absurd h.symm hr
    rename_i hb;exact .inr (.inr ⟨_,g,_,_,h.symm,by simp,by simp,ho,fun τ hτ=>by simp only[qB,ht,hte,hns,if_neg hne,if_pos hc,hτ,if_pos hb]⟩)
   rename_i g rows _ e' sz' len ho;split at h
   case isFalse=>exact absurd h.symm hr
   rename_i hb;exact .inr (.inr ⟨_,g,_,_,h.symm,by simp,by simp,ho,fun τ hτ=>by simp only[qB,ht,hte,hns,if_neg hne,if_pos hc,hτ,if_pos hb]⟩)
  ·split at h
   case isFalse=>exact absurd h.symm hr
   rename_i hb;exact .inr (.inl ⟨fun n=>.vc n ns.length,_,h.symm,by simp,fun τ=>by simp only[qB,ht,hte,hns,if_neg hne,if_pos hc,if_pos hb]⟩)
  ·split at h
   case h_3=>exact absurd h.symm hr
   ·rename_i g len _ ho;split at h
    case isFalse=>exact absurd h.symm hr
    rename_i hb;exact .inr (.inr ⟨_,g,_,_,h.symm,by simp,by simp,ho,fun τ hτ=>by simp only[qB,ht,hte,hns,if_neg hne,if_pos hc,hτ,if_pos hb]⟩)
   rename_i g len _ e' sz' n' cells ho;split at h
   case isFalse=>exact absurd h.symm hr
   rename_i hb;exact .inr (.inr ⟨_,g,_,_,h.symm,by simp,by simp,ho,fun τ hτ=>by simp only[qB,ht,hte,hns,if_neg hne,if_pos hc,hτ,if_pos hb]⟩)
  ·exact absurd h.symm hr
inductive StepK' (T:TypeId→Option TI)(o:Op)(e:Env)(σ:Store):AR→Prop
 |val (p):(∀τ,sub σ τ→ql T o e τ=.val p)→StepK' T o e σ (.val p)
 |new (ob mk):(∀τ,ql T o e τ=.new ob mk)→StepK' T o e σ (.new ob mk)
 |push (p:Nat→PV) (ob):ob≠ .res→(∀τ,ql T o e τ=.eff (p τ.length) (τ++[some ob]))→StepK' T o e σ (.eff (p σ.length) (σ++[some ob]))
 |set (p g o' ob):ob≠ .res→o'≠ .res→σ[g]? =some (some o')→(∀τ,τ[g]? =some (some o')→ql T o e τ=.eff p (τ.set g (some ob)))→StepK' T o e σ (.eff p (σ.set g (some ob)))
 |call (f args):(∀τ,ql T o e τ=.call f args)→StepK' T o e σ (.call f args)
 |bad:StepK' T o e σ .bad
theorem stepK'_pure (o:Op)(h:∀τ,ql T o e τ=ql T o e σ)(hne:∀p s',ql T o e σ≠ .eff p s'):StepK' T o e σ (ql T o e σ):=by
 generalize hr:ql T o e σ=r at*;cases r with
 |val p=>exact .val p fun τ _=>h τ
 |bad=>exact .bad
 |new ob mk=>exact .new ob mk h
 |call f args=>exact .call f args h
 |eff p s'=>exact absurd rfl (hne p s')
theorem qqu (o:Op)(e:Env)(σ:Store):StepK' T o e σ (ql T o e σ):=by
 have kv:∀{o:Op} {p:PV},(∀τ,sub σ τ→ql T o e τ=.val p)→ql T o e σ=.val p→StepK' T o e σ (ql T o e σ):=fun h h'=>h'▸ .val _ h;cases o with
 | load t a =>
  simp only[ql];split
  case h_2=>exact .bad
  rename_i ti ht;split
  ·rename_i id off hv;split
   case h_2=>exact .bad
   rename_i bt cells ho;split
   case h_2=>exact .bad
   rename_i p hp;exact .val _ fun τ hτ=>by simp only[ql,ht,hv,hτ.get ho (by simp),hp]
  ·rename_i row off hv;split
   case h_2=>exact .bad
   rename_i p hp;exact .val _ fun τ hτ=>by simp only[ql,ht,hv,hp]
  ·rename_i id len off hv;split
   case h_2=>exact .bad
   rename_i ve vsz vn cells ho;split
   case isFalse=>exact .bad
   rename_i hn;split
   case h_2=>exact .bad
   rename_i p hp;exact .val _ fun τ hτ=>by simp only[ql,ht,hv,hτ.get ho (by simp),if_pos hn,hp]
  ·exact .bad
 | store t a x =>
  simp only[ql];split
  case h_2=>exact .bad
  rename_i ti ht;split
  ·rename_i id off hv;split
   case h_2=>exact .bad
   rename_i bt cells ho;split
   case isFalse=>exact .bad
   rename_i hc;exact .set _ _ _ _ (by simp) (by simp) ho fun τ hτ=>by simp only[ql,ht,hv,hτ,if_pos hc]
  ·rename_i id len off hv;split
   case h_2=>exact .bad
   rename_i ve vsz vn cells ho;split
   case isFalse=>exact .bad
   rename_i hc;exact .set _ _ _ _ (by simp) (by simp) ho fun τ hτ=>by simp only[ql,ht,hv,hτ,if_pos hc]
  ·exact .bad
 | fieldAddr t x f =>
  simp only[ql];split
  case h_2=>exact .bad
  rename_i fs ht;split
  case h_2=>exact .bad
  rename_i off ft hf;split
  case h_2=>exact .bad
  rename_i ti hft;split
  case isTrue=>exact .bad
  rename_i hsz;split
  ·rename_i id o hv;split
   case h_2=>exact .bad
   rename_i bt cells ho;exact .val _ fun τ hτ=>by simp only[ql,ht,hf,hft,if_neg hsz,hv,hτ.get ho (by simp)]
  ·rename_i row o hv;exact .val _ fun τ hτ=>by simp only[ql,ht,hf,hft,if_neg hsz,hv]
  ·rename_i id len o hv;split
   case h_2=>exact .bad
   rename_i ve vsz vn cells ho;split
   case isFalse=>exact .bad
   rename_i hn;exact .val _ fun τ hτ=>by simp only[ql,ht,hf,hft,if_neg hsz,hv,hτ.get ho (by simp),if_pos hn]
  ·exact .bad
 | indexAddr t x y =>
  simp only[ql];split
  case h_3=>exact .bad
  case h_2=>
   rename_i m el ht;split
   case h_2=>exact .bad
   rename_i ti i id off hte hi hv;split
   case h_2=>exact .bad
   rename_i bt cells ho;split
   case isFalse=>exact .bad
   rename_i hc;exact .val _ fun τ hτ=>by simp only[ql,ht,hte,hi,hv,hτ.get ho (by simp),if_pos hc]
  rename_i el ht;split
  case h_2=>exact .bad
  rename_i ti i hte hi;split
  case isFalse=>exact .bad
  rename_i h0;split
  ·rename_i id sz len hv;split
   case h_2=>exact .bad
   rename_i bt cells ho;split
   case isFalse=>exact .bad
   rename_i hc;exact .val _ fun τ hτ=>by simp only[ql,ht,hte,hi,if_pos h0,hv,hτ.get ho (by simp),if_pos hc]
  ·rename_i id len hv;split
   case h_2=>exact .bad
   rename_i ve vsz vn cells ho;split
   case isFalse=>exact .bad
   rename_i hc;exact .val _ fun τ hτ=>by simp only[ql,ht,hte,hi,if_pos h0,hv,hτ.get ho (by simp),if_pos hc]
  ·rename_i hnot;split
   case h_2=>exact .bad
   rename_i rows hr;split
   case h_2=>exact .bad
   rename_i row hrow;split
   case isFalse=>exact .bad
   rename_i hsz;refine .val _ fun τ hτ=> ?_;simp only[ql,ht,hte,hi,if_pos h0];cases hv:val e x<;>first|exact absurd hv (hnot _ _ _)|(rw[hv]at hr;simp only[hr,hrow,if_pos hsz])
 | nilCheck x =>
  simp only[ql];split
  ·rename_i id o hv;split
   case h_2=>exact .bad
   rename_i bt cells ho;exact .val _ fun τ hτ=>by simp only[ql,hv,hτ.get ho (by simp)]
  ·rename_i row o hv;exact .val _ fun τ hτ=>by simp only[ql,hv]
  ·rename_i id len o hv;split
   case h_2=>exact .bad
   rename_i ve vsz vn cells ho;split
   case isFalse=>exact .bad
   rename_i hn;exact .val _ fun τ hτ=>by simp only[ql,hv,hτ.get ho (by simp),if_pos hn]
  ·exact .bad
 | lookup t x y ok =>
  simp only[ql];split
  case h_2=>exact .bad
  rename_i k el ht;split
  case h_2=>exact .bad
  rename_i tk te htk hte;split
  case h_2=>exact .bad
  rename_i id hv;split
  case h_2=>exact .bad
  rename_i kk mm m ho;split
  case h_2=>exact .bad
  rename_i key hkey;split
  case isFalse=>exact .bad
  rename_i hkk;split
  ·rename_i hok;exact .val _ fun τ hτ=>by simp only[ql,ht,htk,hte,hv,hτ.get ho (by simp),hkey,if_pos hkk,if_pos hok]
  ·rename_i hok;exact .val _ fun τ hτ=>by simp only[ql,ht,htk,hte,hv,hτ.get ho (by simp),hkey,if_pos hkk,if_neg hok]
 | mapUpdate t x y z =>
  simp only[ql];split
  case h_2=>exact .bad
  rename_i k el ht;split
  case h_2=>exact .bad
  rename_i tk htk;split
  case h_2=>exact .bad
  rename_i id hv;split
  case h_2=>exact .bad
  rename_i kk mm m ho;split
  case h_2=>exact .bad
  rename_i key hkey;split
  case isFalse=>exact .bad
  rename_i hkk;exact .set _ _ _ _ (by simp) (by simp) ho fun τ hτ=>by simp only[ql,ht,htk,hv,hτ,hkey,if_pos hkk]
 | call c =>
  simp only[ql];split
  ·rename_i b hb;generalize hr:Qd T b c.argTypes (c.args.toList.map (val e)) σ=r;unfold Qd at hr;split at hr
   ·rename_i x t rest ha hty;generalize hr':lenX T t x σ=r' at hr;unfold lenX at hr';split at hr'
    ·rename_i ht;split at hr'
     case h_2=>subst hr' hr;exact .bad
     subst hr' hr;exact .val _ fun τ hτ=>by simp only[ql,hb,ha,Qd,hty,lenX,ht]
    ·rename_i el ht;split at hr'
     ·split at hr'
      case h_2=>subst hr' hr;exact .bad
      rename_i bt cells ho;subst hr' hr;exact .val _ fun τ hτ=>by simp only[ql,hb,ha,Qd,hty,lenX,ht,hτ.get ho (by simp)]
     ·subst hr' hr;exact .val _ fun τ hτ=>by simp only[ql,hb,ha,Qd,hty,lenX,ht]
     ·split at hr'
      case h_3=>subst hr' hr;exact .bad
      ·rename_i ho;split at hr'
       case isFalse=>subst hr' hr;exact .bad
       rename_i hn;subst hr' hr;exact .val _ fun τ hτ=>by simp only[ql,hb,ha,Qd,hty,lenX,ht,hτ.get ho (by simp),if_pos hn]
      rename_i ve vsz vn cells ho;split at hr'
      case isFalse=>subst hr' hr;exact .bad
      rename_i hn;subst hr' hr;exact .val _ fun τ hτ=>by simp only[ql,hb,ha,Qd,hty,lenX,ht,hτ.get ho (by simp),if_pos hn]
     ·rename_i hnot;split at hr'
      case h_2=>subst hr' hr;exact .bad
      rename_i rows hrows;subst hr' hr;refine .val _ fun τ hτ=> ?_;simp only[ql,hb,ha,Qd,hty,lenX,ht];cases x<;>first|exact absurd rfl (hnot _ _ _)|simp only[hrows]
    ·subst hr' hr;exact .bad
   ·rename_i ha;split at hr
    case isFalse=>subst hr;exact .bad
    rename_i hk;subst hr;exact .val _ fun τ hτ=>by simp only[ql,hb,ha,Qd,if_pos hk]
   ·rename_i ha;split at hr
    case isFalse=>subst hr;exact .bad
    rename_i hk;subst hr;exact .val _ fun τ hτ=>by simp only[ql,hb,ha,Qd,if_pos hk]
   ·rename_i p q t t' ha hty;split at hr
    case isFalse=>subst hr;exact .bad
    rename_i hk;by_cases hbad:r=.bad
    ·rw[hbad];exact .bad
    ·have hcall:∀τ,ql T (.call c) e τ=qB T t p q τ:=fun τ=>by simp only[ql,hb,ha,Qd,hty,if_pos hk]
     rcases YF hr hbad with⟨p',rfl,h1⟩|⟨p',ob,rfl,h1,h2⟩|⟨p',g,o,ob,rfl,h1,h2,h3,h4⟩
     ·exact .val _ fun τ hτ=>(hcall τ).trans (h1 τ hτ)
     ·exact .push p' ob h1 fun τ=>(hcall τ).trans (h2 τ)
     ·exact .set _ g o ob h1 h2 h3 fun τ hτ=>(hcall τ).trans (h4 τ hτ)
   ·subst hr;exact .bad
  ·rename_i f hf;split
   case h_2=>exact .bad
   rename_i g first caps hv
   exact .call _ _ fun τ=>by simp only[ql,hf,hv]
  ·exact .bad
 | alloc t =>
  simp only[ql];split
  case h_2=>exact .bad
  rename_i ti ht;exact .new _ _ fun τ=>by simp only[ql,ht]
 | box t x =>
  simp only[ql];split
  case isFalse=>exact .bad
  rename_i hc;exact .new _ _ fun τ=>by simp only[ql,if_pos hc]
 | makeMap t r =>
  cases r with
  |some r=>exact .bad
  | none =>
   simp only[ql];split
   case h_2=>exact .bad
   rename_i ht;split
   case h_2=>exact .bad
   rename_i kk hk;exact .new _ _ fun τ=>by simp only[ql,ht,hk]
 | makeFunc f first caps =>
  cases f with
  |func f=>exact .val _ fun τ _=>rfl
  |_=>exact .bad
 | slice t x lo hi mx =>
  cases mx with
  |some m=>exact .bad
  | none =>
   generalize hr:ql T (.slice t x lo hi none) e σ=r;have hτ:∀τ,ql T (.slice t x lo hi none) e τ=r:=fun τ=>hr▸rfl;cases r with
   |val p=>exact .val p fun τ _=>hτ τ
   |bad=>exact .bad
   |new ob mk=>exact .new ob mk hτ
   |call f args=>exact .call f args hτ
   |eff p s'=>exact absurd hr (by simp only[ql];(repeat' split)<;>simp)
 |move x=>exact .val _ fun τ _=>rfl
 |assign x=>exact .val _ fun τ _=>rfl
 |_=>exact stepK'_pure _ (fun _=>rfl) (fun p s'=>by simp only[ql];(repeat' split)<;>simp)
end
section
variable {P:Program} {T:TypeId→Option TI} {σ σ' τ s H:Store} {F:Nat→Option AObj} {e e':Env}
theorem ECs.mono {f:FuncId}{args:List PV}{K K':PV→Store→Prop}(hK:∀r s,K r s→K' r s)(h:ECs P f args σ K):ECs P f args σ K':=by
 intro μ w vs h1 h2;have fin:∀x w',(∃r σ' μ',Ext σ μ w σ' μ' w'∧SR σ' μ' w'∧R σ' μ' w' x r∧K r σ')→∃r σ' μ',Ext σ μ w σ' μ' w'∧SR σ' μ' w'∧R σ' μ' w' x r∧K' r σ':=by
  rintro x w' ⟨r,s,μ',k1,k2,k3,k4⟩
  exact⟨r,s,μ',k1,k2,k3,hK r s k4⟩
 rcases h μ w vs h1 h2 with⟨a,b⟩|⟨x,w',a,b⟩
 ·exact .inl ⟨a,b.mono fun e w' ⟨x,hx,hp⟩=>⟨x,hx,fin x w' hp⟩⟩
 ·exact .inr ⟨x,w',a,fin x w' b⟩
theorem EC.mono {f:FuncId}{args:List PV}{K K':PV→Store→Prop}(hK:∀r s,K r s→K' r s)(h:EC P f args σ K):EC P f args σ K':=⟨let ⟨r,s,h1,h2⟩:=h.1;⟨r,s,h1,hK _ _ h2⟩,fun F hF=>(h.2 F hF).mono fun r s ⟨s0,h1,h2,h3⟩=>⟨s0,h1,h2,hK r s0 h3⟩⟩
theorem EC.keep {f:FuncId}{args:List PV}{K:PV→Store→Prop}(h:EC P f args σ K):EC P f args σ fun r s=>qr σ s∧K r s:=⟨let ⟨r,s,h1,h2⟩:=h.1;⟨r,s,h1,h1,h2⟩,fun F hF=>(h.2 F hF).mono fun r s ⟨s0,h1,h2,h3⟩=>⟨s0,h1,h2,h2,h3⟩⟩
theorem EC.here {f:FuncId}{args:List PV}{K:PV→Store→Prop}(h:EC P f args σ K):ECs P f args σ K:=by
 have:=h.2 (fun _=>none) Fok.nil;rw[YR]at this;exact this.mono fun r s ⟨s0,h1,h2,h3⟩=>by rw[h1,YR];exact h3
def ov2 (F G:Nat→Option AObj):Nat→Option AObj:=fun i=>match F i with|some ob=>some ob|none=>G i
theorem ov_ov {G:Nat→Option AObj}(hF:Fok σ F):ov (ov σ F) G=ov σ (ov2 F G):=by
 apply List.ext_getElem?;intro i;rw[YS?,YS?,YS?];cases hσ:σ[i]? with
 |none=>rfl
 | some o =>
  simp only[Option.map_some,Option.some.injEq];cases hf:F i with
  |none=>simp only[zU hf];unfold ovc ov2;rw[hf]
  | some ob =>
   obtain⟨h1,h2⟩:=hF i ob hf;rw[hσ]at h1;injection h1 with h1;subst h1;simp only[ovc,ov2,hf];cases ob<;>first|exact absurd rfl h2|rfl
theorem Fok2 {G:Nat→Option AObj}(hF:Fok σ F)(hG:Fok (ov σ F) G):Fok σ (ov2 F G):=fun i ob h=>by
 unfold ov2 at h;split at h
 ·rename_i hf;injection h with h;subst h;exact hF i _ hf
 ·rename_i hf;obtain⟨h1,h2⟩:=hG i ob h;refine⟨?_,h2⟩;rw[YS?]at h1;obtain⟨o,ho,hc⟩:=Option.map_eq_some_iff.1 h1;rw[zU hf]at hc;rw[ho,hc]
theorem Fok.ov2 {G:Nat→Option AObj}(hF:Fok σ F)(hG:Fok (ov σ F) G):∀i ob,G i=some ob→F i=none:=fun i ob hg=>by
 cases hf:F i with
 |none=>rfl
 | some ob' =>
  obtain⟨h1,h2⟩:=hF i ob' hf;have:=(hG i ob hg).1;rw[YS?,h1]at this;simp only[Option.map_some,Option.some.injEq,ovc,hf]at this;exact absurd this h2
theorem zze {s0:Store}(hF:Fok σ F)(h2:qr σ s0):qr (ov σ F) (ov s0 F):=fun i hi=>by
 rw[YS?]at hi ⊢;obtain⟨o,ho,hc⟩:=Option.map_eq_some_iff.1 hi;cases hf:F i with
 | none =>
  rw[zU hf]at hc;rw[hc]at ho;rw[h2 i ho];simp[zU hf]
 | some ob =>
  obtain⟨k1,k2⟩:=hF i ob hf;rw[ho]at k1;injection k1 with k1;subst k1;simp only[ovc,hf,Option.some.injEq]at hc;exact absurd hc k2
theorem EC.frame {f:FuncId}{args:List PV}{K:PV→Store→Prop}(hF:Fok σ F)(h:EC P f args σ K):EC P f args (ov σ F) fun r s=>∃s0,s=ov s0 F∧qr σ s0∧K r s0:=by
 refine⟨let ⟨r,s,h1,h2⟩:=h.1;⟨r,ov s F,zze hF h1,s,rfl,h1,h2⟩,?_⟩;intro G hG;have:=h.2 (ov2 F G) (Fok2 hF hG);rw[ov_ov hF];exact this.mono fun r s ⟨s0,h1,h2,h3⟩=>⟨ov s0 F,by rw[h1,ov_ov (h2.Fok hF)],zze hF h2,s0,rfl,h2,h3⟩
theorem zzm {o:Oper}{K K':Env→Store→Prop}(hK:∀e s,K e s→K' e s)(h:QC P T o e s K):QC P T o e s K':=by
 unfold QC at*;split at h
 ·exact hK _ _ h
 ·exact hK _ _ h
 ·exact hK _ _ h
 ·exact h.mono fun r s hs=>hK _ _ hs
 ·exact h
theorem QH {ops:Array Oper}{K K':Env→Store→Prop}(hK:∀e s,K e s→K' e s):∀(l:List Oper) (e:Env) (s:Store),Qb P T ops l e s K→Qb P T ops l e s K'
 |[],e,s,h=>hK e s h
 | o :: l, e, s, h => by
  simp only[Qb]at h ⊢;obtain⟨e2,hw,h⟩:=h;refine⟨e2,hw,?_⟩;split at h
  ·exact zzm (fun e s=>QH hK l e s) h
  ·exact QH hK l _ _ h
  ·exact h
theorem Yc {o:Oper}{base i:Nat}{K K':Env→Store→Prop}(hK:∀e s,K e s→K' e s)(h:zS P T H base o i e s K):zS P T H base o i e s K':=by
 unfold zS at*;split at h
 ·rename_i hE;rw[if_pos hE];split at h
  ·exact hK _ _ h
  ·exact⟨h.1,hK _ _ h.2⟩
  ·exact h.mono fun r s hs=>⟨hs.1,hK _ _ hs.2⟩
  ·exact h
 ·rename_i hE;rw[if_neg hE];split at h
  ·exact hK _ _ h
  ·exact hK _ _ h
  ·exact h
theorem Qq {ops:Array Oper}{base i:Nat}{o:Oper}{K K':Env→Store→Prop}(hK:∀e s,K e s→K' e s)(h:zb P T ops H base i o e s K):zb P T ops H base i o e s K':=by
 unfold zb at*;split at h
 ·exact Yc hK h
 ·exact hK _ _ h
 ·exact h
theorem ZC {ops:Array Oper}{base:Nat}{K K':Env→Store→Prop}(hK:∀e s,K e s→K' e s):∀(l:List Oper) (i:Nat) (e:Env) (s:Store),JF P T ops H base l i e s K→JF P T ops H base l i e s K'
 |[],i,e,s,h=>hK e s h
 |o::l,i,e,s,h=>Qq (fun e s=>ZC hK l (i+1) e s) h
theorem YM {ops:Array Oper}{K K':Env→Store→Prop}(hK:∀e s,K e s→K' e s):∀(n:Nat) (l:Array Bool) (e:Env) (s:Store),zR P T ops K n l e s→zR P T ops K' n l e s
 |0,l,e,s,h=>⟨h.1,hK _ _ h.2⟩
 |n+1,l,e,s,h=>⟨fun h0=>hK _ _ (h.1 h0),fun i hi=>QH (fun e s=>YM hK n _ e s) _ _ _ (h.2 i hi)⟩
theorem qqY {ops:Array Oper}{k:Nat}{e:Env}{s:Store}{K K':Env→Store→Prop}(hK:∀e s,K e s→K' e s)(h:Js P T ops k e s K):Js P T ops k e s K':=
 h.imp (fun h=>⟨h.1,QH hK _ _ _ h.2⟩) (YM hK _ _ _ _)
theorem evDraw_mono {ops:Array Oper}{K K':Env→Store→Prop}(hK:∀e s,K e s→K' e s)(h:JW P T ops e s K):JW P T ops e s K':=by
 obtain⟨h1,k,h2,h2',H,h3,h4⟩:=h;exact⟨h1,k,h2,h2',H,h3,ZC (fun e s=>qqY hK) _ _ _ _ h4⟩
theorem Qj:∀(c:Code) {K K':X→Env→Store→Prop} (hK:∀x e s,K x e s→K' x e s) (e:Env) (s:Store),ev P T c e s K→ev P T c e s K':=by
 intro c;induction c with
 |skip=>intro K K' hK e s h;exact hK _ _ _ h
 |label l=>intro K K' hK e s h;exact hK _ _ _ h
 |exit id=>intro K K' hK e s h;exact hK _ _ _ h
 |ret=>intro K K' hK e s h;exact hK _ _ _ h
 | region id ops draw =>
  intro K K' hK e s h;cases draw with
  |false=>exact QH (hK .nrm) _ _ _ h
  |true=>exact evDraw_mono (hK .nrm) h
 | seq a b iha ihb =>
  intro K K' hK e s h;simp only[ev]at h ⊢;refine iha (fun x e s hx=> ?_) e s h;cases x with
  |nrm=>obtain⟨e2,s2,hw,hx⟩:=hx;exact⟨e2,s2,hw,ihb hK e2 s2 hx⟩
  |ext i=>exact hK _ _ _ hx
  |ret=>exact hK _ _ _ hx
 | cond c a b iha ihb =>
  intro K K' hK e s h;simp only[ev]at h ⊢;split at h
  ·split at h
   ·rename_i ht;rw[if_pos ht];exact iha hK e s h
   ·rename_i ht;rw[if_neg ht];exact ihb hK e s h
  ·exact⟨iha hK e s h.1,ihb hK e s h.2⟩
  ·exact h
 | block id c ih =>
  intro K K' hK e s h;simp only[ev]at h ⊢;refine ih (fun x e s hx=> ?_) e s h;cases x with
  |nrm=>exact hK _ _ _ hx
  | ext i =>
   simp only at hx ⊢;split
   ·rename_i hi;rw[if_pos hi]at hx;exact hK _ _ _ hx
   ·rename_i hi;rw[if_neg hi]at hx;exact hK _ _ _ hx
  |ret=>exact hK _ _ _ hx
 | loop c ih =>
  intro K K' hK e s h;intro I hI;refine h I fun e s ⟨e2,s2,hw,hr⟩=>hI e s ⟨e2,s2,hw,ih (fun x e s hx=> ?_) e2 s2 hr⟩;cases x with
  |nrm=>exact hx
  |ext i=>exact hK _ _ _ hx
  |ret=>exact hK _ _ _ hx
 |scope c ih=>intro K K' hK e s h;exact ih hK e s h
 |_=>intro K K' hK e s h;exact h
def over (σ:Store)(F:Nat→Option AObj)(K:Env→Store→Prop)(e:Env)(s:Store):Prop:=∃s0,s=ov s0 F∧qr σ s0∧K e s0
theorem stepK_frame {o:Oper}{K:Env→Store→Prop}(hF:Fok σ F)(h:QC P T o e σ K):QC P T o e (ov σ F) (over σ F K):=by
 unfold QC at h;have hk:=qqu (T:=T) o.op e σ;generalize hr:ql T o.op e σ=r at h hk;cases hk with
 | val p h1 =>
  unfold QC;rw[h1 _ JK];exact⟨σ,rfl,qr.refl _,h⟩
 | new ob mk h1 =>
  unfold QC;rw[h1];simp only[QU];exact⟨σ++[some ob],(Yl hF _).symm,qr.push _,h⟩
 | push p ob hne h1 =>
  unfold QC;rw[h1];simp only[QU];exact⟨σ++[some ob],(Yl hF _).symm,qr.push _,h⟩
 | set p g o' ob hne hne' hg h1 =>
  have hfn:F g=none:=hF.non (by rw[hg];intro hh;injection hh with hh;injection hh with hh;exact hne' hh);unfold QC;rw[h1 _ (YS hg hne')];exact⟨σ.set g (some ob),(Jr hfn _).symm,qr.set _ hg (by intro hh;injection hh with hh;exact hne' hh),h⟩
 | call f args h1 =>
  unfold QC;rw[h1];exact(EC.frame hF h).mono fun r s ⟨s0,k1,k2,k3⟩=>⟨s0,k1,k2,k3⟩
 |bad=>exact h.elim
theorem qqh {K:Env→Store→Prop}(hk:qr σ τ){e:Env}{s:Store}(h:over τ F K e s):over σ F K e s:=by
 obtain⟨s0,h1,h2,h3⟩:=h;exact⟨s0,h1,hk.trans h2,h3⟩
theorem ZU {ops:Array Oper}{K:Env→Store→Prop}:∀(l:List Oper) (e:Env) (σ:Store),Fok σ F→Qb P T ops l e σ K→Qb P T ops l e (ov σ F) (over σ F K)
 |[],e,σ,hF,h=>⟨σ,rfl,qr.refl _,h⟩
 | o :: l, e, σ, hF, h => by
  simp only[Qb]at h ⊢;obtain⟨e2,hw,h⟩:=h;refine⟨e2,hw,?_⟩;split at h
  ·refine zzm (fun e s hs=> ?_) (stepK_frame hF h);obtain⟨s0,rfl,h2,h3⟩:=hs;exact QH (fun e s=>qqh h2) l e _ (ZU l e s0 (h2.Fok hF) h3)
  ·exact ZU l _ σ hF h
  ·exact h
end
section
variable {P:Program} {T:TypeId→Option TI} {σ σ' τ s H:Store} {F:Nat→Option AObj} {e e':Env}
theorem val_upd {d:Option Tmp}{p:PV}{x:Operand}(h:∀t,d=some t→x≠ .tmp t):val (upd e d p) x=val e x:=by
 cases d with
 |none=>rfl
 | some t =>
  cases x with
  | tmp u =>
   have:u≠t:=fun he=>h t rfl (by rw[he]);simp only[val,Jw,if_neg this]
  |_=>rfl
theorem Qx {d d':Option Tmp}{p q:PV}(h:∀t,d=some t→d'≠some t):upd (upd e d p) d' q=upd (upd e d' q) d p:=by
 cases d with
 |none=>rfl
 | some t =>
  cases d' with
  |none=>rfl
  | some u =>
   have hne:u≠t:=fun he=>h t rfl (by rw[he])
   funext x
   simp only[Jw];by_cases h1:x=u
   ·subst h1;rw[if_pos rfl,if_neg hne,if_pos rfl]
   ·rw[if_neg h1];by_cases h2:x=t
    ·rw[if_pos h2,if_pos h2]
    ·rw[if_neg h2,if_neg h2,if_neg h1]
theorem stepA_congr {o:Op}(h:∀x∈o.operands.toList,val e' x=val e x):ql T o e' σ=ql T o e σ:=by
 have pairs:∀(ps:Array (Nat×Operand)),(∀x∈((ps.toList.map (·.2)).toArray).toList,val e' x=val e x)→(ps.toList.map fun q=>(q.1,val e' q.2))=(ps.toList.map fun q=>(q.1,val e q.2)):=fun ps hp=>
  List.map_congr_left fun q hq=>by rw[hp q.2 (by simp;exact⟨q.1,by simpa using hq⟩)]
 cases o with
 | build t ps =>
  have:=pairs ps h;simp only[ql,this]
 | buildSlice t n ps =>
  have:=pairs ps h;simp only[ql,this]
 | makeFunc f first caps =>
  cases f with
  | func f =>
   have h1:first.toList.map (val e')=first.toList.map (val e):=List.map_congr_left fun x hx=>h x (by simp[Op.operands];exact .inl (by simpa using hx))
   have h2:caps.toList.map (val e')=caps.toList.map (val e):=List.map_congr_left fun x hx=>h x (by simp[Op.operands];exact .inr (by simpa using hx));simp only[ql,h1,h2]
  |_=>rfl
 | call c =>
  have h1:c.args.toList.map (val e')=c.args.toList.map (val e):=List.map_congr_left fun x hx=>h x (by simp[Op.operands,Call.operands];exact .inr (by simpa using hx));simp only[ql];cases hc:c.callee with
  |builtin b=>simp only[h1]
  | value f =>
   have h2:val e' f=val e f:=h f (by simp[Op.operands,Call.operands,hc]);simp only[h1,h2]
  |invoke r m=>rfl
 | slice t x lo hi mx =>
  cases mx with
  |some m=>rfl
  | none =>
   have hx:val e' x=val e x:=h x (by simp[Op.operands]);cases lo with
   | none => cases hi with
    |none=>simp only[ql,hx]
    | some b =>
     have hb:=h b (by simp[Op.operands]);simp only[ql,hx,hb]
   | some a =>
    have ha:=h a (by simp[Op.operands]);cases hi with
    |none=>simp only[ql,hx,ha]
    | some b =>
     have hb:=h b (by simp[Op.operands]);simp only[ql,hx,ha,hb]
 | pick c a b =>
  have h1:=h c (by simp[Op.operands]);have h2:=h a (by simp[Op.operands]);have h3:=h b (by simp[Op.operands]);simp only[ql,h1,h2,h3]
 |makeMap t r=>cases r<;>rfl
 | mapUpdate t m k v =>
  have h1:=h m (by simp[Op.operands]);have h2:=h k (by simp[Op.operands]);have h3:=h v (by simp[Op.operands]);simp only[ql,h1,h2,h3]
 | store t x y =>
  have h1:=h x (by simp[Op.operands]);have h2:=h y (by simp[Op.operands]);simp only[ql,h1,h2]
 | binOp b t x y u =>
  have h1:=h x (by simp[Op.operands]);have h2:=h y (by simp[Op.operands]);simp only[ql,h1,h2]
 | indexAddr t x y =>
  have h1:=h x (by simp[Op.operands]);have h2:=h y (by simp[Op.operands]);simp only[ql,h1,h2]
 | index t x y =>
  have h1:=h x (by simp[Op.operands]);have h2:=h y (by simp[Op.operands]);simp only[ql,h1,h2]
 | lookup t x y ok =>
  have h1:=h x (by simp[Op.operands]);have h2:=h y (by simp[Op.operands]);simp only[ql,h1,h2]
 |move x=>have h1:=h x (by simp[Op.operands]);simp only[ql,h1]
 |assign x=>have h1:=h x (by simp[Op.operands]);simp only[ql,h1]
 |box t x=>have h1:=h x (by simp[Op.operands]);simp only[ql,h1]
 |load t x=>have h1:=h x (by simp[Op.operands]);simp only[ql,h1]
 |nilCheck x=>have h1:=h x (by simp[Op.operands]);simp only[ql,h1]
 |unOp b t x=>have h1:=h x (by simp[Op.operands]);simp only[ql,h1]
 |convert s d x=>have h1:=h x (by simp[Op.operands]);simp only[ql,h1]
 |fieldAddr t x f=>have h1:=h x (by simp[Op.operands]);simp only[ql,h1]
 |field t x f=>have h1:=h x (by simp[Op.operands]);simp only[ql,h1]
 |extract x i=>have h1:=h x (by simp[Op.operands]);simp only[ql,h1]
 |_=>rfl
theorem looks_op {ops:Array Oper}{o:Oper}{t:Tmp}(h:t∉o.looksAt ops):∀x∈o.op.operands.toList,x≠ .tmp t:=fun x hx he=>h (by
 unfold Oper.looksAt;refine List.mem_append_left _ (List.mem_filterMap.2 ⟨x,hx,?_⟩);rw[he])
theorem YG {ops:Array Oper}{o:Oper}{d:Option Tmp}{p:PV}(h:∀t,d=some t→t∉o.looksAt ops):ql T o.op (upd e d p) σ=ql T o.op e σ:=
 stepA_congr fun x hx=>val_upd fun t ht=>looks_op (h t ht) x hx
theorem qqV {ops:Array Oper}{o:Oper}{d:Option Tmp}{p:PV}(h:∀t,d=some t→t∉o.looksAt ops):zk ops o (upd e d p)=zk ops o e:=by
 unfold zk;cases hg:o.guard with
 |none=>rfl
 | some g =>
  obtain⟨j,want⟩:=g;simp only;cases ht:(ops[j]?).bind (·.dst)with
  |none=>rfl
  | some t =>
   cases d with
   |none=>rfl
   | some u =>
    have hne:t≠u:=fun he=>h u rfl (by
     unfold Oper.looksAt;refine List.mem_append_right _ ?_;rw[hg];simp only[ht,he];simp)
    simp only[Jw,if_neg hne]
theorem JO {o:Op}{ob:AObj}{mk:Nat→PV}(h:ql T o e σ=.new ob mk):zy o=true∧zq o=false∧ob≠ .res:=by
 have hk:∀{t:TypeId} {p q:PV} {r:AR},qB T t p q σ=r→r≠ .new ob mk:=fun hr he=>by
  rcases YF hr (by rw[he];simp)with⟨_,h1,_⟩|⟨_,_,h1,_⟩|⟨_,_,_,_,h1,_⟩<;>(rw[h1]at he;cases he)
 cases o with
 |alloc t=>simp only[ql]at h;split at h<;>cases h;exact⟨rfl,rfl,by simp⟩
 |box t x=>simp only[ql]at h;split at h<;>cases h;exact⟨rfl,rfl,by simp⟩
 | makeMap t r =>
  cases r with
  |some r=>cases h
  | none =>
   simp only[ql]at h;split at h
   ·split at h<;>cases h;exact⟨rfl,rfl,by simp⟩
   ·cases h
 | call c =>
  exfalso;simp only[ql]at h;split at h
  ·generalize hq:Qd T _ c.argTypes (c.args.toList.map (val e)) σ=r at h;unfold Qd lenX at hq
   repeat' split at hq
   all_goals first|(subst hq;cases h;done)|(subst h;exact hk hq rfl)
  ·split at h<;>cases h
  ·cases h
 |makeFunc f a b=>cases f<;>cases h
 | slice t x lo hi mx => cases mx with
  |some m=>cases h
  |none=>exfalso;revert h;simp only[ql];(repeat' split)<;>simp
 |_=>exfalso;revert h;simp only[ql];(repeat' split)<;>simp
inductive Kd3 (P:Program)(T:TypeId→Option TI)(ops:Array Oper)(H:Store)(base i:Nat)(o:Oper)(e:Env):Prop
 |u (p:PV):(∀s K,zb P T ops H base i o e s K=K (upd e o.dst p) s)→Kd3 P T ops H base i o e
 |n (ob:AObj) (mk:Nat→PV):zy o.op=true→ob≠ .res→(∀s K,zb P T ops H base i o e s K=K (upd e o.dst (mk (base+qM ops i))) (s.set (base+qM ops i) (some ob)))→Kd3 P T ops H base i o e
 |f:zq o.op=true→zk ops o e=some true→Kd3 P T ops H base i o e
 |no:(∀s K,¬zb P T ops H base i o e s K)→Kd3 P T ops H base i o e
theorem kd3 (ops:Array Oper)(base i:Nat)(o:Oper)(e:Env):Kd3 P T ops H base i o e:=by
 cases hw:zk ops o e with
 |none=>exact .no fun s K h=>by simp only[zb,hw]at h
 | some b =>
  cases b with
  |false=>exact .u (.tu []) fun s K=>by simp only[zb,hw]
  | true =>
   cases hE:zq o.op with
   |true=>exact .f hE hw
   | false =>
    cases hr:ql T o.op e H with
    |val p=>exact .u p fun s K=>by simp only[zb,hw,zS,hE,hr,Bool.false_eq_true,if_false]
    |new ob mk=>exact .n ob mk (JO hr).1 (JO hr).2.2 fun s K=>by simp only[zb,hw,zS,hE,hr,Bool.false_eq_true,if_false]
    |eff p s'=>exact .no fun s K h=>by simp only[zb,hw,zS,hE,hr,Bool.false_eq_true,if_false]at h
    |call f args=>exact .no fun s K h=>by simp only[zb,hw,zS,hE,hr,Bool.false_eq_true,if_false]at h
    |bad=>exact .no fun s K h=>by simp only[zb,hw,zS,hE,hr,Bool.false_eq_true,if_false]at h
theorem qqW {o:Oper}{base i:Nat}{K:Env→Store→Prop}(hE:zq o.op=true)(hF:Fok σ F)(h:zS P T H base o i e σ K):zS P T H base o i e (ov σ F) (over σ F K):=by
 unfold zS at*;rw[if_pos hE]at h ⊢;have hk:=qqu (T:=T) o.op e σ;generalize hr:ql T o.op e σ=r at h hk;cases hk with
 | val p h1 =>
  rw[h1 _ JK];exact⟨σ,rfl,qr.refl _,h⟩
 |new ob mk h1=>exact h.elim
 | push p ob hne h1 =>
  rw[h1];simp only[QU];refine⟨?_,σ++[some ob],(Yl hF _).symm,qr.push _,h.2⟩;rw[←Yl hF];exact fun i o hl=>JK i o (h.1 i o hl)
 | set p g o' ob hne hne' hg h1 =>
  have hfn:F g=none:=hF.non (by rw[hg];intro hh;injection hh with hh;injection hh with hh;exact hne' hh);rw[h1 _ (YS hg hne')];refine⟨?_,σ.set g (some ob),(Jr hfn _).symm,qr.set _ hg (by intro hh;injection hh with hh;exact hne' hh),h.2⟩;rw[←Jr hfn];exact fun i o hl=>JK i o (h.1 i o hl)
 | call f args h1 =>
  rw[h1];refine(EC.frame hF h).mono fun r s ⟨s0,k1,k2,k3,k4⟩=>⟨?_,s0,k1,k2,k4⟩;rw[k1];exact fun i o hl=>JK i o (k3 i o hl)
 |bad=>exact h.elim
theorem zzn {o:Oper}{base i:Nat}{K:Env→Store→Prop}(hE:zq o.op=true)(hH:sub H σ)(h:zS P T H base o i e σ K):zS P T H base o i e σ (fun e' s'=>sub H s'∧qr σ s'∧K e' s'):=by
 unfold zS at*;rw[if_pos hE]at h ⊢;have hk:=qqu (T:=T) o.op e σ;generalize hr:ql T o.op e σ=r at h hk;cases hk with
 |val p h1=>exact⟨hH,qr.refl _,h⟩
 |new ob mk h1=>exact h.elim
 |push p ob hne h1=>exact⟨h.1,h.1,qr.push _,h.2⟩
 |set p g o' ob hne hne' hg h1=>exact⟨h.1,h.1,qr.set _ hg (by intro hh;injection hh with hh;exact hne' hh),h.2⟩
 |call f args h1=>exact(EC.keep h).mono fun r s hs=>⟨hs.2.1,hs.2.1,hs.1,hs.2.2⟩
 |bad=>exact h.elim
def one1 (i:Nat)(ob:AObj):Nat→Option AObj:=fun j=>if j=i then some ob else none
theorem one1_ov {i:Nat}{ob:AObj}(h:s[i]? =some (some .res)):ov s (one1 i ob)=s.set i (some ob):=by
 apply List.ext_getElem?;intro j;rw[YS?,List.getElem?_set];by_cases hj:i=j
 ·subst hj;rw[if_pos rfl,if_pos (List.getElem?_eq_some_iff.1 h).1,h];simp[ovc,one1]
 ·rw[if_neg hj];cases hs:s[j]? with
  |none=>rfl
  |some o=>simp[zU (show one1 i ob j=none from if_neg (fun e=>hj e.symm))]
theorem one1_Fok {i:Nat}{ob:AObj}(h:s[i]? =some (some .res))(hne:ob≠ .res):Fok s (one1 i ob):=fun j o hj=>by
 unfold one1 at hj;split at hj
 ·rename_i hij;injection hj with hj;subst hij hj;exact⟨h,hne⟩
 ·cases hj
theorem evD1_form {ops:Array Oper}{base i:Nat}{o:Oper}{K:Env→Store→Prop}(h:zb P T ops H base i o e s K):zb P T ops H base i o e s fun e' s'=>(∃q,e'=upd e o.dst q)∧K e' s':=by
 unfold zb zS at*;split at h
 ·split at h
  ·rename_i hE;rw[if_pos hE];split at h
   ·exact⟨⟨_,rfl⟩,h⟩
   ·exact⟨h.1,⟨_,rfl⟩,h.2⟩
   ·exact h.mono fun r s hs=>⟨hs.1,⟨_,rfl⟩,hs.2⟩
   ·exact h
  ·rename_i hE;rw[if_neg hE];split at h
   ·exact⟨⟨_,rfl⟩,h⟩
   ·exact⟨⟨_,rfl⟩,h⟩
   ·exact h
 ·exact⟨⟨_,rfl⟩,h⟩
 ·exact h
theorem qqn {ops:Array Oper}{base i:Nat}{o:Oper}:¬zb P T ops H base i o e s (fun _ _=>False):=fun h=>by
 unfold zb zS at h;split at h
 ·split at h
  ·split at h
   ·exact h
   ·exact h.2
   ·obtain⟨⟨_,_,_,h1⟩,_⟩:=h;exact h1.2
   ·exact h
  ·split at h<;>exact h
 ·exact h
 ·exact h
theorem evD1_E {ops:Array Oper}{base i:Nat}{o:Oper}{K:Env→Store→Prop}(hw:zk ops o e=some true):zb P T ops H base i o e s K=zS P T H base o (qM ops i) e s K:=by
 unfold zb;rw[hw]
theorem evD1_comm {ops:Array Oper}{base i j:Nat}{oi oj:Oper}{K:Env→Store→Prop}(hap:oi.apart ops oj=true)(hEE:¬(zq oi.op=true∧zq oj.op=true))(hNE:¬(zy oi.op=true∧zq oj.op=true))(hH:sub H s)
  (hres:zy oj.op=true→s[base+qM ops j]? =some (some .res)) (hdist:zy oi.op=true→zy oj.op=true→qM ops i≠qM ops j)
  (h:zb P T ops H base i oi e s fun e s=>zb P T ops H base j oj e s K):zb P T ops H base j oj e s fun e s=>zb P T ops H base i oi e s K:=by
 obtain⟨a1,a2,a3⟩:=Oper.apart_spec hap;have a2':∀d,oj.dst=some d→oi.dst≠some d:=fun d h1 h2=>a2 d h2 h1
 -- the same at another frame
 have iform:∀q s' K',zb P T ops H base i oi (upd e oj.dst q) s' K'=zb P T ops H base i oi e s' (fun e' s''=>K' (upd e' oj.dst q) s''):=by
  intro q s' K';unfold zb;rw[qqV a3];cases zk ops oi e with
  |none=>rfl
  | some b =>
   cases b with
   |false=>simp only[Qx a2]
   | true =>
    unfold zS;cases hE:zq oi.op with
    | true =>
     simp only[if_true,YG a3];cases ql T oi.op e s'<;>simp only[Qx a2]
    | false =>
     simp only[Bool.false_eq_true,if_false,YG a3];cases ql T oi.op e H<;>simp only[Qx a2]
 have jform:∀q s' K',zb P T ops H base j oj (upd e oi.dst q) s' K'=zb P T ops H base j oj e s' (fun e' s''=>K' (upd e' oi.dst q) s''):=by
  intro q s' K';unfold zb;rw[qqV a1];cases zk ops oj e with
  |none=>rfl
  | some b =>
   cases b with
   |false=>simp only[Qx a2']
   | true =>
    unfold zS;cases hE:zq oj.op with
    | true =>
     simp only[if_true,YG a1];cases ql T oj.op e s'<;>simp only[Qx a2']
    | false =>
     simp only[Bool.false_eq_true,if_false,YG a1];cases ql T oj.op e H<;>simp only[Qx a2']
 have h':=evD1_form h;rcases kd3 (P:=P) (T:=T) (H:=H) ops base i oi e with⟨p,hi⟩|⟨ob,mk,hin,hob,hi⟩|⟨hiE,hiw⟩|hi
 ·rw[hi,jform]at h;refine Qq (fun e' s' hk=> ?_) (evD1_form h);obtain⟨⟨q,rfl⟩,hk⟩:=hk;rw[iform,hi,Qx a2];exact hk
 ·rw[hi,jform]at h;rcases kd3 (P:=P) (T:=T) (H:=H) ops base j oj e with⟨q,hj⟩|⟨ob2,mk2,hjn,hob2,hj⟩|⟨hjE,hjw⟩|hj
  ·rw[hj]at h ⊢;rw[iform,hi,Qx a2];exact h
  ·rw[hj]at h ⊢;rw[iform,hi,Qx a2,List.set_comm _ _ (by have:=hdist hin hjn;omega)];exact h
  ·exact absurd ⟨hin,hjE⟩ hNE
  ·exact absurd h (hj _ _)
 ·rcases kd3 (P:=P) (T:=T) (H:=H) ops base j oj e with⟨q,hj⟩|⟨ob2,mk2,hjn,hob2,hj⟩|⟨hjE,hjw⟩|hj
  ·rw[hj,iform];refine Qq (fun e' s' hk=> ?_) h';obtain⟨⟨r,rfl⟩,hk⟩:=hk;rw[jform,hj]at hk;rw[Qx a2];exact hk
  ·rw[hj,iform];have hslot:=hres hjn;have hF:=one1_Fok hslot hob2;rw[evD1_E hiw]at h' ⊢;have h2:=qqW hiE hF (zzn hiE hH h');rw[one1_ov hslot]at h2;refine Yc (fun e' s' hk=> ?_) h2;obtain⟨s0,rfl,k1,k2,k3,⟨r,rfl⟩,hk⟩:=hk;rw[jform,hj]at hk;rw[Qx a2,one1_ov (k1 _ hslot)];exact hk
  ·exact absurd ⟨hiE,hjE⟩ hEE
  ·exfalso;have:zb P T ops H base i oi e s fun _ _=>False:=Qq (fun e' s' hk=>by
    obtain⟨⟨r,rfl⟩,hk⟩:=hk;rw[jform]at hk;exact hj _ _ hk) h'
   exact qqn this
 ·exact absurd h (hi _ _)
end
section
variable {P:Program} {T:TypeId→Option TI} {ops:Array Oper} {H:Store} {base:Nat}
noncomputable def evOp (P:Program)(T:TypeId→Option TI)(ops:Array Oper)(H:Store)(base i:Nat)(e:Env)(s:Store)(K:Env→Store→Prop):Prop:=match ops[i]? with
 |none=>K e s
 |some o=>zb P T ops H base i o e s K
noncomputable def YL (P:Program)(T:TypeId→Option TI)(ops:Array Oper)(H:Store)(base:Nat)(K:Env→Store→Prop):Nat→Array Bool→Env→Store→Prop
 |0,listed,e,s=>Region.ready .any ops listed=[]∧K e s
 |fuel+1,listed,e,s=>(Region.ready .any ops listed=[]→K e s)∧∀i∈Region.ready .any ops listed,evOp P T ops H base i e s (YL P T ops H base K fuel (listed.setIfInBounds i true))
theorem newIdx_succ {j:Nat}{o:Oper}(h:ops[j]? =some o)(hn:zy o.op=true):qM ops (j+1)=qM ops j+1:=by
 have hl:ops.toList[j]? =some o:=by simpa using h
 unfold qM;rw[List.take_add_one,hl];simp[List.filter_append,List.filter_cons,hn]
theorem newIdx_mono {j k:Nat}(hk:j≤k):qM ops j≤qM ops k:=by
 unfold qM;exact((List.take_sublist_take_left hk).filter _).length_le
theorem qqz {j k:Nat}{o:Oper}(h:ops[j]? =some o)(hn:zy o.op=true)(hk:j<k):qM ops j<qM ops k:=by
 have h1:=newIdx_mono (ops:=ops) (show j+1≤k from hk);rw[newIdx_succ h hn]at h1;omega
theorem zzq {j k:Nat}{o o':Oper}(h:ops[j]? =some o)(hn:zy o.op=true)(h':ops[k]? =some o')(hn':zy o'.op=true)(hne:j≠k):qM ops j≠qM ops k:=by
 rcases Nat.lt_or_gt_of_ne hne with hl|hl
 ·have:=qqz h hn hl;omega
 ·have:=qqz h' hn' hl;omega
theorem newIdx_all {j:Nat}{o:Oper}(h:ops[j]? =some o)(hn:zy o.op=true):qM ops j<QB ops:=by
 have hlt:=(Array.getElem?_eq_some_iff.1 h).1;have:=qqz h hn (k:=ops.toList.length) (by simpa using hlt);unfold qM at this;rw[List.take_length]at this;exact this
structure Inv (ops:Array Oper)(H:Store)(base:Nat)(listed:Array Bool)(s:Store):Prop where
 sub:sub H s
 res:∀j o,ops[j]? =some o→zy o.op=true→listed.getD j true=false→s[base+qM ops j]? =some (some .res)
 closed:∀j o,ops[j]? =some o→listed.getD j false=true→∀e∈o.after,Region.binds .any e=true→listed.getD e.on false=true
theorem Jm {listed:Array Bool}(hc:∀j o,ops[j]? =some o→listed.getD j false=true→∀e∈o.after,Region.binds .any e=true→listed.getD e.on false=true):
  ∀(n j k:Nat) (o:Oper),ops[j]? =some o→(∀e∈o.after,Region.binds .any e=true→listed.getD e.on false=true)→Zp ops n j k=true→listed.getD k false=true
 |0,j,k,o,_,_,h=>by simp[Zp]at h
 | n + 1, j, k, o, hj, ha, h => by
  simp only[Zp,hj,List.any_eq_true,Bool.and_eq_true,Bool.or_eq_true,beq_iff_eq]at h;obtain⟨e,he,hb,hk⟩:=h;have h1:=ha e (by simpa using he) hb;rcases hk with hk|hk
  ·rw[←hk];exact h1
  ·cases ho:ops[e.on]? with
   |none=>cases n<;>simp[Zp,ho]at hk
   |some o'=>exact Jm hc n e.on k o' ho (hc _ _ ho h1) hk
theorem qqJ {listed:Array Bool}{i k:Nat}(h:(listed.setIfInBounds i true).getD k true=false):listed.getD k true=false∧k≠i:=by
 by_cases hik:i=k
 ·subst hik;exfalso;rw[Array.getD_eq_getD_getElem?]at h;by_cases hlt:i<listed.size
  ·rw[Array.getElem?_setIfInBounds_self_of_lt hlt]at h;simp at h
  ·rw[Array.getElem?_eq_none (by simpa using Nat.le_of_not_lt hlt)]at h;simp at h
 ·rw[getD_set_ne true hik]at h;exact⟨h,fun e=>hik e.symm⟩
theorem Inv.step {listed:Array Bool}{s s':Store}{j:Nat}{o:Oper}(h:Inv ops H base listed s)(hj:ops[j]? =some o)(ha:∀e∈o.after,Region.binds .any e=true→listed.getD e.on false=true)(hs:E.sub H s')
  (hr:∀k ok,ops[k]? =some ok→zy ok.op=true→k≠j→s[base+qM ops k]? =some (some .res)→s'[base+qM ops k]? =some (some .res)):Inv ops H base (listed.setIfInBounds j true) s':=by
 refine⟨hs,fun k ok hk hn hu=> ?_,fun k ok hk hl e he hb=> ?_⟩
 ·obtain⟨h1,h2⟩:=qqJ hu;exact hr k ok hk hn h2 (h.res k ok hk hn h1)
 ·by_cases hjk:j=k
  ·subst hjk;rw[hj]at hk;injection hk with hk;subst hk;exact getD_set_true (ha e he hb)
  ·rw[getD_set_ne false hjk]at hl;exact getD_set_true (h.closed k ok hk hl e he hb)
theorem zzj {listed:Array Bool}{s:Store}{e:Env}{j:Nat}{o:Oper}{K:Env→Store→Prop}(h:Inv ops H base listed s)(hr:j∈Region.ready .any ops listed)(hj:ops[j]? =some o)(hev:zb P T ops H base j o e s K):
  zb P T ops H base j o e s fun e' s'=>Inv ops H base (listed.setIfInBounds j true) s'∧K e' s':=by
 obtain⟨hu,o',ho',ha⟩:=mem_ready.1 hr;rw[hj]at ho';injection ho' with ho';subst ho';rcases kd3 (P:=P) (T:=T) (H:=H) ops base j o e with⟨p,hi⟩|⟨ob,mk,hin,hob,hi⟩|⟨hiE,hiw⟩|hi
 ·rw[hi]at hev ⊢;exact⟨h.step hj ha h.sub fun k ok _ _ _ hk=>hk,hev⟩
 ·rw[hi]at hev ⊢;refine⟨h.step hj ha (fun i oi hl=> ?_) fun k ok hk hn hne hk'=> ?_,hev⟩
  ·have hs:=h.sub i oi hl;refine⟨(List.getElem?_set_ne (fun he=> ?_)).trans hs.1,hs.2⟩;have he:=he.symm;have:=h.res j o hj hin hu;rw[←he,hs.1]at this;injection this with this;injection this with this;exact hs.2 this
  ·rw[List.getElem?_set_ne (by have:=zzq hk hn hj hin hne;omega)];exact hk'
 ·rw[evD1_E hiw]at hev ⊢;exact Yc (fun e' s' ⟨h1,h2,h3⟩=>⟨h.step hj ha h1 fun k ok _ _ _ hk=>h2 _ hk,h3⟩) (zzn hiE h.sub hev)
 ·exact absurd hev (hi _ _)
theorem any_first {K:Env→Store→Prop}{i:Nat}{oi:Oper}(hi:ops[i]? =some oi):∀(fuel:Nat) (listed:Array Bool) (e:Env) (s:Store),Inv ops H base listed s→
  (∀j oj,ops[j]? =some oj→j≠i→listed.getD j true=false→(∀e∈oj.after,Region.binds .any e=true→e.on≠i)→oi.apart ops oj=true)→
  (∀j oj,ops[j]? =some oj→j≠i→listed.getD j true=false→(zq oi.op||zy oi.op)=true→zq oj.op=true→Zp ops ops.size j i=true)→
  i∈Region.ready .any ops listed→zb P T ops H base i oi e s (YL P T ops H base K fuel (listed.setIfInBounds i true))→YL P T ops H base K (fuel+1) listed e s:=by
 intro fuel;induction fuel with
 | zero =>
  intro listed e s _ _ _ hr h;refine⟨fun h0=>(by rw[h0]at hr;cases hr),fun j hj=> ?_⟩;by_cases hji:j=i
  ·subst hji;unfold evOp;rw[hi];exact h
  ·have:=ready_mono hj hji;exact absurd (Qq (K':=fun _ _=>False) (fun e' s' hk=>by rw[hk.1]at this;cases this) h) qqn
 | succ fuel ih =>
  intro listed e s hinv hfree hE hr h;refine⟨fun h0=>(by rw[h0]at hr;cases hr),fun j hj=> ?_⟩;by_cases hji:j=i
  ·subst hji;unfold evOp;rw[hi];exact h
  ·obtain⟨hjun,oj,hoj,hall⟩:=mem_ready.1 hj;have hiun:=(mem_ready.1 hr).1;have hnl:listed.getD i false≠true:=fun h1=>by
    rcases Nat.lt_or_ge i listed.size with h'|h'
    ·simp[h']at h1 hiun;rw[hiun]at h1;cases h1
    ·simp[Array.getElem?_eq_none h']at h1
   have hnot:∀e∈oj.after,Region.binds .any e=true→e.on≠i:=fun e he hb heq=>hnl (heq▸hall e he hb);have hap:=hfree j oj hoj hji hjun hnot;have hw:¬Zp ops ops.size j i=true:=fun hw=>hnl (Jm hinv.closed _ j i oj hoj hall hw);have h1:zb P T ops H base i oi e s fun e' s'=>zb P T ops H base j oj e' s' (YL P T ops H base K fuel ((listed.setIfInBounds i true).setIfInBounds j true)):=
    Qq (fun e' s' hk=>by
     have:=hk.2 j (ready_mono hj hji);unfold evOp at this;rw[hoj]at this;exact this) h
   have h2:=evD1_comm hap (fun hh=>hw (hE j oj hoj hji hjun (by simp[hh.1]) hh.2)) (fun hh=>hw (hE j oj hoj hji hjun (by simp[hh.1]) hh.2)) hinv.sub (fun hn=>hinv.res j oj hoj hn hjun)
    (fun hn hn'=>zzq hi hn hoj hn' (fun e=>hji e.symm)) h1
   unfold evOp;rw[hoj];refine Qq (fun e' s' hk=> ?_) (zzj hinv hj hoj h2);refine ih _ e' s' hk.1 (fun k ok hk hki hun hno=> ?_) (fun k ok hk hki hun=> ?_) (ready_mono hr (Ne.symm hji)) ?_
   ·exact hfree k ok hk hki (qqJ hun).1 hno
   ·exact hE k ok hk hki (qqJ hun).1
   ·rw[Array.setIfInBounds_comm _ _ hji];exact hk.2
theorem any_lex {K:Env→Store→Prop}(hE:∀j k oj ok,ops[j]? =some oj→ops[k]? =some ok→k<j→(zq ok.op||zy ok.op)=true→zq oj.op=true→Zp ops ops.size j k=true):
  ∀(l:List Oper) (k:Nat) (listed:Array Bool) (e:Env) (s:Store),(∀j,l[j]? =ops[k+j]?)→(∀j,j<k→listed.getD j true=true)→Inv ops H base listed s→
  Region.lexFrom .any ops l.length k listed=true→JF P T ops H base l k e s K→YL P T ops H base K l.length listed e s
 |[],_,_,_,_,_,_,_,hB,h=>⟨by simpa [Region.lexFrom] using hB,h⟩
 | o :: l, k, listed, e, s, hl, hlt, hinv, hB, h => by
  have h0:ops[k]? =some o:=by simpa using (hl 0).symm
  simp only[List.length_cons,Region.lexFrom,Bool.and_eq_true]at hB;obtain⟨⟨hr,hf⟩,hB'⟩:=hB;have hr':k∈Region.ready .any ops listed:=by simpa using hr
  refine any_first h0 l.length listed e s hinv (Region.free_spec h0 hf) (fun j oj hoj hjk hun h1 h2=>hE j k oj o hoj h0 (Nat.lt_of_not_le fun hle=> ?_) h1 h2) hr'
   (Qq (fun e' s' hk=>any_lex hE l (k+1) _ e' s' (fun j=>by have:=hl (j+1);simpa [Nat.add_assoc,Nat.add_comm 1 j] using this) (fun j hj=> ?_) hk.1 hB' hk.2) (zzj hinv hr' h0 h))
  ·have:=hlt j (by omega);rw[this]at hun;cases hun
  ·cases hg:(listed.setIfInBounds k true).getD j true with
   |true=>rfl
   | false =>
    obtain⟨h1,h2⟩:=qqJ hg;have:=hlt j (by omega);rw[this]at h1;cases h1
theorem chkD_spec (h:chkD ops=true):Region.lexB .any ops=true∧∀j k oj ok,ops[j]? =some oj→ops[k]? =some ok→k<j→(zq ok.op||zy ok.op)=true→zq oj.op=true→Zp ops ops.size j k=true:=by
 simp only[chkD,Bool.and_eq_true,List.all_eq_true,List.mem_range]at h;refine⟨h.1,fun j k oj ok hj hk hkj h1 h2=> ?_⟩;have:=h.2 j (Array.getElem?_eq_some_iff.1 hj).1 k hkj;rw[hj,hk]at this;simpa [h1,h2] using this
theorem evDraw_any0 {e:Env}{s:Store}{K:Env→Store→Prop}(h2:chkD ops=true){H:Store}(h3:E.sub H (s++List.replicate (QB ops) (some .res)))(h4:JF P T ops H s.length ops.toList 0 e (s++List.replicate (QB ops) (some .res)) K):
  Inv ops H s.length (Array.replicate ops.size false) (s++List.replicate (QB ops) (some .res))∧
  YL P T ops H s.length K ops.size (Array.replicate ops.size false) e (s++List.replicate (QB ops) (some .res)):=by
 obtain⟨hB,hE⟩:=chkD_spec h2;have hinv:Inv ops H s.length (Array.replicate ops.size false) (s++List.replicate (QB ops) (some .res)):=by
  refine⟨h3,fun j o hj hn _=> ?_,fun j o hj hl=> ?_⟩
  ·have:=newIdx_all hj hn;rw[List.getElem?_append_right (by omega),List.getElem?_replicate];simp[this]
  ·rw[Array.getD_eq_getD_getElem?,Array.getElem?_replicate]at hl;split at hl<;>simp at hl
 refine⟨hinv,?_⟩;have hB2:=hB;simp only[Region.lexB,Bool.and_eq_true]at hB2;have:=any_lex (P:=P) (T:=T) (K:=K) hE ops.toList 0 _ e _ (by simp) (fun j hj=>absurd hj (by omega)) hinv (by simpa using hB2.2) h4;simpa using this
theorem evDraw_any {e:Env}{s:Store}{K:Env→Store→Prop}(h:JW P T ops e s K):P.follows .mixedOrders=true∧∃k H,Yb ops k=true∧Inv (qF ops k) H s.length (Array.replicate (qF ops k).size false) (s++List.replicate (QB (qF ops k)) (some .res))∧
  YL P T (qF ops k) H s.length (fun e s=>Js P T ops k e s K) (qF ops k).size (Array.replicate (qF ops k).size false) e (s++List.replicate (QB (qF ops k)) (some .res)):=by
 obtain⟨h1,k,hB,h2,H,h3,h4⟩:=h;obtain⟨h5,h6⟩:=evDraw_any0 h2 h3 h4;exact⟨h1,k,H,hB,h5,h6⟩
end
section
variable {P:Program} {T:TypeId→Option TI} {σ σ' τ s H:Store} {F:Nat→Option AObj} {e e':Env} {ops:Array Oper}
theorem zzx {i:Nat}{o:Oper}{K:Env→Store→Prop}(hF:Fok s F)(hk:qr s σ)(h:zb P T ops H s.length i o e σ K):zb P T ops H s.length i o e (ov σ F) fun e' s'=>∃s0,s'=ov s0 F∧qr s s0∧K e' s0:=by
 rcases kd3 (P:=P) (T:=T) (H:=H) ops s.length i o e with⟨p,hi⟩|⟨ob,mk,hin,hob,hi⟩|⟨hiE,hiw⟩|hi
 ·rw[hi]at h ⊢;exact⟨σ,rfl,hk,h⟩
 ·rw[hi]at h ⊢;have hn:F (s.length+qM ops i)=none:=by
   cases hf:F (s.length+qM ops i)with
   |none=>rfl
   | some ob =>
    have:=(List.getElem?_eq_some_iff.1 (hF _ _ hf).1).1;omega
  refine⟨σ.set _ _,(Jr hn _).symm,fun j hj=> ?_,h⟩;have:=(List.getElem?_eq_some_iff.1 hj).1;rw[List.getElem?_set_ne (by omega)];exact hk j hj
 ·rw[evD1_E hiw]at h ⊢;exact Yc (fun e' s' ⟨s0,h1,h2,h3⟩=>⟨s0,h1,hk.trans h2,h3⟩) (qqW hiE (hk.Fok hF) h)
 ·exact absurd h (hi _ _)
theorem zzw {K:Env→Store→Prop}(hF:Fok s F):∀(l:List Oper) (i:Nat) (e:Env) (σ:Store),qr s σ→JF P T ops H s.length l i e σ K→JF P T ops H s.length l i e (ov σ F) fun e' s'=>∃s0,s'=ov s0 F∧qr s s0∧K e' s0
 |[],i,e,σ,hk,h=>⟨σ,rfl,hk,h⟩
 | o :: l, i, e, σ, hk, h => Qq (fun e' s' ⟨s0, h1, h2, h3⟩ => by
   rw[h1];exact zzw hF l (i+1) e' s0 h2 h3) (zzx hF hk h)
theorem ov_app (hF:Fok s F)(n:Nat):ov (s++List.replicate n (some .res)) F=ov s F++List.replicate n (some .res):=by
 induction n with
 |zero=>simp
 | succ n ih =>
  rw[List.replicate_succ',←List.append_assoc,←List.append_assoc,Yl,ih];intro i ob hi;obtain⟨h1,h2⟩:=hF i ob hi;exact⟨by rw[List.getElem?_append_left (List.getElem?_eq_some_iff.1 h1).1];exact h1,h2⟩
theorem qqG {K:Env→Store→Prop}:∀(n:Nat) (l:Array Bool) (e:Env) (s:Store),Fok s F→zR P T ops K n l e s→zR P T ops (over s F K) n l e (ov s F)
 |0,l,e,s,hF,h=>⟨h.1,s,rfl,qr.refl _,h.2⟩
 | n + 1, l, e, s, hF, h => ⟨fun h0 => ⟨s, rfl, qr.refl _, h.1 h0⟩, fun i hi => QH (fun e' s' hh => by
   obtain⟨s0,rfl,k2,k3⟩:=hh;exact YM (fun e s hq=>qqh k2 hq) _ _ _ _ (qqG n _ _ _ (k2.Fok hF) k3)) _ _ _ (ZU _ _ _ hF (h.2 i hi))⟩
theorem evRest_frame {k:Nat}{K:Env→Store→Prop}{e:Env}{s:Store}(hF:Fok s F)(h:Js P T ops k e s K):Js P T ops k e (ov s F) (over s F K):=
 h.imp (fun h=>⟨h.1,ZU _ _ _ hF h.2⟩) (qqG _ _ _ _ hF)
theorem evDraw_frame {K:Env→Store→Prop}(hF:Fok s F)(h:JW P T ops e s K):JW P T ops e (ov s F) (over s F K):=by
 obtain⟨h1,k,hB,h2,H,h3,h4⟩:=h;refine⟨h1,k,hB,h2,H,?_,?_⟩
 ·rw[←ov_app hF];exact fun i o hl=>JK i o (h3 i o hl)
 ·rw[←ov_app hF,QU];refine ZC (fun e' s' hh=> ?_) _ _ _ _ (zzw hF _ _ _ _ (fun i hi=>by rw[List.getElem?_append_left (List.getElem?_eq_some_iff.1 hi).1];exact hi) h4);obtain⟨s0,rfl,k2,k3⟩:=hh;exact qqY (fun e s hq=>qqh k2 hq) (evRest_frame (k2.Fok hF) k3)
theorem Gh.frame {e e2:Env}{s s2:Store}(h:Gh e s e2 s2)(hF:Fok s F):Gh e (ov s F) e2 (ov s2 F):=
 ⟨zze hF h.1,fun G hG μ w hs=>by
  rw[ov_ov hF]at hs ⊢;rw[ov_ov (h.1.Fok hF)];exact h.2 _ (Fok2 hF hG) μ w hs⟩
def overX (σ:Store)(F:Nat→Option AObj)(K:X→Env→Store→Prop)(x:X)(e:Env)(s:Store):Prop:=∃s0,s=ov s0 F∧qr σ s0∧K x e s0
theorem ev_frame:∀(c:Code) {K:X→Env→Store→Prop} {σ:Store} (hF:Fok σ F) (e:Env),ev P T c e σ K→ev P T c e (ov σ F) (overX σ F K):=by
 intro c;induction c with
 |skip=>intro K σ hF e h;exact⟨σ,rfl,qr.refl _,h⟩
 |label l=>intro K σ hF e h;exact⟨σ,rfl,qr.refl _,h⟩
 |exit id=>intro K σ hF e h;exact⟨σ,rfl,qr.refl _,h⟩
 |ret=>intro K σ hF e h;exact⟨σ,rfl,qr.refl _,h⟩
 | region id ops draw =>
  intro K σ hF e h;cases draw with
  |false=>exact ZU _ _ _ hF h
  |true=>exact evDraw_frame hF h
 | seq a b iha ihb =>
  intro K σ hF e h;simp only[ev]at h ⊢;refine Qj a (fun x e s hx=> ?_) e _ (iha hF e h);obtain⟨s0,rfl,h2,h3⟩:=hx;cases x with
  |nrm=>obtain⟨e2,s2,hw,h3⟩:=h3;exact⟨e2,ov s2 F,hw.frame (h2.Fok hF),Qj b (fun x e s ⟨s1,k1,k2,k3⟩=>⟨s1,k1,h2.trans (hw.1.trans k2),k3⟩) e2 _ (ihb (hw.1.Fok (h2.Fok hF)) e2 h3)⟩
  |ext i=>exact⟨s0,rfl,h2,h3⟩
  |ret=>exact⟨s0,rfl,h2,h3⟩
 | cond c a b iha ihb =>
  intro K σ hF e h;simp only[ev]at h ⊢;split at h
  ·split at h
   ·rename_i ht;rw[if_pos ht];exact iha hF e h
   ·rename_i ht;rw[if_neg ht];exact ihb hF e h
  ·exact⟨iha hF e h.1,ihb hF e h.2⟩
  ·exact h
 | block id c ih =>
  intro K σ hF e h;simp only[ev]at h ⊢;refine Qj c (fun x e s hx=> ?_) e _ (ih hF e h);obtain⟨s0,rfl,h2,h3⟩:=hx;cases x with
  |nrm=>exact⟨s0,rfl,h2,h3⟩
  | ext i =>
   simp only at h3 ⊢;split
   ·rename_i hi;rw[if_pos hi]at h3;exact⟨s0,rfl,h2,h3⟩
   ·rename_i hi;rw[if_neg hi]at h3;exact⟨s0,rfl,h2,h3⟩
  |ret=>exact⟨s0,rfl,h2,h3⟩
 | loop c ih =>
  intro K σ hF e h;intro I hI;refine h (fun e s=>qr σ s→I e (ov s F)) (fun e s ⟨e2,s2,hw,hr⟩ hk=>hI e _ ⟨e2,ov s2 F,hw.frame (hk.Fok hF),?_⟩) (qr.refl _);refine Qj c (fun x e s hx=> ?_) e2 _ (ih (hw.1.Fok (hk.Fok hF)) e2 hr);obtain⟨s0,rfl,h2,h3⟩:=hx;have h2:=hw.1.trans h2;cases x with
  |nrm=>exact h3 (hk.trans h2)
  |ext i=>exact⟨s0,rfl,hk.trans h2,h3⟩
  |ret=>exact⟨s0,rfl,hk.trans h2,h3⟩
 |scope c ih=>intro K σ hF e h;exact ih hF e h
 |_=>intro K σ hF e h;exact h.elim
theorem stepK_sat {o:Oper}{K:Env→Store→Prop}(h:QC P T o e σ K):∃e' s',qr σ s'∧K e' s':=by
 unfold QC at h;have hk:=qqu (T:=T) o.op e σ;generalize hr:ql T o.op e σ=r at h hk;cases hk with
 |val p h1=>exact⟨_,_,qr.refl _,h⟩
 |new ob mk h1=>exact⟨_,_,qr.push _,h⟩
 |push p ob hne h1=>exact⟨_,_,qr.push _,h⟩
 |set p g o' ob hne hne' hg h1=>exact⟨_,_,qr.set _ hg (by intro hh;injection hh with hh;exact hne' hh),h⟩
 |call f args h1=>obtain⟨⟨r,s,h2,h3⟩,_⟩:=h;exact⟨_,_,h2,h3⟩
 |bad=>exact h.elim
theorem JV {K:Env→Store→Prop}:∀(l:List Oper) (e:Env) (σ:Store),Qb P T ops l e σ K→∃e' s',qr σ s'∧K e' s'
 |[],e,σ,h=>⟨e,σ,qr.refl _,h⟩
 | o :: l, e, σ, h => by
  simp only[Qb]at h;obtain⟨e0,hw,h⟩:=h;split at h
  ·obtain⟨e1,s1,h1,h2⟩:=stepK_sat h;obtain⟨e2,s2,h3,h4⟩:=JV l e1 s1 h2;exact⟨e2,s2,h1.trans h3,h4⟩
  ·exact JV l _ σ h
  ·exact h.elim
theorem zzv {K:Env→Store→Prop}:∀(n:Nat) (l:Array Bool) (e:Env) (σ:Store),zR P T ops K n l e σ→∃e' s',qr σ s'∧K e' s'
 |0,l,e,σ,h=>⟨e,σ,qr.refl _,h.2⟩
 | n + 1, l, e, σ, h => by
  cases hr:Region.ready .any ops l with
  |nil=>exact⟨e,σ,qr.refl _,h.1 hr⟩
  | cons i r =>
   obtain⟨e1,s1,h1,h2⟩:=JV _ _ _ (h.2 i (by rw[hr];exact List.mem_cons_self));obtain⟨e2,s2,h3,h4⟩:=zzv n _ e1 s1 h2;exact⟨e2,s2,h1.trans h3,h4⟩
theorem evRest_sat {k:Nat}{K:Env→Store→Prop}{e:Env}(h:Js P T ops k e σ K):∃e' s',qr σ s'∧K e' s':=by
 rcases h with⟨_,h⟩|h
 ·exact JV _ _ _ h
 ·exact zzv _ _ _ _ h
theorem evD1_sat {i:Nat}{o:Oper}{K:Env→Store→Prop}(hk:qr s σ)(h:zb P T ops H s.length i o e σ K):∃e' s',qr s s'∧K e' s':=by
 refine Classical.byContradiction fun hn=>qqn (P:=P) (T:=T) (H:=H) (ops:=ops) (base:=s.length) (i:=i) (o:=o) (e:=e) (s:=σ) ?_;have:=zzx (F:=fun _=>none) Fok.nil hk h;rw[YR]at this;exact Qq (fun e' s' ⟨s0,h1,h2,h3⟩=>hn ⟨e',s0,h2,h3⟩) this
theorem evDl_sat {K:Env→Store→Prop}:∀(l:List Oper) (i:Nat) (e:Env) (σ:Store),qr s σ→JF P T ops H s.length l i e σ K→∃e' s',qr s s'∧K e' s'
 |[],i,e,σ,hk,h=>⟨e,σ,hk,h⟩
 | o :: l, i, e, σ, hk, h => by
  obtain⟨e1,s1,h1,h2⟩:=evD1_sat hk h;exact evDl_sat l _ e1 s1 h1 h2
theorem ev_sat:∀(c:Code) {K:X→Env→Store→Prop} (σ:Store) (e:Env),ev P T c e σ K→∃x e' s',qr σ s'∧K x e' s':=by
 intro c;induction c with
 |skip=>intro K σ e h;exact⟨_,_,_,qr.refl _,h⟩
 |label l=>intro K σ e h;exact⟨_,_,_,qr.refl _,h⟩
 |exit id=>intro K σ e h;exact⟨_,_,_,qr.refl _,h⟩
 |ret=>intro K σ e h;exact⟨_,_,_,qr.refl _,h⟩
 | region id ops draw =>
  intro K σ e h;cases draw with
  | false =>
   obtain⟨e',s',h1,h2⟩:=JV _ _ _ h;exact⟨_,e',s',h1,h2⟩
  | true =>
   obtain⟨_,k,_,_,H,_,h4⟩:=h;obtain⟨e',s',h1,h2⟩:=evDl_sat (s:=σ) _ _ _ _ (fun i hi=>by rw[List.getElem?_append_left (List.getElem?_eq_some_iff.1 hi).1];exact hi) h4;obtain⟨e2,s2,h3,h5⟩:=evRest_sat h2;exact⟨_,e2,s2,h1.trans h3,h5⟩
 | seq a b iha ihb =>
  intro K σ e h;obtain⟨x,e1,s1,h1,h2⟩:=iha σ e h;cases x with
  | nrm =>
   obtain⟨e3,s3,hw,h2⟩:=h2;obtain⟨y,e2,s2,h3,h4⟩:=ihb s3 e3 h2;exact⟨y,e2,s2,h1.trans (hw.1.trans h3),h4⟩
  |ext i=>exact⟨_,e1,s1,h1,h2⟩
  |ret=>exact⟨_,e1,s1,h1,h2⟩
 | cond c a b iha ihb =>
  intro K σ e h;simp only[ev]at h;split at h
  ·split at h
   ·exact iha σ e h
   ·exact ihb σ e h
  ·exact iha σ e h.1
  ·exact h.elim
 | block id c ih =>
  intro K σ e h;obtain⟨x,e1,s1,h1,h2⟩:=ih σ e h;cases x with
  |nrm=>exact⟨_,e1,s1,h1,h2⟩
  | ext i =>
   simp only at h2;split at h2
   ·exact⟨_,e1,s1,h1,h2⟩
   ·exact⟨_,e1,s1,h1,h2⟩
  |ret=>exact⟨_,e1,s1,h1,h2⟩
 | loop c ih =>
  intro K σ e h;refine h (fun e s=>∃x e' s',qr s s'∧K x e' s') (fun e s ⟨e3,s3,hw,hr⟩=> ?_);obtain⟨x,e1,s1,h1,h2⟩:=ih s3 e3 hr;have h1:=hw.1.trans h1;cases x with
  | nrm =>
   obtain⟨y,e2,s2,h3,h4⟩:=h2;exact⟨y,e2,s2,h1.trans h3,h4⟩
  |ext i=>exact⟨_,e1,s1,h1,h2⟩
  |ret=>exact⟨_,e1,s1,h1,h2⟩
 |scope c ih=>intro K σ e h;exact ih σ e h
 |_=>intro K σ e h;exact h.elim
def LF (P:Program)(T:TypeId→Option TI)(c:Code)(e:Env)(s:Store)(K:X→Env→Store→Prop):Prop:=∃e2 s2,Gh e s e2 s2∧ev P T c e2 s2 K
theorem Lp.round {c:Code}{K:X→Env→Store→Prop}(hw:Gh e σ e' σ')(h:ev P T c e' σ' fun x e' s'=>match x with| .nrm=>Lp (LF P T c) e' s' K|x=>K x e' s'):Lp (LF P T c) e σ K:=by
 intro I hI;refine hI e σ ⟨e',σ',hw,Qj c (fun x e s hx=> ?_) e' σ' h⟩;cases x with
 |nrm=>exact hx I hI
 |ext i=>exact hx
 |ret=>exact hx
end
theorem qqa {P:Program}{m X m':Machine}(h:Steps P m m')(hs:step P m=.next X):m'=m∨Steps P X m':=by
 obtain⟨n,hn⟩:=h;cases n with
 |zero=>simp[runN]at hn;exact .inl hn.symm
 | succ n =>
  simp only[runN,hs]at hn;exact .inr ⟨n,hn⟩
theorem qqm {id:Nat}:∀{k k':List Item},exitTo id k=some k'→k'.length≤k.length
  |[],k',h=>by simp[exitTo]at h
  | x :: k, k', h => by
    cases x<;>simp only[exitTo]at h<;>first
      |(have:=qqm h;simp;omega)
      | (split at h
         · injection h with h;subst h;simp
         · have:=qqm h;simp;omega)
theorem lone_todo {b:Frame}{a a':Act}{k k':List Item}{cs:List Frame}{w w':World}(h:lone (b.at a k) cs w=lone (b.at a' k') cs w'):k=k':=by
 have h1:=congrArg Machine.gs h;simp[lone,Frame.at]at h1;exact h1.2.1
theorem wp_unroll {P:Program}{c:Code}{Q:Exit→Act→World→Prop}{a:Act}{w:World}(hg:∀l a w,¬Q (.goto l) a w)(hp:∀l a w,¬Q (.panic l) a w)(ho:∀a w,¬Q .outgrown a w)
  (h:c.wp P (Exit.then ((Code.loop c).wp P Q) Q) a w):(Code.loop c).wp P Q a w:=by
 intro b k cs;obtain⟨e,a1,w1,hq,harr⟩:=h b (.inLoop c::k) cs;cases e with
 | normal =>
  obtain⟨e2,a2,w2,hq2,harr2⟩:=hq b k cs;refine⟨e2,a2,w2,hq2,.of_steps (Steps.trans (.one step_loop) (Steps.trans harr (.one step_inLoop))) ?_⟩;cases e2 with
  | normal =>
   rcases qqa harr2 step_loop with he|he
   ·have:=congrArg List.length (lone_todo he);simp at this
   ·exact he
  | exit id =>
   intro k' hk;rcases qqa (harr2 k' hk) step_loop with he|he
   ·have h1:=congrArg List.length (lone_todo he);have h2:=qqm hk;simp at h1;omega
   ·exact he
  | ret =>
   obtain⟨todo,hs⟩:=harr2;rcases qqa hs step_loop with he|he
   ·have h1:=congrArg Machine.gs he;simp[lone,Frame.at]at h1
   ·exact⟨todo,he⟩
  |goto l=>exact absurd hq2 (hg _ _ _)
  |panic l=>exact absurd hq2 (hp _ _ _)
  |outgrown=>exact absurd hq2 (ho _ _)
 |exit id=>exact⟨_,a1,w1,hq,.of_steps (.one step_loop) (.pass (x:=.inLoop c) rfl (fun _ _=>.inl (by simp)) harr)⟩
 |goto l=>exact absurd hq (hg _ _ _)
 |ret=>exact⟨_,a1,w1,hq,.of_steps (.one step_loop) (.pass (x:=.inLoop c) rfl (fun _ _=>.inl (by simp)) harr)⟩
 |panic ch=>exact absurd hq (hp _ _ _)
 |outgrown=>exact absurd hq (ho _ _)
section
variable {P:Program} {T:TypeId→Option TI} {σ σ' σ0:Store} {μ μ' μ0:Nat→Nat} {w w' w0:World}
def exA:Exit→X→Prop
 | .normal,.nrm=>True
 | .exit i,.ext j=>i=j
 | .ret,.ret=>True
 |_,_=>False
def RQ (n:Nat)(σ0:Store)(μ0:Nat→Nat)(w0:World)(K:X→Env→Store→Prop)(x:Exit)(a:Act)(w:World):Prop:=
 ∃y env σ μ,exA x y∧Sim n σ μ env a w∧Ext σ0 μ0 w0 σ μ w∧K y env σ
theorem RQ.mono {n:Nat}{K K':X→Env→Store→Prop}(hK:∀x e s,K x e s→K' x e s){x:Exit}{a:Act}{w:World}(h:RQ n σ0 μ0 w0 K x a w):RQ n σ0 μ0 w0 K' x a w:=by
 obtain⟨y,env,σ,μ,h1,h2,h3,h4⟩:=h;exact⟨y,env,σ,μ,h1,h2,h3,hK _ _ _ h4⟩
theorem Sim.put {n:Nat}{env:Env}{a:Act}(h:Sim n σ μ env a w)(he:Ext σ μ w σ' μ' w')(hs:SR σ' μ' w'){d:Option Tmp}(hd:∀t,d=some t→t<n){x:Value}{p:PV}(hp:R σ' μ' w' x p):Sim n σ' μ' (upd env d p) (a.put d x) w':=by
 refine⟨hs,fun t=> ?_,?_,?_⟩
 ·cases d with
  |none=>exact(h.env t).ext h.sr he
  | some d =>
   have hlt:=hd d rfl;show R σ' μ' w' ((a.tmps.setIfInBounds d x).getD t undef) (if t=d then p else env t);by_cases htd:t=d
   ·subst htd;rw[if_pos rfl,Array.getD_eq_getD_getElem?,Array.getElem?_setIfInBounds_self_of_lt (by rw[h.size];exact hlt)];exact hp
   ·rw[if_neg htd,Array.getD_eq_getD_getElem?,Array.getElem?_setIfInBounds_ne (fun e=>htd e.symm),←Array.getD_eq_getD_getElem?];exact(h.env t).ext h.sr he
 ·cases d<;>simp[Act.put,h.size]
 ·cases d<;>exact h.defs
def Jb (n:Nat)(ops:List Oper):Bool:=ops.all fun o=>match o.dst with|some t=>decide (t<n)|none=>true
def Qm (n:Nat):Code→Bool
 | .region _ ops _=>Jb n ops.toList
 | .seq a b=>Qm n a&&Qm n b
 | .cond _ a b=>Qm n a&&Qm n b
 | .block _ c=>Qm n c
 | .loop c=>Qm n c
 | .scope c=>Qm n c
 |_=>true
theorem QX {n:Nat}{env:Env}{a:Act}(h:Sim n σ μ env a w){ops:Array Oper}{o:Oper}{b:Bool}(hw:zk ops o env=some b)(hops:Jb n ops.toList=true):Region.wanted o (yielded ops a.tmps)=b:=by
 unfold zk at hw;unfold Region.wanted;split at hw
 ·rename_i hg;injection hw with hw;rw[hg];exact hw
 ·rename_i j want hg;rw[hg];simp only;split at hw
  ·rename_i t ht;have hlt:t<n:=by
    obtain⟨o',ho',hd⟩:=Option.bind_eq_some_iff.1 ht;have:=List.all_eq_true.1 hops o' (by simpa using Array.mem_of_getElem? ho');rw[hd]at this;simpa using this
   have hy:yielded ops a.tmps j=match a.tmps[t]? with|some (.bool b)=>some b|_=>none:=by
    unfold yielded;rw[ht];rfl
   have hx:a.tmps[t]? =some (a.tmps.getD t undef):=by
    rw[Array.getElem?_eq_getElem (by rw[h.size];exact hlt),Array.getD_eq_getD_getElem?,Array.getElem?_eq_getElem (by rw[h.size];exact hlt)];rfl
   have hR:=h.env t;split at hw
   ·rename_i b' hb;injection hw with hw;rw[hb]at hR;rw[hy,hx,R_v hR];simp only;rw[←hw];cases b'<;>cases want<;>rfl
   ·rename_i hb;injection hw with hw;rw[hb]at hR;generalize hq:a.tmps.getD t undef=v at hR;cases hR with
    | tu vs ps h1 h2 =>
     rw[hy,hx,hq,←hw];rfl
   ·cases hw
  ·cases hw
theorem Qv {n:Nat}{o:Oper}{env:Env}{a:Act}{p:PV}(hs0:SR σ0 μ0 w0)(hd0:∀t,o.dst=some t→t<n)(h:Sim n σ μ env a w)(he:Ext σ0 μ0 w0 σ μ w)(hg:Good P σ μ w (execOp a.eval o) p σ')
  {K':Act→World→Prop} {Q':Exit→Act→World→Prop} (hK:∀a' w' μ',Sim n σ' μ' (upd env o.dst p) a' w'→Ext σ0 μ0 w0 σ' μ' w'→K' a' w'):o.wp P a w K' Q':=by
 obtain⟨nx,x,w',μ',h1,h2,h3,h4,h5⟩:=hg;have hrest:=hK _ w' μ' (h.put h3 h4 hd0 h5) (he.trans hs0 h3);unfold Oper.wp;rw[h1];rcases h2 with rfl|⟨rfl,rfl⟩
 ·exact hrest
 ·exact hrest
theorem qqU {n:Nat}{o:Oper}{env:Env}{a:Act}{f:FuncId}{args:List PV}{K:PV→Store→Prop}(hs0:SR σ0 μ0 w0)(hd0:∀t,o.dst=some t→t<n)(h:Sim n σ μ env a w)(he:Ext σ0 μ0 w0 σ μ w)(hg:StepOK P σ μ w (execOp a.eval o) (.call f args))(hev:ECs P f args σ K)
  {K':Act→World→Prop} {Q':Exit→Act→World→Prop} (hK:∀a' w' σ' μ' p,Sim n σ' μ' (upd env o.dst p) a' w'→Ext σ0 μ0 w0 σ' μ' w'→K p σ'→K' a' w'):o.wp P a w K' Q':=by
 obtain⟨vs,h1,h2⟩:=hg;have hfin:∀x w',(∃r σ' μ',Ext σ μ w σ' μ' w'∧SR σ' μ' w'∧R σ' μ' w' x r∧K r σ')→K' (a.put o.dst x) w':=by
  rintro x w' ⟨r,σ',μ',k1,k2,k3,k4⟩
  exact hK _ w' σ' μ' r (h.put k1 k2 hd0 k3) (he.trans hs0 k1) k4
 unfold Oper.wp;rcases hev μ w vs h.sr h2 with⟨c1,c2⟩|⟨x,w',c1,c2⟩
 ·rw[h1,c1,Oper.upon_enter];refine c2.mono fun e w' ⟨x,hx,hp⟩=> ?_;subst hx;exact hfin x w' hp
 ·rw[h1,c1,Oper.upon_value];exact hfin x w' c2
theorem qqd {n:Nat}{env:Env}{a:Act}(h:Sim n σ μ env a w){d:Option Tmp}(hd:∀t,d=some t→t<n):Sim n σ μ (upd env d (.tu [])) (a.put d undef) w:=
 h.put (Ext.refl _ _ _) h.sr hd (.tu #[] [] rfl fun i x p hx=>by simp at hx)
theorem dst_lt {n:Nat}{l:List Oper}(hd:Jb n l=true){o:Oper}(ho:o∈l):∀t,o.dst=some t→t<n:=fun t ht=>by
 have:=List.all_eq_true.1 hd o ho;rw[ht]at this;simpa using this
theorem Sim.wk {n:Nat}{env env':Env}{a:Act}(h:Sim n σ μ env a w)(hw:WkE env env'):Sim n σ μ env' a w:=
 ⟨h.sr,fun t=>(h.env t).wk (hw t),h.size,h.defs⟩
theorem YT {n:Nat}(hT:∀t ti,T t=some ti→TOK P t ti){ops:Array Oper}(hops:Jb n ops.toList=true){K:Env→Store→Prop}{KX:X→Env→Store→Prop}(hs0:SR σ0 μ0 w0)(hKX:∀e s,K e s→KX .nrm e s):∀(l:List Oper) (σ:Store) (μ:Nat→Nat) (env:Env) (a:Act) (w:World),Jb n l=true→Sim n σ μ env a w→Ext σ0 μ0 w0 σ μ w→Qb P T ops l env σ K→
  wpList P ops (RQ n σ0 μ0 w0 KX) l a w
 |[],σ,μ,env,a,w,_,h,he,hev=>⟨.nrm,env,σ,μ,trivial,h,he,hKX _ _ hev⟩
 | o :: l, σ, μ, env, a, w, hd, h, he, hev => by
  have hd0:∀t,o.dst=some t→t<n:=dst_lt hd List.mem_cons_self;have hd1:Jb n l=true:=by
   simp only[Jb,List.all_cons,Bool.and_eq_true]at hd;exact hd.2
  simp only[Qb]at hev;obtain⟨env2,hwe,hev⟩:=hev;replace h:=h.wk hwe;unfold wpList;split at hev
  ·rename_i hw;rw[QX h hw hops];simp only[if_true];refine .inl ?_;have hst:=qqM hT h o;unfold QC at hev;split at hev
   ·rename_i p hq;rw[hq]at hst;exact Qv hs0 hd0 h he hst fun a' w' μ' h1 h2=>YT hT hops hs0 hKX l σ μ' _ _ w' hd1 h1 h2 hev
   ·rename_i ob mk hq;rw[hq]at hst;exact Qv hs0 hd0 h he (hst.2 _ _ (NewAt.push σ hst.1)) fun a' w' μ' h1 h2=>YT hT hops hs0 hKX l _ μ' _ _ w' hd1 h1 h2 hev
   ·rename_i p s' hq;rw[hq]at hst;exact Qv hs0 hd0 h he hst fun a' w' μ' h1 h2=>YT hT hops hs0 hKX l _ μ' _ _ w' hd1 h1 h2 hev
   ·rename_i f args hq;rw[hq]at hst;exact qqU hs0 hd0 h he hst hev.here fun a' w' σ' μ' p h1 h2 h3=>YT hT hops hs0 hKX l σ' μ' _ _ w' hd1 h1 h2 h3
   ·exact hev.elim
  ·rename_i hw;rw[QX h hw hops];simp only[Bool.false_eq_true,if_false];exact YT hT hops hs0 hKX l σ μ _ _ w hd1 (qqd h hd0) he hev
  ·exact hev.elim
theorem JQ {k:Nat}{i:Nat}{o:AObj}(h:live (σ++List.replicate k (some .res)) i o):live σ i o:=by
 obtain⟨h1,h2⟩:=h;by_cases hi:i<σ.length
 ·rw[List.getElem?_append_left hi]at h1;exact⟨h1,h2⟩
 ·rw[List.getElem?_append_right (by omega),List.getElem?_replicate]at h1;split at h1
  ·injection h1 with h1;injection h1 with h1;exact absurd h1.symm h2.1
  ·cases h1
theorem ext_reps (hs:SR σ μ w)(k:Nat):Ext σ μ w (σ++List.replicate k (some .res)) μ w where
 os:=rfl
 tape:=rfl
 output:=rfl
 size:=Nat.le_refl _
 len:=by simp
 known:=fun i h=>⟨by simp;have:=h.1;omega,by rw[List.getElem?_append_left h.1];exact h.2⟩
 keep:=fun _ _ _=>rfl
 tok:=fun id e sz len cur _ h=>⟨cur,h,fun _ _=>rfl⟩
 hol:=fun id hk hh=>by
  unfold zV at hh ⊢
  rwa [List.getElem?_append_left hk.1]at hh
 evo:=fun id o' _ h=>.inl ⟨o',JQ h,Qa.same h.2 rfl rfl⟩
 fresh:=fun id o' h=>.inl ⟨(JQ h).known,rfl⟩
theorem sr_reps (hs:SR σ μ w)(k:Nat):SR (σ++List.replicate k (some .res)) μ w:=
 ⟨fun i j o o' hi hj=>hs.inj i j o o' (JQ hi) (JQ hj),fun i o hl=>(hs.obj i o (JQ hl)).ext hs (ext_reps hs k) rfl⟩
theorem Sim.ext {n:Nat}{env:Env}{a:Act}(h:Sim n σ μ env a w)(he:Ext σ μ w σ' μ' w')(hs:SR σ' μ' w'):Sim n σ' μ' env a w':=
 ⟨hs,fun t=>(h.env t).ext h.sr he,h.size,h.defs⟩
theorem Sim.gh {n:Nat}{env env':Env}{a:Act}(h:Sim n σ μ env a w)(hg:Gh env σ env' σ'):∃μ',Sim n σ' μ' env' a w∧Ext σ μ w σ' μ' w:=by
 have:=hg.2 (fun _=>none) Fok.nil μ w (by rw[YR];exact h.sr);rw[YR,YR]at this;obtain⟨μ',h1,h2,h3⟩:=this;exact⟨μ',⟨h2,fun t=>h3 t _ (h.env t),h.size,h.defs⟩,h1⟩
theorem NewAt.slot {i:Nat}{ob:AObj}(h:σ[i]? =some (some .res))(hne:ob≠ .res∧ob≠ .hol):NewAt σ (σ.set i (some ob)) i ob where
 len:=by simp
 old:=fun j o hl=>by
  rcases za hl with h1|⟨h1,h2,_⟩
  ·exact .inl h1
  ·exact .inr ⟨h1,h2⟩
 knw:=fun j hk=>JR hne.1 hk
 hol:=fun j _ hh=>YV hh hne.2
 new:=fun hk=>hk.2 h
 live:=Zl (List.getElem?_eq_some_iff.1 h).1 hne
theorem zzy {ops:Array Oper}{k j:Nat}{o:Oper}(h:chkB ops k=true)(ho:ops[j]? =some o):∀e∈o.after,Region.binds .any e=true→e.on<j:=fun e he hb=>by
 have hj:=(Array.getElem?_eq_some_iff.1 ho).1;have h1:=List.all_eq_true.1 h j (List.mem_range.2 hj);simp only[Bool.and_eq_true]at h1;have h2:=h1.1;rw[ho]at h2;have h3:=List.all_eq_true.1 h2 e (by simpa using he);simpa [hb] using h3
theorem chkB_waits {ops:Array Oper}{k j i:Nat}(h:chkB ops k=true)(hj:j<ops.size)(hk:k≤j)(hi:i<j):Zp ops ops.size j i=true:=by
 have h1:=List.all_eq_true.1 h j (List.mem_range.2 hj);simp only[Bool.and_eq_true,Bool.or_eq_true,decide_eq_true_eq]at h1;rcases h1.2 with h2|h2
 ·omega
 ·exact List.all_eq_true.1 h2 i (List.mem_range.2 hi)
theorem chkE_le {ops:Array Oper}{k:Nat}(h:Yb ops k=true):k≤ops.size:=by
 unfold Yb at h;simp only[Bool.and_eq_true,decide_eq_true_eq]at h;exact h.1
theorem Yi {ops:Array Oper}{k j:Nat}{o:Oper}(h:Yb ops k=true)(ho:ops[j]? =some o):∀e∈o.after,Region.binds .any e=true→e.on<j:=fun e he hb=>by
 have hj:=(Array.getElem?_eq_some_iff.1 ho).1;unfold Yb at h;rw[Bool.and_eq_true]at h;have h1:=List.all_eq_true.1 h.2 j (List.mem_range.2 hj);simp only[Bool.and_eq_true]at h1;have h2:=h1.1;rw[ho]at h2;have h3:=List.all_eq_true.1 h2 e (by simpa using he);simpa [hb] using h3
theorem chkE_waits {ops:Array Oper}{k j i:Nat}(h:Yb ops k=true)(hj:j<ops.size)(hk:k≤j)(hi:i<k):Zp ops ops.size j i=true:=by
 unfold Yb at h;rw[Bool.and_eq_true]at h;have h1:=List.all_eq_true.1 h.2 j (List.mem_range.2 hj);simp only[Bool.and_eq_true,Bool.or_eq_true,decide_eq_true_eq]at h1;rcases h1.2 with h2|h2
 ·omega
 ·exact List.all_eq_true.1 h2 i (List.mem_range.2 hi)
theorem qqF (listed:Array Bool):∀m:Nat,(∀j,j<m→listed.getD j false=true)∨∃j0,j0<m∧listed.getD j0 false=false∧∀i,i<j0→listed.getD i false=true
 |0=>.inl fun j hj=>absurd hj (by omega)
 | m + 1 => by
  rcases qqF listed m with h|⟨j0,h1,h2,h3⟩
  ·cases hm:listed.getD m false with
   | true =>
    refine .inl fun j hj=> ?_;rcases Nat.lt_or_ge j m with h'|h'
    ·exact h j h'
    ·rw[show j=m by omega];exact hm
   |false=>exact .inr ⟨m,by omega,hm,h⟩
  ·exact .inr ⟨j0,by omega,h2,h3⟩
theorem QW {listed:Array Bool}{j:Nat}(h:j<listed.size)(a b:Bool):listed.getD j a=listed.getD j b:=by
 rw[Array.getD_eq_getD_getElem?,Array.getD_eq_getD_getElem?,Array.getElem?_eq_getElem h];rfl
theorem Yv {listed:Array Bool}{i j:Nat}{d:Bool}(h:j<listed.size):(listed.setIfInBounds i true).getD j d=if i=j then true else listed.getD j d:=by
 rw[Array.getD_eq_getD_getElem?,Array.getD_eq_getD_getElem?];by_cases hij:i=j
 ·subst hij;rw[if_pos rfl,Array.getElem?_setIfInBounds_self_of_lt h];rfl
 ·rw[if_neg hij,Array.getElem?_setIfInBounds_ne hij]
theorem any_seq {n:Nat}(hT:∀t ti,T t=some ti→TOK P t ti){ops:Array Oper}{k:Nat}(hB:chkB ops k=true)(hops:Jb n ops.toList=true){K:Env→Store→Prop}{KX:X→Env→Store→Prop}(hs0:SR σ0 μ0 w0)(hKX:∀e s,K e s→KX .nrm e s):∀(fuel m:Nat) (listed:Array Bool) (σ:Store) (μ:Nat→Nat) (env:Env) (a:Act) (w:World),k≤m→m≤ops.size→ops.size≤m+fuel→listed.size=ops.size→
  (∀j,j<m→listed.getD j false=true)→(∀j,m≤j→j<ops.size→listed.getD j false=false)→Sim n σ μ env a w→Ext σ0 μ0 w0 σ μ w→Qb P T ops (ops.toList.drop m) env σ K→wpAny P .any ops (RQ n σ0 μ0 w0 KX) fuel listed a w:=by
 intro fuel;induction fuel with
 | zero =>
  intro m listed σ μ env a w _ hm hf hsz hl _ h he hev;have hend:ops.toList.drop m=[]:=List.drop_of_length_le (by simp;omega);rw[hend]at hev;refine⟨?_,.nrm,env,σ,μ,trivial,h,he,hKX _ _ hev⟩;refine List.eq_nil_iff_forall_not_mem.2 fun i hi=> ?_;obtain⟨h1,o,ho,_⟩:=mem_ready.1 hi;have hlt:=(Array.getElem?_eq_some_iff.1 ho).1;rw[QW (by omega) true false,hl i (by omega)]at h1;cases h1
 | succ fuel ih =>
  intro m listed σ μ env a w hk hm hf hsz hl hu h he hev;rcases Nat.lt_or_ge m ops.size with hlt|hge
  ·have hom:ops[m]? =some ops[m]:=Array.getElem?_eq_getElem hlt;have hrm:m∈Region.ready .any ops listed:=mem_ready.2 ⟨by rw[QW (by omega) true false];exact hu m (Nat.le_refl _) hlt,_,hom,fun e he' hb=>hl _ (zzy hB hom e he' hb)⟩;refine⟨fun h0=>(by rw[h0]at hrm;cases hrm),fun i hi=> ?_⟩;obtain⟨hun,o,ho,hall⟩:=mem_ready.1 hi;have hilt:=(Array.getElem?_eq_some_iff.1 ho).1;have him:i=m:=by
    rcases Nat.lt_trichotomy i m with h1|h1|h1
    ·rw[QW (by omega) true false,hl i h1]at hun;cases hun
    ·exact h1
    ·have hw:=chkB_waits hB hilt (by omega) h1;have hcl:∀j o,ops[j]? =some o→listed.getD j false=true→∀e∈o.after,Region.binds .any e=true→listed.getD e.on false=true:=fun j o hj hlj e he' hb=>by
      have hjm:j<m:=Nat.lt_of_not_le fun hle=>by
       rw[hu j hle (Array.getElem?_eq_some_iff.1 hj).1]at hlj;cases hlj
      exact hl _ (Nat.lt_trans (zzy hB hj e he' hb) hjm)
     have:=Jm hcl _ i m o ho hall hw;rw[hu m (Nat.le_refl _) hlt]at this;cases this
   subst him;have hd:ops.toList.drop i=o::ops.toList.drop (i+1):=by
    rw[List.drop_eq_getElem_cons (by simpa using hlt)];congr 1;have:=ho;rw[hom]at this;injection this
   rw[hd]at hev;have hd0:∀t,o.dst=some t→t<n:=dst_lt hops (by simpa using Array.mem_of_getElem? ho);have go:=fun σ μ env a w=>ih (i+1) (listed.setIfInBounds i true) σ μ env a w (by omega) (by omega) (by omega) (by simpa using hsz) (fun j hj=>by
    rw[Yv (by omega)];split
    ·rfl
    ·exact hl j (by omega)) (fun j hj hjs=>by
    rw[Yv (by omega),if_neg (by omega)];exact hu j (by omega) hjs)
   unfold wpOp;rw[ho];simp only;simp only[Qb]at hev;obtain⟨env2,hwe,hev⟩:=hev;replace h:=h.wk hwe;split at hev
   ·rename_i hw;rw[QX h hw hops];simp only[if_true];refine .inl ?_;have hst:=qqM hT h o;unfold QC at hev;split at hev
    ·rename_i p hq;rw[hq]at hst;exact Qv hs0 hd0 h he hst fun a' w' μ' h1 h2=>go _ _ _ _ _ h1 h2 hev
    ·rename_i ob mk hq;rw[hq]at hst;exact Qv hs0 hd0 h he (hst.2 _ _ (NewAt.push σ hst.1)) fun a' w' μ' h1 h2=>go _ _ _ _ _ h1 h2 hev
    ·rename_i p s' hq;rw[hq]at hst;exact Qv hs0 hd0 h he hst fun a' w' μ' h1 h2=>go _ _ _ _ _ h1 h2 hev
    ·rename_i f args hq;rw[hq]at hst;exact qqU hs0 hd0 h he hst hev.here fun a' w' σ' μ' p h1 h2 h3=>go _ _ _ _ _ h1 h2 h3
    ·exact hev.elim
   ·rename_i hw;rw[QX h hw hops];simp only[Bool.false_eq_true,if_false];exact go _ _ _ _ _ (qqd h hd0) he hev
   ·exact hev.elim
  ·have hend:ops.toList.drop m=[]:=List.drop_of_length_le (by simpa using hge);rw[hend]at hev;refine⟨fun _=>⟨.nrm,env,σ,μ,trivial,h,he,hKX _ _ hev⟩,fun i hi=> ?_⟩;obtain⟨h1,o,ho,_⟩:=mem_ready.1 hi;have hlt:=(Array.getElem?_eq_some_iff.1 ho).1;rw[QW (by omega) true false,hl i (by omega)]at h1;cases h1
theorem qqX {ops:Array Oper}{K:Env→Store→Prop}:∀(f:Nat) (l:Array Bool) (e:Env) (s:Store),zR P T ops K f l e s→zR P T ops K (f+1) l e s
 |0,l,e,s,h=>⟨fun _=>h.2,fun i hi=>by rw[h.1]at hi;cases hi⟩
 |f+1,l,e,s,h=>⟨h.1,fun i hi=>QH (fun e s=>qqX f _ e s) _ _ _ (h.2 i hi)⟩
theorem evTail_le {ops:Array Oper}{K:Env→Store→Prop}{f:Nat}{l:Array Bool}{e:Env}{s:Store}(h:zR P T ops K f l e s):∀d:Nat,zR P T ops K (d+f) l e s
 |0=>by rw[Nat.zero_add];exact h
 |d+1=>by rw[Nat.add_right_comm];exact qqX _ _ _ _ (evTail_le h d)
theorem any_tail {n:Nat}(hT:∀t ti,T t=some ti→TOK P t ti){ops:Array Oper}(hops:Jb n ops.toList=true){K:Env→Store→Prop}{KX:X→Env→Store→Prop}(hs0:SR σ0 μ0 w0)(hKX:∀e s,K e s→KX .nrm e s):∀(fuel:Nat) (listed:Array Bool) (σ:Store) (μ:Nat→Nat) (env:Env) (a:Act) (w:World),
  Sim n σ μ env a w→Ext σ0 μ0 w0 σ μ w→zR P T ops K fuel listed env σ→wpAny P .any ops (RQ n σ0 μ0 w0 KX) fuel listed a w:=by
 intro fuel;induction fuel with
 |zero=>intro listed σ μ env a w h he hev;exact⟨hev.1,.nrm,env,σ,μ,trivial,h,he,hKX _ _ hev.2⟩
 | succ fuel ih =>
  intro listed σ μ env a w h he hev;refine⟨fun h0=>⟨.nrm,env,σ,μ,trivial,h,he,hKX _ _ (hev.1 h0)⟩,fun i hi=> ?_⟩;obtain⟨hun,o,ho,hall⟩:=mem_ready.1 hi;have hev:=hev.2 i hi;rw[ho]at hev;have hd0:∀t,o.dst=some t→t<n:=dst_lt hops (by simpa using Array.mem_of_getElem? ho);unfold wpOp;rw[ho];simp only;simp only[Option.toList,Qb]at hev;obtain⟨env2,hwe,hev⟩:=hev;replace h:=h.wk hwe;split at hev
  ·rename_i hw;rw[QX h hw hops];simp only[if_true];refine .inl ?_;have hst:=qqM hT h o;unfold QC at hev;split at hev
   ·rename_i p hq;rw[hq]at hst;exact Qv hs0 hd0 h he hst fun a' w' μ' h1 h2=>ih _ _ _ _ _ _ h1 h2 hev
   ·rename_i ob mk hq;rw[hq]at hst;exact Qv hs0 hd0 h he (hst.2 _ _ (NewAt.push σ hst.1)) fun a' w' μ' h1 h2=>ih _ _ _ _ _ _ h1 h2 hev
   ·rename_i p s' hq;rw[hq]at hst;exact Qv hs0 hd0 h he hst fun a' w' μ' h1 h2=>ih _ _ _ _ _ _ h1 h2 hev
   ·rename_i f args hq;rw[hq]at hst;exact qqU hs0 hd0 h he hst hev.here fun a' w' σ' μ' p h1 h2 h3=>ih _ _ _ _ _ _ h1 h2 h3
   ·exact hev.elim
  ·rename_i hw;rw[QX h hw hops];simp only[Bool.false_eq_true,if_false];exact ih _ _ _ _ _ _ (qqd h hd0) he hev
  ·exact hev.elim
theorem rest_ok {n:Nat}(hT:∀t ti,T t=some ti→TOK P t ti){ops:Array Oper}{k:Nat}(hops:Jb n ops.toList=true){K:Env→Store→Prop}{KX:X→Env→Store→Prop}(hs0:SR σ0 μ0 w0)(hKX:∀e s,K e s→KX .nrm e s)(hk:k≤ops.size){listed:Array Bool}{σ:Store}{μ:Nat→Nat}{env:Env}{a:Act}{w:World}(hsz:listed.size=ops.size)
  (hl:∀j,j<k→listed.getD j false=true) (hu:∀j,k≤j→j<ops.size→listed.getD j false=false) (h:Sim n σ μ env a w) (he:Ext σ0 μ0 w0 σ μ w) (hev:Js P T ops k env σ K) (d:Nat):wpAny P .any ops (RQ n σ0 μ0 w0 KX) (d+(ops.size - k)) listed a w:=by
 rcases hev with⟨hB,hev⟩|hev
 ·exact any_seq hT hB hops hs0 hKX _ k listed σ μ env a w (Nat.le_refl _) hk (by omega) hsz hl hu h he hev
 ·have:listed=upTo ops k:=by
   refine Array.ext (by simp[upTo,hsz]) fun j h1 h2=> ?_;have hg:listed.getD j false=listed[j]:=by rw[Array.getD_eq_getD_getElem?,Array.getElem?_eq_getElem h1];rfl
   have:(upTo ops k)[j]=decide (j<k):=by simp[upTo]
   rw[this,←hg];rcases Nat.lt_or_ge j k with hj|hj
   ·rw[hl j hj,decide_eq_true hj]
   ·rw[hu j hj (by omega),decide_eq_false (by omega)]
  rw[this];exact any_tail hT hops hs0 hKX _ _ _ _ _ _ _ h he (evTail_le hev d)
theorem Jf {ops:Array Oper}{k j:Nat}:(qF ops k)[j]? =if j<k then ops[j]? else none:=by
 unfold qF;rw[List.getElem?_toArray,List.getElem?_take];split
 ·simp
 ·rfl
theorem wanted_to {ops:Array Oper}{k:Nat}{o:Oper}{e:Env}{b:Bool}(h:zk (qF ops k) o e=some b):zk ops o e=some b:=by
 unfold zk at*;split at h
 ·exact h
 ·rename_i j want hg;by_cases hjk:j<k
  ·rw[Jf,if_pos hjk]at h;exact h
  ·rw[Jf,if_neg hjk]at h;simp at h
theorem any_ok {n:Nat}(hT:∀t ti,T t=some ti→TOK P t ti){ops:Array Oper}{k:Nat}(hB:Yb ops k=true){H:Store}{base:Nat}(hops:Jb n ops.toList=true){K:Env→Store→Prop}{KX:X→Env→Store→Prop}(hs0:SR σ0 μ0 w0)(hKX:∀e s,K e s→KX .nrm e s)(hk:k≤ops.size):∀(fuel:Nat) (la listed:Array Bool) (σ:Store) (μ:Nat→Nat) (env:Env) (a:Act) (w:World),listed.size=ops.size→la.size=k→(∀j,j<k→la.getD j false=listed.getD j false)→(∀j,k≤j→j<ops.size→listed.getD j false=false)→Inv (qF ops k) H base la σ→Sim n σ μ env a w→Ext σ0 μ0 w0 σ μ w→
  YL P T (qF ops k) H base (fun e s=>Js P T ops k e s K) fuel la env σ→wpAny P .any ops (RQ n σ0 μ0 w0 KX) (fuel+(ops.size - k)) listed a w:=by
 intro fuel;induction fuel with
 | zero =>
  intro la listed σ μ env a w hsz hsa hla hu hinv h he hev;rcases qqF listed k with hall|⟨j0,h1,h2,h3⟩
  ·exact rest_ok hT hops hs0 hKX hk hsz hall hu h he hev.2 0
  ·have hj0:j0<ops.size:=by omega
   have:j0∈Region.ready .any (qF ops k) la:=mem_ready.2 ⟨by rw[QW (by omega) true false,hla j0 h1];exact h2,ops[j0],by rw[Jf,if_pos h1,Array.getElem?_eq_getElem hj0],fun e he' hb=>by
    have:=Yi hB (Array.getElem?_eq_getElem hj0) e he' hb;rw[hla _ (by omega)];exact h3 _ this⟩
   rw[hev.1]at this;cases this
 | succ fuel ih =>
  intro la listed σ μ env a w hsz hsa hla hu hinv h he hev;rcases qqF listed k with hall|⟨j0,h1,h2,h3⟩
  ·refine rest_ok hT hops hs0 hKX hk hsz hall hu h he (hev.1 ?_) _;refine List.eq_nil_iff_forall_not_mem.2 fun i hi=> ?_;obtain⟨k1,o,ho,_⟩:=mem_ready.1 hi;rw[Jf]at ho;split at ho
   ·rename_i hik;rw[QW (by omega) true false,hla i hik,hall i hik]at k1;cases k1
   ·cases ho
  ·have hj0:j0<ops.size:=by omega
   have hr0:j0∈Region.ready .any ops listed:=mem_ready.2 ⟨by rw[QW (by omega) true false];exact h2,ops[j0],Array.getElem?_eq_getElem hj0,fun e he' hb=>h3 _ (Yi hB (Array.getElem?_eq_getElem hj0) e he' hb)⟩;rw[show fuel+1+(ops.size - k)=(fuel+(ops.size - k))+1 by omega];refine⟨fun h0=>(by rw[h0]at hr0;cases hr0),fun i hi=> ?_⟩;obtain⟨hun,o,ho,hedge⟩:=mem_ready.1 hi;have hilt:=(Array.getElem?_eq_some_iff.1 ho).1;have hcl:∀j o,ops[j]? =some o→listed.getD j false=true→∀e∈o.after,Region.binds .any e=true→listed.getD e.on false=true:=fun j o hj hlj e he' hb=>by
    have hjk:j<k:=Nat.lt_of_not_le fun hle=>by
     rw[hu j hle (Array.getElem?_eq_some_iff.1 hj).1]at hlj;cases hlj
    have hlt:=Yi hB hj e he' hb;rw[←hla j hjk]at hlj;have:=hinv.closed j o (by rw[Jf,if_pos hjk];exact hj) hlj e he' hb;rw[hla _ (by omega)]at this;exact this
   have hik:i<k:=Nat.lt_of_not_le fun hle=>by
    have:=Jm hcl _ i j0 o ho hedge (chkE_waits hB hilt hle (by omega));rw[h2]at this;cases this
   have hoA:(qF ops k)[i]? =some o:=by rw[Jf,if_pos hik];exact ho
   have hiA:i∈Region.ready .any (qF ops k) la:=mem_ready.2 ⟨by rw[QW (by omega) true false,hla i hik,QW (by omega) false true];exact hun,o,hoA,fun e he' hb=>by
    have:=Yi hB ho e he' hb;rw[hla _ (by omega)];exact hedge e he' hb⟩
   have h1:=hev.2 i hiA;have hd0:∀t,o.dst=some t→t<n:=dst_lt hops (by simpa using Array.mem_of_getElem? ho);unfold evOp at h1;unfold wpOp;rw[hoA]at h1;rw[ho];simp only at h1 ⊢;have h2:=zzj hinv hiA hoA h1;have go:=fun σ μ env a w=>ih (la.setIfInBounds i true) (listed.setIfInBounds i true) σ μ env a w (by simpa using hsz) (by simpa using hsa) (fun j hj=>by
    rw[Yv (by omega),Yv (by omega),hla j hj]) (fun j hj hjs=>by
    rw[Yv (by omega),if_neg (by omega)];exact hu j hj hjs)
   unfold zb at h2;split at h2
   ·rename_i hw;rw[QX h (wanted_to hw) hops];simp only[if_true];refine .inl ?_;have hst:=qqM hT h o;unfold zS at h2;split at h2
    ·split at h2
     ·rename_i p hq;rw[hq]at hst;exact Qv hs0 hd0 h he hst fun a' w' μ' k1 k2=>go _ _ _ _ _ h2.1 k1 k2 h2.2
     ·rename_i p s' hq;rw[hq]at hst;exact Qv hs0 hd0 h he hst fun a' w' μ' k1 k2=>go _ _ _ _ _ h2.2.1 k1 k2 h2.2.2
     ·rename_i f args hq;rw[hq]at hst;exact qqU hs0 hd0 h he hst h2.here fun a' w' σ' μ' p k1 k2 k3=>go _ _ _ _ _ k3.2.1 k1 k2 k3.2.2
     ·exact h2.elim
    ·have hk':=qqu (T:=T) o.op env H;split at h2
     ·rename_i p hq;rw[hq]at hk';cases hk' with
      | val _ hv =>
       rw[hv σ hinv.sub]at hst;exact Qv hs0 hd0 h he hst fun a' w' μ' k1 k2=>go _ _ _ _ _ h2.1 k1 k2 h2.2
     ·rename_i ob mk hq;have hn:=JO hq;rw[hq]at hk';cases hk' with
      | new _ _ hv =>
       rw[hv σ]at hst;exact Qv hs0 hd0 h he (hst.2 _ _ (NewAt.slot (hinv.res i o hoA hn.1 (by rw[QW (by omega) true false,hla i hik,QW (by omega) false true];exact hun)) hst.1)) fun a' w' μ' k1 k2=>go _ _ _ _ _ h2.1 k1 k2 h2.2
     ·exact h2.elim
   ·rename_i hw;rw[QX h (wanted_to hw) hops];simp only[Bool.false_eq_true,if_false];exact go _ _ _ _ _ h2.1 (qqd h hd0) he h2.2
   ·exact h2.elim
theorem draw_ok {n:Nat}(hT:∀t ti,T t=some ti→TOK P t ti){id:Nat}{ops:Array Oper}(hops:Jb n ops.toList=true){K:X→Env→Store→Prop}(hs0:SR σ0 μ0 w0){env:Env}{a:Act}(h:Sim n σ μ env a w)(he:Ext σ0 μ0 w0 σ μ w)(hev:JW P T ops env σ (K .nrm)):
  (Code.region id ops true).wp P (RQ n σ0 μ0 w0 K) a w:=by
 obtain⟨h1,k,H,hB,h2,h3⟩:=evDraw_any hev;have hk:=chkE_le hB;have hg:w.grownBy {w with drawn:=w.drawn+1} none:=⟨rfl,rfl,rfl,Nat.le_refl _,fun _ _ _=>rfl⟩;have e1:=JE h.sr hg;have s1:=qqN h.sr hg;have e2:=ext_reps s1 (QB (qF ops k));have hsz:(qF ops k).size=k:=by simp[qF];omega
 rw[hsz]at h2 h3;have:=any_ok hT hB hops hs0 (fun _ _ hk=>hk) hk _ _ (Array.replicate ops.size false) _ μ env a _ (by simp) (by simp) (fun j hj=>by rw[Array.getD_eq_getD_getElem?,Array.getD_eq_getD_getElem?,Array.getElem?_replicate,Array.getElem?_replicate,if_pos hj,if_pos (by omega)]) (fun j _ hj=>by rw[Array.getD_eq_getD_getElem?,Array.getElem?_replicate,if_pos hj];rfl) h2 ((h.ext e1 s1).ext e2 (sr_reps s1 _)) ((he.trans hs0 e1).trans hs0 e2) h3;rw[show k+(ops.size - k)=ops.size by omega]at this;exact wp_region_any h1 this
theorem ev_ok {n:Nat}(hT:∀t ti,T t=some ti→TOK P t ti)(hs0:SR σ0 μ0 w0):∀(c:Code) (K:X→Env→Store→Prop) (σ:Store) (μ:Nat→Nat) (env:Env) (a:Act) (w:World),Qm n c=true→Sim n σ μ env a w→Ext σ0 μ0 w0 σ μ w→ev P T c env σ K→c.wp P (RQ n σ0 μ0 w0 K) a w:=by
 intro c;induction c with
 |skip=>intro K σ μ env a w _ h he hev;exact wp_skip ⟨.nrm,env,σ,μ,trivial,h,he,hev⟩
 |label l=>intro K σ μ env a w _ h he hev;exact wp_label ⟨.nrm,env,σ,μ,trivial,h,he,hev⟩
 |exit id=>intro K σ μ env a w _ h he hev;exact wp_exit ⟨.ext id,env,σ,μ,rfl,h,he,hev⟩
 |ret=>intro K σ μ env a w _ h he hev;exact wp_ret ⟨.ret,env,σ,μ,trivial,h,he,hev⟩
 | region id ops draw =>
  intro K σ μ env a w hc h he hev;cases draw with
  |false=>exact wp_region_list (YT hT hc hs0 (fun _ _ h=>h) ops.toList σ μ env a w hc h he hev)
  |true=>exact draw_ok hT hc hs0 h he hev
 | seq x y ihx ihy =>
  intro K σ μ env a w hc h he hev;simp only[Qm,Bool.and_eq_true]at hc;refine wp_seq (wp_mono (ihx _ σ μ env a w hc.1 h he hev) fun e a' w' hq=> ?_);obtain⟨z,env',σ',μ',h1,h2,h3,h4⟩:=hq;cases e<;>cases z<;>first|exact h1.elim|skip
  ·obtain⟨e2,s2,hw,h4⟩:=h4;obtain⟨μ2,k1,k2⟩:=h2.gh hw;exact ihy K s2 μ2 e2 a' w' hc.2 k1 (h3.trans hs0 k2) h4
  ·exact⟨_,env',σ',μ',h1,h2,h3,h4⟩
  ·exact⟨_,env',σ',μ',h1,h2,h3,h4⟩
 | cond c x y ihx ihy =>
  intro K σ μ env a w hc h he hev;simp only[Qm,Bool.and_eq_true]at hc;simp only[ev]at hev;split at hev
  ·rename_i t hv;have hR:=h.val c;rw[hv]at hR;refine wp_cond (R_v hR) ?_;cases t with
   |true=>exact ihx K σ μ env a w hc.1 h he hev
   |false=>exact ihy K σ μ env a w hc.2 h he hev
  ·rename_i hv;have hR:=h.val c;rw[hv]at hR;have hb:∃t,a.eval c=.bool t:=by generalize a.eval c=z at hR;cases hR;exact⟨_,rfl⟩
   obtain⟨t,ht⟩:=hb;refine wp_cond ht ?_;cases t with
   |true=>exact ihx K σ μ env a w hc.1 h he hev.1
   |false=>exact ihy K σ μ env a w hc.2 h he hev.2
  ·exact hev.elim
 | block id c ih =>
  intro K σ μ env a w hc h he hev;refine wp_block (wp_mono (ih _ σ μ env a w hc h he hev) fun e a' w' hq=> ?_);obtain⟨z,env',σ',μ',h1,h2,h3,h4⟩:=hq;cases e<;>cases z<;>first|exact h1.elim|skip
  ·exact⟨.nrm,env',σ',μ',trivial,h2,h3,h4⟩
  ·rename_i i j;have hij:i=j:=h1;subst hij;simp only[Exit.inBlock];split
   ·rename_i hid;simp only[hid,if_true]at h4;exact⟨.nrm,env',σ',μ',trivial,h2,h3,h4⟩
   ·rename_i hid;simp only[hid,if_false]at h4;exact⟨.ext i,env',σ',μ',rfl,h2,h3,h4⟩
  ·exact⟨.ret,env',σ',μ',trivial,h2,h3,h4⟩
 | loop c ih =>
  intro K σ μ env a w hc h he hev;refine hev (fun e s=>∀μ a w,Sim n s μ e a w→Ext σ0 μ0 w0 s μ w→(Code.loop c).wp P (RQ n σ0 μ0 w0 K) a w) (fun e s ⟨e2,s2,hw,hr⟩ μ a w h he=> ?_) μ a w h he;obtain⟨μ2,k1,k2⟩:=h.gh hw;refine wp_unroll (fun l a w hq=> ?_) (fun l a w hq=> ?_) (fun a w hq=> ?_) (wp_mono (ih _ s2 μ2 e2 a w hc k1 (he.trans hs0 k2) hr) fun x a' w' hq=> ?_)
  ·obtain⟨z,_,_,_,h1,_⟩:=hq;cases z<;>exact h1
  ·obtain⟨z,_,_,_,h1,_⟩:=hq;cases z<;>exact h1
  ·obtain⟨z,_,_,_,h1,_⟩:=hq;cases z<;>exact h1
  ·obtain⟨z,env',σ',μ',h1,h2,h3,h4⟩:=hq;cases x<;>cases z<;>first|exact h1.elim|skip
   ·exact h4 μ' a' w' h2 h3
   ·exact⟨_,env',σ',μ',h1,h2,h3,h4⟩
   ·exact⟨_,env',σ',μ',h1,h2,h3,h4⟩
 | scope c ih =>
  intro K σ μ env a w hc h he hev;refine wp_scope_straight (wp_mono (ih K σ μ env a w hc h he hev) fun x a' w' hq=> ?_);obtain⟨z,env',σ',μ',h1,h2,h3,h4⟩:=hq;cases x<;>cases z<;>first|exact h1.elim|exact⟨_,env',σ',μ',h1,h2,h3,h4⟩
 |_=>intro K σ μ env a w _ h he hev;exact hev.elim
end
section
variable {P:Program} {T:TypeId→Option TI} {σ σ' σ0 s s':Store} {μ μ' μ0:Nat→Nat} {w w' w0:World} {e:Env}
theorem enters_ {f:FuncId}{fn:Func}{c:Code}(hf:P.funcs[f]? =some fn)(hname:(fn.name== "runtime.NumGoroutine")=false)(hb:fn.body=some c)(args:Array Value)(w:World):(callFunc f args).run P w=.ok (.enter f args) w:=by
 have hc:fn.name≠ "runtime.NumGoroutine" :=by simpa using hname
 simp[callFunc,hf,hb,hc]
def Ze (T:TypeId→Option TI)(e:Env)(s:Store)(r:ResultVar):Option PV:=match r with
 | .tmp t=>some (e t)
 | .cell a t => match T t, e a with
  | some ti, .pt id off => match s[id]? with
   |some (some (.box _ cells))=>zd ti cells off
   |_=>none
  |_,_=>none
theorem resA_eq (rs:Array ResultVar):Yy T rs e s=(match rs.toList.mapM (Ze T e s)with|some [p]=>some p|some ps=>some (.tu ps)|none=>none):=rfl
theorem resOne_sub {r:ResultVar}{p:PV}(hs:sub s s')(h:Ze T e s r=some p):Ze T e s' r=some p:=by
 cases r with
 |tmp t=>exact h
 | cell a t =>
  unfold Ze at h ⊢;simp only at h ⊢;split at h
  ·rename_i ti id off h1 h2;split at h
   ·rename_i bt cells ho;rw[hs.get ho (by simp)];exact h
   ·cases h
  ·cases h
theorem mapM_sub (hs:sub s s'):∀(l:List ResultVar) {ps:List PV},l.mapM (Ze T e s)=some ps→l.mapM (Ze T e s')=some ps
 |[],ps,h=>h
 | r :: l, ps, h => by
  simp only[List.mapM_cons,Option.bind_eq_bind,Option.bind_eq_some_iff,Option.pure_def]at h ⊢;obtain⟨p,h1,qs,h2,h3⟩:=h;exact⟨p,resOne_sub hs h1,qs,mapM_sub hs l h2,h3⟩
theorem resA_sub {rs:Array ResultVar}{p:PV}(hs:sub s s')(h:Yy T rs e s=some p):Yy T rs e s'=some p:=by
 rw[resA_eq]at h ⊢;cases hm:rs.toList.mapM (Ze T e s)with
 |none=>rw[hm]at h;cases h
 | some ps =>
  rw[mapM_sub hs _ hm];rw[hm]at h;exact h
def resS (tmps:Array Value):ResultVar→Sem Value
 | .tmp t=>pure (tmps.getD t undef)
 | .cell a t=>do loadVar t (←asAddr (tmps.getD a undef))
theorem resOne_ok {n:Nat}(hT:∀t ti,T t=some ti→TOK P t ti){a:Act}(h:Sim n σ μ e a w){r:ResultVar}{p:PV}(hr:Ze T e σ r=some p):∃x,(resS a.tmps r).run P w=.ok x w∧R σ μ w x p:=by
 cases r with
 | tmp t =>
  simp only[Ze,Option.some.injEq]at hr;exact⟨_,rfl,hr▸h.env t⟩
 | cell c t =>
  simp only[Ze]at hr;split at hr
  ·rename_i ti id off h1 h2;split at hr
   ·rename_i bt cells ho;have hx:=h.env c;rw[h2]at hx;obtain⟨y,h3,h4⟩:=load_pt h.sr (hT _ _ h1) hx ho hr;refine⟨y,?_,h4⟩;simp only[resS,asAddr,Sem.run_bind,Sem.run_pure,Result.andThen_ok];generalize a.tmps.getD c undef=v at hx h3 ⊢;cases hx with
    | pt _ _ _ _ _ h5 =>
     obtain rfl:=h5 ⟨_,_,ho,by simp⟩;simpa [Instr.loadAt,Instr.sureAddr] using h3
   ·cases hr
  ·cases hr
theorem mapM_ok {n:Nat}(hT:∀t ti,T t=some ti→TOK P t ti){a:Act}(h:Sim n σ μ e a w):∀(l:List ResultVar) {ps:List PV},l.mapM (Ze T e σ)=some ps→∃vs:List Value,(l.mapM (resS a.tmps)).run P w=.ok vs w∧vs.length=ps.length∧∀(i:Nat) x p,vs[i]? =some x→ps[i]? =some p→R σ μ w x p
 | [], ps, hm => by
  simp only[List.mapM_nil,Option.pure_def,Option.some.injEq]at hm;subst hm;exact⟨[],by simp,rfl,fun i x p hx=>by simp at hx⟩
 | r :: l, ps, hm => by
  simp only[List.mapM_cons,Option.bind_eq_bind,Option.bind_eq_some_iff,Option.pure_def,Option.some.injEq]at hm;obtain⟨p,h1,qs,h2,rfl⟩:=hm;obtain⟨x,h3,h4⟩:=resOne_ok hT h h1;obtain⟨vs,h5,h6,h7⟩:=mapM_ok hT h l h2;refine⟨x::vs,by simp[h3,h5],by simp[h6],fun i y q hy hq=> ?_⟩;cases i with
  |zero=>simp at hy hq;subst hy hq;exact h4
  |succ i=>simp at hy hq;exact h7 i y q hy hq
theorem res_ok {n:Nat}(hT:∀t ti,T t=some ti→TOK P t ti){a:Act}(h:Sim n σ μ e a w){fn:Func}{p:PV}(hr:Yy T fn.results e σ=some p):∃v,(results fn a.tmps).run P w=.ok v w∧R σ μ w v p:=by
 rw[resA_eq]at hr;cases hm:fn.results.toList.mapM (Ze T e σ)with
 |none=>rw[hm]at hr;cases hr
 | some ps =>
  rw[hm]at hr;obtain⟨vs,h1,h2,h3⟩:=mapM_ok hT h _ hm;have hrun:(results fn a.tmps).run P w=.ok (if h:vs.toArray.size=1 then vs.toArray[0]else .tuple vs.toArray) w:=by
   have:(fn.results.mapM (resS a.tmps))=List.toArray<$>fn.results.toList.mapM (resS a.tmps):=Array.mapM_eq_mapM_toList ..;have h4:results fn a.tmps=(do let vs ←fn.results.mapM (resS a.tmps);pure (if h:vs.size=1 then vs[0]else .tuple vs)):=rfl;rw[h4,this];simp only[Sem.run_bind,map_eq_pure_bind,bind_assoc,h1,Result.andThen_ok,Sem.run_pure,pure_bind]
  refine⟨_,hrun,?_⟩
  match ps,vs,h2,h3,hr with
  | [q], [x], _, h3, hr =>
   simp only[Option.some.injEq]at hr;subst hr;simp;exact h3 0 x q rfl rfl
  | [], [], _, h3, hr =>
   simp only[Option.some.injEq]at hr;subst hr;simp;exact .tu #[] [] rfl fun i x p hx=>by simp at hx
  | q :: q' :: qs, x :: x' :: xs, h2, h3, hr =>
   simp only[Option.some.injEq]at hr;subst hr;simp;exact .tu _ _ (by simpa using h2) fun i y p hy hp=>h3 i y p (by simpa using hy) hp
def Bd (T:TypeId→Option TI)(fn:Func)(K:PV→Store→Prop)(x:X)(e:Env)(s:Store):Prop:=match x with
 | .ext _=>False
 |_=>∃r,Yy T fn.results e s=some r∧K r s
theorem ECs.intro {f:FuncId}{fn:Func}{c:Code}{args:List PV}{K:PV→Store→Prop}(hT:∀t ti,T t=some ti→TOK P t ti)(hf:P.funcs[f]? =some fn)(hname:(fn.name== "runtime.NumGoroutine")=false)(hb:fn.body=some c)(hc:Qm fn.ntmps c=true)(hn:args.length≤fn.ntmps)
  (h:ev P T c (qu args) σ (Bd T fn K)):ECs P f args σ K:=by
 intro μ w vs hs hvs;refine .inl ⟨enters_ hf hname hb vs w,calls_of_wp hf hb ?_⟩;have hsim:Sim fn.ntmps σ μ (qu args) {tmps:=vs++Array.replicate (fn.ntmps - vs.size) undef,defers:=[]} w:=by
  refine⟨hs,fun t=> ?_,by have:=hvs.1;simp;omega,rfl⟩;rw[argE_at];by_cases ht:t<args.length
  ·have ht':t<vs.size:=by rw[hvs.1];exact ht
   rw[List.getD_eq_getElem?_getD,List.getElem?_eq_getElem ht,Array.getD_eq_getD_getElem?,Array.getElem?_append_left ht',Array.getElem?_eq_getElem ht'];exact hvs.2 t _ _ (Array.getElem?_eq_getElem ht') (List.getElem?_eq_getElem ht)
  ·rw[List.getD_eq_getElem?_getD,List.getElem?_eq_none (by omega)];exact .any _
 refine wp_mono (ev_ok hT hs c _ σ μ _ _ w hc hsim (Ext.refl _ _ _) h) fun x a w' hq=> ?_;obtain⟨y,e',σ',μ',h1,h2,h3,h4⟩:=hq;have fin:(∃r,Yy T fn.results e' σ'=some r∧K r σ')→a.defers=[]∧∃v,(results fn a.tmps).run P w'=.ok v w'∧∃x,Ending.returned v=.returned x∧∃r σ' μ',Ext σ μ w σ' μ' w'∧SR σ' μ' w'∧R σ' μ' w' x r∧K r σ':=by
  rintro⟨r,hr,hk⟩
  obtain⟨v,hv,hR⟩:=res_ok hT h2 hr;exact⟨h2.defs,v,hv,v,rfl,r,σ',μ',h3,h2.sr,hR,hk⟩
 cases x<;>cases y<;>first|exact h1.elim|exact h4.elim|exact fin h4
theorem Bd.frame {fn:Func}{F:Nat→Option AObj}{K:PV→Store→Prop}{x:X}(h:overX σ F (Bd T fn K) x e s):Bd T fn (fun r s=>∃s0,s=ov s0 F∧qr σ s0∧K r s0) x e s:=by
 obtain⟨s0,h1,h2,h3⟩:=h;cases x with
 |ext i=>exact h3
 | nrm =>
  obtain⟨r,h4,h5⟩:=h3;exact⟨r,by rw[h1];exact resA_sub JK h4,s0,h1,h2,h5⟩
 | ret =>
  obtain⟨r,h4,h5⟩:=h3;exact⟨r,by rw[h1];exact resA_sub JK h4,s0,h1,h2,h5⟩
theorem EC.intro {f:FuncId}{fn:Func}{c:Code}{args:List PV}{K:PV→Store→Prop}(hT:∀t ti,T t=some ti→TOK P t ti)(hf:P.funcs[f]? =some fn)(hname:(fn.name== "runtime.NumGoroutine")=false)(hb:fn.body=some c)(hc:Qm fn.ntmps c=true)(hn:args.length≤fn.ntmps)
  (h:ev P T c (qu args) σ (Bd T fn K)):EC P f args σ K:=by
 refine⟨?_,fun F hF=>ECs.intro hT hf hname hb hc hn (Qj c (fun x e s hx=>Bd.frame hx) _ _ (ev_frame c hF _ h))⟩;obtain⟨x,e',s',h1,h2⟩:=ev_sat c σ _ h;cases x with
 |ext i=>exact h2.elim
 |nrm=>obtain⟨r,_,h3⟩:=h2;exact⟨r,s',h1,h3⟩
 |ret=>obtain⟨r,_,h3⟩:=h2;exact⟨r,s',h1,h3⟩
theorem Qk {ex:Store}{i:Nat}{o:AObj}(h:live σ i o):live (σ++ex) i o:=⟨by rw[List.getElem?_append_left (List.getElem?_eq_some_iff.1 h.1).1];exact h.1,h.2⟩
def Cl (n:Nat)(p:PV):Prop:=∀(σ ex:Store) μ w v,n≤σ.length→R (σ++ex) μ w v p→R σ μ w v p
theorem owned_app {ex:Store}{g off:Nat}(h:owned σ μ g off):owned (σ++ex) μ g off:=by
 obtain⟨id,o,h1,h2⟩:=h;exact⟨id,o,Qk h1,h2⟩
theorem StC.cut {ex:Store}{a:Addr}{x:Value}(h:StC (σ++ex) μ w a x):StC σ μ w a x:=⟨h.1,fun ho=>h.2 (owned_app ho)⟩
theorem Zw {ex:Store}{i:Nat}(h:known (σ++ex) i)(hi:i<σ.length):known σ i:=⟨hi,by have:=h.2;rwa [List.getElem?_append_left hi]at this⟩
theorem Cl.v {n:Nat}(x:Value):Cl n (.v x):=fun σ ex μ w v _ h=>by cases h with|v _ h1=>exact .v _ h1
theorem Cl.any {n:Nat}:Cl n .any:=fun σ ex μ w v _ h=>.any _
theorem Cl.e0 {n:Nat}:Cl n .e0:=fun σ ex μ w v _ h=>by cases h;exact .e0 _
theorem qqS {ex:Store}{i:Nat}(h:zV σ i):zV (σ++ex) i:=by
 unfold zV at h ⊢;rw[List.getElem?_append_left (List.getElem?_eq_some_iff.1 h).1];exact h
theorem Cl.bb {n:Nat}:Cl n .bb:=fun σ ex μ w v _ h=>by cases h;exact .bb _
theorem Cl.nv {n:Nat}:Cl n .nv:=fun σ ex μ w v _ h=>by cases h;exact .nv _
theorem Cl.vc {n id len:Nat}(hi:id<n):Cl n (.vc id len):=fun σ ex μ w v hn h=>by
 cases h with
 |vc _ _ _ h1 h2 hh h3=>exact .vc _ _ _ (Zw h1 (by omega)) h2 (fun hx=>hh (qqS hx)) fun e sz m ⟨c,hb⟩=>h3 e sz m ⟨c,Qk hb⟩
theorem Cl.vq {n id len off:Nat}(hi:id<n):Cl n (.vq id len off):=fun σ ex μ w v hn h=>by
 cases h with
 |vq _ _ _ _ h1 h2 hh h3=>exact .vq _ _ _ _ (Zw h1 (by omega)) h2 (fun hx=>hh (qqS hx)) fun e sz m ⟨c,hb⟩=>h3 e sz m ⟨c,Qk hb⟩
theorem Cl.pt {n id off:Nat}(hi:id<n):Cl n (.pt id off):=fun σ ex μ w v hn h=>by
 cases h with
 |pt _ _ _ h1 h2 h3=>exact .pt _ _ _ (Zw h1 (by omega)) h2 fun⟨t,c,hb⟩=>h3 ⟨t,c,Qk hb⟩
theorem Cl.ms {n id sz len:Nat}(hi:id<n):Cl n (.ms id sz len):=fun σ ex μ w v hn h=>by
 cases h with
 |ms _ _ _ _ h1 h2 h3=>exact .ms _ _ _ _ (Zw h1 (by omega)) h2 fun⟨t,c,hb⟩=>h3 ⟨t,c,Qk hb⟩
theorem Cl.mp {n id:Nat}(hi:id<n):Cl n (.mp id):=fun σ ex μ w v hn h=>by
 cases h with
 |mp _ _ h1 h2 h3=>exact .mp _ _ (Zw h1 (by omega)) h2 fun⟨k,t,c,hb⟩=>h3 ⟨k,t,c,Qk hb⟩
theorem Cl.sl {n:Nat}{rows:List (List PV)}(hr:∀r∈rows,∀p∈r,Cl n p):Cl n (.sl rows):=fun σ ex μ w v hn h=>by
 cases h with
 |sl0 A c=>exact .sl0 A c
 |sl a c sz _ u h1 h2 h3 h4 h5=>exact .sl a c sz _ u h1 h2 (fun i j hi hj=>(h3 i j hi hj).cut) h4 fun i j r p h6 h7=>hr r (List.mem_of_getElem? h6) p (List.mem_of_getElem? h7) σ ex μ w _ hn (h5 i j r p h6 h7)
theorem Cl.ow {n t:Nat}{rows:List (List PV)}(ht:t<n)(hr:Cl n (.sl rows)):Cl n (.ow t rows):=fun σ ex μ w v hn h=>by
 cases h with
 |ow _ _ _ h1 h2 hh h3=>exact .ow _ _ _ (hr σ ex μ w _ hn h1) (Zw h2 (by omega)) (fun hx=>hh (qqS hx)) fun e sz len hl=>h3 e sz len (Qk hl)
theorem Cl.rp {n off:Nat}{row:List PV}(hr:∀p∈row,Cl n p):Cl n (.rp row off):=fun σ ex μ w v hn h=>by
 cases h with
 |rp b _ _ u h1 h2 h3=>exact .rp b _ _ u (fun j hj=>(h1 j hj).cut) h2 fun j p hp=>hr p (List.mem_of_getElem? hp) σ ex μ w _ hn (h3 j p hp)
theorem Cl.ag {n:Nat}{ps:List PV}(hr:∀p∈ps,Cl n p):Cl n (.ag ps):=fun σ ex μ w v hn h=>by
 cases h with
 |ag vs _ h1 h2 h3=>exact .ag vs _ h1 h2 fun i x p hx hp=>hr p (List.mem_of_getElem? hp) σ ex μ w _ hn (h3 i x p hx hp)
theorem Cl.tu {n:Nat}{ps:List PV}(hr:∀p∈ps,Cl n p):Cl n (.tu ps):=fun σ ex μ w v hn h=>by
 cases h with
 |tu vs _ h1 h3=>exact .tu vs _ h1 fun i x p hx hp=>hr p (List.mem_of_getElem? hp) σ ex μ w _ hn (h3 i x p hx hp)
theorem Cl.fn {n:Nat}{f:FuncId}{ps qs:List PV}(hr:∀p∈ps,Cl n p)(hq:∀p∈qs,Cl n p):Cl n (.fn f ps qs):=fun σ ex μ w v hn h=>by
 cases h with
 |fn _ vs cs _ _ h1 h2 h3 h4=>exact .fn f vs cs _ _ h1 h2 (fun i x p hx hp=>hr p (List.mem_of_getElem? hp) σ ex μ w _ hn (h3 i x p hx hp)) (fun i x p hx hp=>hq p (List.mem_of_getElem? hp) σ ex μ w _ hn (h4 i x p hx hp))
theorem Cl.ifc {n:Nat}{t:TypeId}{p:PV}(hr:Cl n p):Cl n (.ifc t p):=fun σ ex μ w v hn h=>by
 cases h with
 |ifc _ x _ h1=>exact .ifc t x _ (hr σ ex μ w _ hn h1)
theorem R.Cl {v:Value}{p:PV}(h:R σ μ w v p):Cl σ.length p:=by
 induction h with
 |v x hx=>exact E.Cl.v x
 |e0 A=>exact .e0
 |nv A=>exact .nv
 |vc id len v h1 h2 _ h3=>exact .vc h1.1
 |vq id len off v h1 h2 _ h3=>exact .vq h1.1
 |sl0 A c=>exact .sl (by simp)
 | sl a c sz rows u h1 h2 h3 h4 h5 ih =>
  refine .sl fun r hr p hp=> ?_;obtain⟨i,h6⟩:=List.getElem?_of_mem hr;obtain⟨j,h7⟩:=List.getElem?_of_mem hp;exact ih i j r p h6 h7
 |ow t rows v h1 h2 _ h3 ih=>exact .ow h2.1 ih
 | rp b row off u h1 h2 h3 ih =>
  refine .rp fun p hp=> ?_;obtain⟨j,h7⟩:=List.getElem?_of_mem hp;exact ih j p h7
 |pt id off v h1 h2 h3=>exact .pt h1.1
 |ms id sz len v h1 h2 h3=>exact .ms h1.1
 |mp id v h1 h2 h3=>exact .mp h1.1
 | ag vs ps h1 h2 h3 ih =>
  refine .ag fun p hp=> ?_;obtain⟨j,h7⟩:=List.getElem?_of_mem hp;have hj:=(List.getElem?_eq_some_iff.1 h7).1;exact ih j _ p (Array.getElem?_eq_getElem (by omega)) h7
 | tu vs ps h1 h2 ih =>
  refine .tu fun p hp=> ?_;obtain⟨j,h7⟩:=List.getElem?_of_mem hp;have hj:=(List.getElem?_eq_some_iff.1 h7).1;exact ih j _ p (Array.getElem?_eq_getElem (by omega)) h7
 | fn f vs cs ps qs h1 h2 h3 h4 ih1 ih2 =>
  refine .fn (fun p hp=> ?_) fun p hp=> ?_
  ·obtain⟨j,h7⟩:=List.getElem?_of_mem hp;have hj:=(List.getElem?_eq_some_iff.1 h7).1;exact ih1 j _ p (Array.getElem?_eq_getElem (by omega)) h7
  ·obtain⟨j,h7⟩:=List.getElem?_of_mem hp;have hj:=(List.getElem?_eq_some_iff.1 h7).1;exact ih2 j _ p (Array.getElem?_eq_getElem (by omega)) h7
 |ifc t x p h1 ih=>exact .ifc ih
 |bb b=>exact .bb
 |any v=>exact .any
end
section
variable {P:Program} {T:TypeId→Option TI} {σ σ' σ0 s s' ex:Store} {μ μ' μ0:Nat→Nat} {w w' w0:World} {e:Env} {F:Nat→Option AObj}
def ClO (n:Nat):AObj→Prop
 | .box _ cells=>∀c∈cells,Cl n c
 | .map _ m _=>∀k p,m k=some p→Cl n p
 | .vec _ _ _ cells=>∀c∈cells,Cl n c
 |_=>True
theorem SR.ClO (h:SR σ μ w){i:Nat}{o:AObj}(hl:live σ i o):ClO σ.length o:=by
 have ho:=h.obj i o hl;cases o with
 |res=>trivial
 |hol=>trivial
 |tok e sz len=>trivial
 | box t cells =>
  obtain⟨cs,_,h2,_,h4⟩:=ho;intro c hc;obtain⟨j,hj⟩:=List.getElem?_of_mem hc;have hlt:=(List.getElem?_eq_some_iff.1 hj).1;exact(h4 j _ c (Array.getElem?_eq_getElem (by omega)) hj).Cl
 | vec e sz len cells =>
  obtain⟨cs,_,_,h2,_,h4⟩:=ho;intro c hc;obtain⟨j,hj⟩:=List.getElem?_of_mem hc;have hlt:=(List.getElem?_eq_some_iff.1 hj).1;exact(h4 j _ c (Array.getElem?_eq_getElem (by omega)) hj).Cl
 | map kk m n =>
  obtain⟨es,clock,_,_,_,h4,h5⟩:=ho;intro k p hk;obtain⟨i,en,he,hke⟩:=h5 k p hk;obtain⟨_,p',hp',hR⟩:=h4 i en he;rw[hke,hk]at hp';injection hp' with hp';subst hp';exact hR.Cl
theorem ORep.cut {g:Nat}{o:AObj}(hc:E.ClO σ.length o)(h:ORep (σ++ex) μ w g o):ORep σ μ w g o:=by
 cases o with
 |res=>trivial
 |hol=>trivial
 |tok e sz len=>exact h
 | box t cells =>
  obtain⟨cs,h1,h2,h3,h4⟩:=h;exact⟨cs,h1,h2,h3,fun i x p hx hp=>hc p (List.mem_of_getElem? hp) σ ex μ w x (Nat.le_refl _) (h4 i x p hx hp)⟩
 | vec e sz len cells =>
  obtain⟨cs,h1,h2,h3,h4,h5⟩:=h;exact⟨cs,h1,h2,h3,h4,fun i x p hx hp=>hc p (List.mem_of_getElem? hp) σ ex μ w x (Nat.le_refl _) (h5 i x p hx hp)⟩
 | map kk m n =>
  obtain⟨es,clock,h1,h2,h3,h4,h5⟩:=h;refine⟨es,clock,h1,h2,h3,fun i en he=> ?_,h5⟩;obtain⟨k1,p,k2,k3⟩:=h4 i en he;exact⟨k1,p,k2,hc _ p k2 σ ex μ w _ (Nat.le_refl _) k3⟩
theorem Ext.cut (hl:σ0.length=σ.length)(h:Ext σ0 μ0 w0 (σ++ex) μ w):Ext σ0 μ0 w0 σ μ w where
 os:=h.os
 tape:=h.tape
 output:=h.output
 size:=h.size
 len:=by omega
 known:=fun i hi=>Zw (h.known i hi) (by have:=hi.1;omega)
 keep:=h.keep
 tok:=h.tok
 hol:=fun i hk hh=>h.hol i hk (qqS hh)
 evo:=fun i o hk ho=>h.evo i o hk (Qk ho)
 fresh:=fun i o ho=>h.fresh i o (Qk ho)
theorem SR.cut (hc:∀i o,live σ i o→E.ClO σ.length o)(h:SR (σ++ex) μ w):SR σ μ w:=
 ⟨fun i j o o' hi hj=>h.inj i j o o' (Qk hi) (Qk hj),fun i o ho=>(h.obj i o (Qk ho)).cut (hc i o ho)⟩
theorem ov_split (σ ex:Store)(F:Nat→Option AObj):∃ex',ov (σ++ex) F=ov σ F++ex':=by
 unfold ov;rw[List.mapIdx_append];exact⟨_,rfl⟩
theorem EC.drop {f:FuncId}{args:List PV}{K:PV→Store→Prop}
  (h:EC P f args σ fun r s=>∃σ' ex,s=σ'++ex∧σ'.length=σ.length∧(∀i ob,live σ' i ob→live σ i ob∨ClO σ.length ob)∧Cl σ.length r∧K r σ'):EC P f args σ K:=by
 have kr:∀{σ' ex:Store},σ'.length=σ.length→qr σ (σ'++ex)→qr σ σ':=fun hl hk i hi=>by
  have:=hk i hi
  rwa [List.getElem?_append_left (by have:=(List.getElem?_eq_some_iff.1 hi).1;omega)]at this
 refine⟨?_,fun F hF μ w vs hs hvs=> ?_⟩
 ·obtain⟨r,s,h1,σ',ex,rfl,hl,_,_,hk⟩:=h.1;exact⟨r,σ',kr hl h1,hk⟩
 ·have fin : ∀ x w', (∃ r σ1 μ', Ext (ov σ F) μ w σ1 μ' w' ∧ SR σ1 μ' w' ∧ R σ1 μ' w' x r ∧ ∃ s0, σ1 = ov s0 F ∧ qr σ s0 ∧ ∃ σ' ex, s0 = σ' ++ ex ∧ σ'.length = σ.length ∧ (∀ i ob, live σ' i ob → live σ i ob ∨ ClO σ.length ob) ∧ Cl σ.length r ∧ K r σ') →
    ∃r σ1 μ',Ext (ov σ F) μ w σ1 μ' w'∧SR σ1 μ' w'∧R σ1 μ' w' x r∧∃s0,σ1=ov s0 F∧qr σ s0∧K r s0:=by
   rintro x w' ⟨r,σ1,μ',k1,k2,k3,s0,rfl,k5,σ',ex,rfl,hl,hob,hr,hk⟩
   obtain⟨ex',he⟩:=ov_split σ' ex F;rw[he]at k1 k2 k3;have hkr:=kr hl k5;have hlen:(ov σ' F).length=σ.length:=by rw[QU,hl]
   refine⟨r,ov σ' F,μ',k1.cut (by rw[QU,QU,hl]),k2.cut fun i o ho=> ?_,hr _ _ _ _ _ (by omega) k3,σ',rfl,hkr,hk⟩;rw[hlen];have hfin:live (ov σ F) i o→ClO σ.length o:=fun hi=>by
    have:=hs.ClO hi
    rwa [QU]at this
   cases hf:F i with
   | none =>
    have:live σ' i o:=by
     obtain⟨h1,h2⟩:=ho;rw[YS?]at h1;obtain⟨o',h3,h4⟩:=Option.map_eq_some_iff.1 h1;rw[zU hf]at h4;exact⟨h4▸h3,h2⟩
    rcases hob i o this with h1|h1
    ·exact hfin (ov_live h1)
    ·exact h1
   | some ob =>
    obtain⟨h1,h2⟩:=hF i ob hf;have e1:(ov σ F)[i]? =some (some ob):=by rw[YS?,h1];simp[ovc,hf]
    have e2:(ov σ' F)[i]? =some (some ob):=by rw[YS?,hkr i h1];simp[ovc,hf]
    have:o=ob:=by
     have:=ho.1.symm.trans e2;injection this with this;injection this
    subst this;exact hfin ⟨e1,ho.2⟩
  rcases h.2 F hF μ w vs hs hvs with⟨a,b⟩|⟨x,w',a,b⟩
  ·exact .inl ⟨a,b.mono fun e w' ⟨x,hx,hp⟩=>⟨x,hx,fin x w' hp⟩⟩
  ·exact .inr ⟨x,w',a,fin x w' b⟩
theorem EC.pure {f:FuncId}{args:List PV}{K:PV→Store→Prop}(h:EC P f args σ fun r s=>(∃ex,s=σ++ex)∧Cl σ.length r∧K r σ):EC P f args σ K:=
 EC.drop (h.mono fun r s ⟨⟨ex,h1⟩,h2,h3⟩=>⟨σ,ex,h1,rfl,fun i ob hl=>.inl hl,h2,h3⟩)
theorem EC.wkb {f:FuncId}{args:List PV}{K:PV→Store→Prop}
  (h:EC P f args σ fun r s=>∃i t c c',s[i]? =some (some (.box t c))∧c.length=c'.length∧(∀(j:Nat) p q,c[j]? =some p→c'[j]? =some q→Wk p q)∧K r (s.set i (some (.box t c')))):EC P f args σ K:=by
 have kr:∀{s:Store} {i:Nat} {t:TypeId} {c:List PV} (o:Option AObj),s[i]? =some (some (.box t c))→qr σ s→qr σ (s.set i o):=fun o hi hk j hj=>by
  have:=hk j hj;rw[List.getElem?_set_ne]
  ·exact this
  ·rintro rfl
   rw[hi]at this;injection this with this;injection this with this;cases this
 refine⟨?_,fun F hF μ w vs hs hvs=> ?_⟩
 ·obtain⟨r,s,h1,i,t,c,c',h2,_,_,hk⟩:=h.1;exact⟨r,_,kr _ h2 h1,hk⟩
 ·have fin : ∀ x w', (∃ r σ1 μ', Ext (ov σ F) μ w σ1 μ' w' ∧ SR σ1 μ' w' ∧ R σ1 μ' w' x r ∧ ∃ s0, σ1 = ov s0 F ∧ qr σ s0 ∧ ∃ i t c c', s0[i]? = some (some (.box t c)) ∧ c.length = c'.length ∧ (∀ (j : Nat) p q, c[j]? = some p → c'[j]? = some q → Wk p q) ∧ K r (s0.set i (some (.box t c')))) →
    ∃r σ1 μ',Ext (ov σ F) μ w σ1 μ' w'∧SR σ1 μ' w'∧R σ1 μ' w' x r∧∃s0,σ1=ov s0 F∧qr σ s0∧K r s0:=by
   rintro x w' ⟨r,σ1,μ',k1,k2,k3,s0,rfl,k5,i,t,c,c',h1,h2,h3,hk⟩
   have hFi:F i=none:=by
    cases hf:F i with
    |none=>rfl
    | some ob =>
     have:=k5 i (hF i ob hf).1;rw[h1]at this;injection this with this;injection this with this;cases this
   have hl:live (ov s0 F) i (.box t c):=⟨by rw[YS?,h1];simp[zU hFi],by simp⟩;have he:ov (s0.set i (some (.box t c'))) F=(ov s0 F).set i (some (.box t c')):=by
    apply List.ext_getElem?;intro j;have hlt:=(List.getElem?_eq_some_iff.1 h1).1;by_cases hj:i=j
    ·subst hj;rw[YS?,List.getElem?_set_self hlt,List.getElem?_set_self (by rw[QU];exact hlt)];simp[zU hFi]
    ·rw[YS?,List.getElem?_set_ne hj,List.getElem?_set_ne hj,YS?]
   have hg:w'.grownBy w' (some (μ' i)):=⟨rfl,rfl,rfl,Nat.le_refl _,fun _ _ _=>rfl⟩;have e1:Ext (ov s0 F) μ' w' ((ov s0 F).set i (some (.box t c'))) μ' w':=Jl (o':=.box t c') k2 hl (by simp) (show Qa μ' μ' w' w' i (.box t c) (.box t c') from rfl) hg (fun _ _ _ _ h=>by cases h);have e2:SR ((ov s0 F).set i (some (.box t c'))) μ' w':=JL k2 hl e1 hg (by
    obtain⟨cs,g1,g2,g3,g4⟩:=k2.obj _ _ hl;refine⟨cs,g1,by omega,g3,fun j y q hy hq=> ?_⟩;have hj:=(List.getElem?_eq_some_iff.1 hq).1;have hp:c[j]? =some c[j]:=List.getElem?_eq_getElem (by omega);exact((g4 j y _ hy hp).wk (h3 j _ q hp hq)).ext k2 e1)
   exact⟨r,_,μ',k1.trans hs e1,e2,k3.ext k2 e1,_,he.symm,kr _ h1 k5,hk⟩
  rcases h.2 F hF μ w vs hs hvs with⟨a,b⟩|⟨x,w',a,b⟩
  ·exact .inl ⟨a,b.mono fun e w' ⟨x,hx,hp⟩=>⟨x,hx,fin x w' hp⟩⟩
  ·exact .inr ⟨x,w',a,fin x w' b⟩
end
end Go.Proofs.Ytohmmfimedgccaa.E
end
section
namespace Go.Proofs.Ytohmmfimedgccaa.E
set_option maxRecDepth 100000
def T (n:Nat):Option TI:=if n<208 then(if n<104 then(if n<52 then(if n<26 then(if n<13 then(if n<6 then(if n<3 then(if n<1 then(none)else(if n<2 then(some ⟨1,8,false,false,[.f],.other⟩)else(some ⟨1,8,false,false,[(.i .i64)],.int .i64⟩)))else(if n<4 then(some ⟨1,8,false,false,[(.i .i64)],.int .i64⟩)else(if n<5 then(some ⟨1,1,false,false,[.b],.bool⟩)else(some ⟨1,1,false,false,[(.i .u8)],.int .u8⟩))))else(if n<9 then(if n<7 then(some ⟨1,1,false,false,[(.i .u8)],.int .u8⟩)else(if n<8 then(some ⟨4,24,true,true,[(.i .i64),(.i .i64),.b,(.i .u8)],.st [(0,2),(1,3),(2,4),(3,6)]⟩)else(some ⟨4,24,true,true,[(.i .i64),(.i .i64),.b,(.i .u8)],.st [(0,2),(1,3),(2,4),(3,6)]⟩)))else(if n<11 then(if n<10 then(some ⟨1,16,false,false,[.s],.str⟩)else(some ⟨1,16,false,false,[.s],.str⟩))else(if n<12 then(some ⟨1,16,false,false,[.s],.str⟩)else(some ⟨1,8,false,false,[(.i .u64)],.int .u64⟩)))))else(if n<19 then(if n<16 then(if n<14 then(none)else(if n<15 then(none)else(some ⟨1,8,false,false,[.p],.other⟩)))else(if n<17 then(some ⟨1,8,false,false,[.p],.other⟩)else(if n<18 then(some ⟨1,8,false,false,[.p],.other⟩)else(some ⟨1,8,true,false,[.p],.st [(0,17)]⟩))))else(if n<22 then(if n<20 then(some ⟨1,8,true,false,[.p],.st [(0,17)]⟩)else(if n<21 then(some ⟨1,16,false,false,[.c],.ifc⟩)else(some ⟨1,4,false,false,[(.i .i32)],.int .i32⟩)))else(if n<24 then(if n<23 then(some ⟨1,24,false,false,[.sl],.slc 99⟩)else(some ⟨1,24,false,false,[.sl],.slc 96⟩))else(if n<25 then(some ⟨1,24,false,false,[.sl],.slc 41⟩)else(some ⟨1,24,false,false,[.sl],.slc 65⟩))))))else(if n<39 then(if n<32 then(if n<29 then(if n<27 then(some ⟨4,96,true,false,[.sl,.sl,.sl,.sl],.st [(0,22),(1,23),(2,24),(3,25)]⟩)else(if n<28 then(some ⟨4,96,true,false,[.sl,.sl,.sl,.sl],.st [(0,22),(1,23),(2,24),(3,25)]⟩)else(some ⟨1,8,false,false,[.f],.other⟩)))else(if n<30 then(some ⟨1,8,false,false,[.f],.other⟩)else(if n<31 then(some ⟨1,8,false,false,[(.i .i64)],.int .i64⟩)else(none))))else(if n<35 then(if n<33 then(some ⟨1,8,false,false,[.f],.other⟩)else(if n<34 then(some ⟨1,24,false,false,[.sl],.slc 43⟩)else(none)))else(if n<37 then(if n<36 then(some ⟨1,8,false,false,[.f],.other⟩)else(some ⟨1,8,false,false,[.f],.other⟩))else(if n<38 then(some ⟨1,24,false,false,[.sl],.slc 39⟩)else(some ⟨6,72,true,false,[(.i .i64),.s,(.i .i64),(.i .i64),.sl,(.i .i64)],.st [(0,3),(1,9),(2,2),(3,2),(4,37),(5,3)]⟩)))))else(if n<45 then(if n<42 then(if n<40 then(some ⟨6,72,true,false,[(.i .i64),.s,(.i .i64),(.i .i64),.sl,(.i .i64)],.st [(0,3),(1,9),(2,2),(3,2),(4,37),(5,3)]⟩)else(if n<41 then(some ⟨8,96,true,false,[.s,(.i .i64),.s,(.i .i64),(.i .i64),.sl,(.i .i64),(.i .i64)],.st [(0,9),(1,39),(7,3)]⟩)else(some ⟨8,96,true,false,[.s,(.i .i64),.s,(.i .i64),(.i .i64),.sl,(.i .i64),(.i .i64)],.st [(0,9),(1,39),(7,3)]⟩)))else(if n<43 then(some ⟨2,16,true,true,[(.i .i64),(.i .i64)],.st [(0,2),(1,2)]⟩)else(if n<44 then(some ⟨2,16,true,true,[(.i .i64),(.i .i64)],.st [(0,2),(1,2)]⟩)else(none))))else(if n<48 then(if n<46 then(some ⟨1,8,false,false,[.f],.other⟩)else(if n<47 then(some ⟨1,24,false,false,[.sl],.slc 61⟩)else(some ⟨1,24,false,false,[.sl],.slc 73⟩)))else(if n<50 then(if n<49 then(some ⟨4,96,true,false,[.sl,.sl,.sl,.sl],.st [(0,33),(1,22),(2,46),(3,47)]⟩)else(some ⟨4,96,true,false,[.sl,.sl,.sl,.sl],.st [(0,33),(1,22),(2,46),(3,47)]⟩))else(if n<51 then(none)else(some ⟨1,8,false,false,[.f],.other⟩)))))))else(if n<78 then(if n<65 then(if n<58 then(if n<55 then(if n<53 then(some ⟨1,24,false,false,[.sl],.slc 58⟩)else(if n<54 then(some ⟨1,8,false,false,[.f],.other⟩)else(some ⟨1,8,false,false,[.f],.other⟩)))else(if n<56 then(some ⟨1,8,false,false,[.f],.other⟩)else(if n<57 then(some ⟨1,8,false,false,[.f],.other⟩)else(some ⟨2,16,true,true,[(.i .i64),(.i .i64)],.st [(0,3),(1,3)]⟩))))else(if n<61 then(if n<59 then(some ⟨2,16,true,true,[(.i .i64),(.i .i64)],.st [(0,3),(1,3)]⟩)else(if n<60 then(some ⟨1,24,false,false,[.sl],.slc 68⟩)else(some ⟨4,48,true,false,[(.i .i64),(.i .i64),(.i .i64),.sl],.st [(0,3),(1,43),(3,59)]⟩)))else(if n<63 then(if n<62 then(some ⟨4,48,true,false,[(.i .i64),(.i .i64),(.i .i64),.sl],.st [(0,3),(1,43),(3,59)]⟩)else(some ⟨1,8,false,false,[.f],.other⟩))else(if n<64 then(some ⟨1,8,false,false,[.f],.other⟩)else(some ⟨4,48,true,true,[.s,.s,(.i .i64),(.i .i64)],.st [(0,9),(1,9),(2,2),(3,3)]⟩)))))else(if n<71 then(if n<68 then(if n<66 then(some ⟨4,48,true,true,[.s,.s,(.i .i64),(.i .i64)],.st [(0,9),(1,9),(2,2),(3,3)]⟩)else(if n<67 then(some ⟨1,24,false,false,[.sl],.slc 119⟩)else(some ⟨2,32,true,false,[(.i .i64),.sl],.st [(0,3),(1,66)]⟩)))else(if n<69 then(some ⟨2,32,true,false,[(.i .i64),.sl],.st [(0,3),(1,66)]⟩)else(if n<70 then(none)else(some ⟨1,8,false,false,[.f],.other⟩))))else(if n<74 then(if n<72 then(some ⟨1,8,false,false,[.f],.other⟩)else(if n<73 then(some ⟨5,56,true,false,[(.i .i64),(.i .i64),(.i .i64),.sl,(.i .i64)],.st [(0,43),(2,68),(4,2)]⟩)else(some ⟨5,56,true,false,[(.i .i64),(.i .i64),(.i .i64),.sl,(.i .i64)],.st [(0,43),(2,68),(4,2)]⟩)))else(if n<76 then(if n<75 then(some ⟨2,2,true,false,[(.i .u8),(.i .u8)],.arr 2 5⟩)else(none))else(if n<77 then(some ⟨1,8,false,false,[.f],.other⟩)else(some ⟨1,8,false,false,[.f],.other⟩))))))else(if n<91 then(if n<84 then(if n<81 then(if n<79 then(some ⟨1,8,false,false,[.f],.other⟩)else(if n<80 then(some ⟨1,8,false,false,[.f],.other⟩)else(some ⟨1,8,false,false,[.f],.other⟩)))else(if n<82 then(some ⟨1,24,false,false,[.sl],.slc 85⟩)else(if n<83 then(none)else(some ⟨1,8,false,false,[.f],.other⟩))))else(if n<87 then(if n<85 then(some ⟨4,40,true,true,[(.i .i64),.s,(.i .i64),(.i .i64)],.st [(0,3),(1,9),(2,2),(3,3)]⟩)else(if n<86 then(some ⟨4,40,true,true,[(.i .i64),.s,(.i .i64),(.i .i64)],.st [(0,3),(1,9),(2,2),(3,3)]⟩)else(none)))else(if n<89 then(if n<88 then(some ⟨1,8,false,false,[.f],.other⟩)else(some ⟨1,8,false,false,[.f],.other⟩))else(if n<90 then(some ⟨1,24,false,false,[.sl],.slc 5⟩)else(some ⟨3,24,true,false,[(.i .i64),(.i .i64),(.i .i64)],.arr 3 3⟩)))))else(if n<97 then(if n<94 then(if n<92 then(some ⟨3,24,true,false,[(.i .i64),(.i .i64),(.i .i64)],.arr 3 2⟩)else(if n<93 then(some ⟨1,8,false,false,[.f],.other⟩)else(some ⟨1,8,false,false,[.f],.other⟩)))else(if n<95 then(some ⟨1,8,false,false,[.f],.other⟩)else(if n<96 then(some ⟨4,40,true,true,[.s,(.i .i64),(.i .i64),(.i .i64)],.st [(0,9),(1,2),(2,2),(3,3)]⟩)else(some ⟨4,40,true,true,[.s,(.i .i64),(.i .i64),(.i .i64)],.st [(0,9),(1,2),(2,2),(3,3)]⟩))))else(if n<100 then(if n<98 then(some ⟨1,24,false,false,[.sl],.slc 9⟩)else(if n<99 then(some ⟨10,128,true,false,[.s,.sl,(.i .i64),(.i .i64),.s,(.i .i64),(.i .i64),.sl,(.i .i64),(.i .i64)],.st [(0,9),(1,97),(2,2),(3,39),(9,3)]⟩)else(some ⟨10,128,true,false,[.s,.sl,(.i .i64),(.i .i64),.s,(.i .i64),(.i .i64),.sl,(.i .i64),(.i .i64)],.st [(0,9),(1,97),(2,2),(3,39),(9,3)]⟩)))else(if n<102 then(if n<101 then(some ⟨1,8,false,false,[.f],.other⟩)else(some ⟨1,8,false,false,[.f],.other⟩))else(if n<103 then(some ⟨1,8,false,false,[.f],.other⟩)else(some ⟨1,8,false,false,[.f],.other⟩))))))))else(if n<156 then(if n<130 then(if n<117 then(if n<110 then(if n<107 then(if n<105 then(some ⟨1,8,false,false,[.p],.other⟩)else(if n<106 then(some ⟨2,16,true,true,[(.i .i64),(.i .i64)],.st [(0,3),(1,30)]⟩)else(some ⟨2,16,true,true,[(.i .i64),(.i .i64)],.st [(0,3),(1,30)]⟩)))else(if n<108 then(some ⟨1,8,false,false,[.m],.map 9 3⟩)else(if n<109 then(some ⟨1,8,false,false,[.f],.other⟩)else(some ⟨1,8,false,false,[.f],.other⟩))))else(if n<113 then(if n<111 then(some ⟨1,8,false,false,[.f],.other⟩)else(if n<112 then(some ⟨1,8,false,false,[.f],.other⟩)else(some ⟨1,8,false,false,[.f],.other⟩)))else(if n<115 then(if n<114 then(some ⟨1,8,false,false,[.f],.other⟩)else(some ⟨1,8,false,false,[.f],.other⟩))else(if n<116 then(some ⟨1,8,false,false,[.f],.other⟩)else(none)))))else(if n<123 then(if n<120 then(if n<118 then(some ⟨1,8,false,false,[.f],.other⟩)else(if n<119 then(some ⟨3,24,true,true,[(.i .i64),(.i .i64),(.i .i64)],.st [(0,3),(1,2),(2,2)]⟩)else(some ⟨3,24,true,true,[(.i .i64),(.i .i64),(.i .i64)],.st [(0,3),(1,2),(2,2)]⟩)))else(if n<121 then(some ⟨1,8,false,false,[.p],.other⟩)else(if n<122 then(some ⟨1,8,false,false,[.m],.map 9 43⟩)else(some ⟨3,24,true,false,[(.i .i64),(.i .i64),.m],.st [(0,106),(2,121)]⟩))))else(if n<126 then(if n<124 then(some ⟨3,24,true,false,[(.i .i64),(.i .i64),.m],.st [(0,106),(2,121)]⟩)else(if n<125 then(some ⟨1,8,false,false,[.f],.other⟩)else(some ⟨1,8,false,false,[.f],.other⟩)))else(if n<128 then(if n<127 then(some ⟨1,8,false,false,[.f],.other⟩)else(some ⟨1,8,false,false,[.p],.other⟩))else(if n<129 then(some ⟨1,24,false,false,[.sl],.slc 164⟩)else(some ⟨9,152,true,false,[.sl,.sl,.sl,.sl,.m,.sl,.m,(.i .i64),(.i .i64)],.st [(0,27),(4,107),(5,128),(6,107),(7,3),(8,30)]⟩))))))else(if n<143 then(if n<136 then(if n<133 then(if n<131 then(some ⟨9,152,true,false,[.sl,.sl,.sl,.sl,.m,.sl,.m,(.i .i64),(.i .i64)],.st [(0,27),(4,107),(5,128),(6,107),(7,3),(8,30)]⟩)else(if n<132 then(some ⟨1,8,false,false,[.f],.other⟩)else(some ⟨1,8,false,false,[.f],.other⟩)))else(if n<134 then(some ⟨1,8,false,false,[.f],.other⟩)else(if n<135 then(some ⟨1,8,false,false,[.f],.other⟩)else(none))))else(if n<139 then(if n<137 then(some ⟨1,8,false,false,[.f],.other⟩)else(if n<138 then(some ⟨1,8,false,false,[.f],.other⟩)else(some ⟨1,8,false,false,[.f],.other⟩)))else(if n<141 then(if n<140 then(some ⟨1,8,false,false,[.f],.other⟩)else(some ⟨1,8,false,false,[.f],.other⟩))else(if n<142 then(some ⟨1,8,false,false,[.f],.other⟩)else(some ⟨1,8,false,false,[.f],.other⟩)))))else(if n<149 then(if n<146 then(if n<144 then(some ⟨1,8,false,false,[.f],.other⟩)else(if n<145 then(some ⟨1,8,false,false,[.f],.other⟩)else(some ⟨1,8,false,false,[.f],.other⟩)))else(if n<147 then(some ⟨1,8,false,false,[.f],.other⟩)else(if n<148 then(some ⟨1,8,false,false,[.f],.other⟩)else(some ⟨1,8,false,false,[.f],.other⟩))))else(if n<152 then(if n<150 then(some ⟨1,8,false,false,[.f],.other⟩)else(if n<151 then(some ⟨1,8,false,false,[.f],.other⟩)else(none)))else(if n<154 then(if n<153 then(some ⟨1,8,false,false,[.f],.other⟩)else(some ⟨1,8,false,false,[.p],.other⟩))else(if n<155 then(some ⟨9,152,true,false,[.sl,(.i .i64),(.i .i64),(.i .i64),(.i .i64),.sl,.sl,.sl,.sl],.st [(0,81),(1,3),(2,3),(3,3),(4,30),(5,27)]⟩)else(some ⟨9,152,true,false,[.sl,(.i .i64),(.i .i64),(.i .i64),(.i .i64),.sl,.sl,.sl,.sl],.st [(0,81),(1,3),(2,3),(3,3),(4,30),(5,27)]⟩)))))))else(if n<182 then(if n<169 then(if n<162 then(if n<159 then(if n<157 then(some ⟨1,8,false,false,[.f],.other⟩)else(if n<158 then(some ⟨5,80,true,false,[.s,.s,.s,.s,.s],.arr 5 9⟩)else(some ⟨1,8,false,false,[.f],.other⟩)))else(if n<160 then(some ⟨1,8,false,false,[.f],.other⟩)else(if n<161 then(some ⟨1,8,false,false,[.f],.other⟩)else(some ⟨1,8,false,false,[.f],.other⟩))))else(if n<165 then(if n<163 then(some ⟨1,8,false,false,[.f],.other⟩)else(if n<164 then(some ⟨3,56,true,false,[(.i .i64),.sl,.sl],.st [(0,3),(1,37),(2,97)]⟩)else(some ⟨3,56,true,false,[(.i .i64),.sl,.sl],.st [(0,3),(1,37),(2,97)]⟩)))else(if n<167 then(if n<166 then(some ⟨1,8,false,false,[.f],.other⟩)else(some ⟨1,8,false,false,[.f],.other⟩))else(if n<168 then(some ⟨1,8,false,false,[.f],.other⟩)else(some ⟨1,8,false,false,[.f],.other⟩)))))else(if n<175 then(if n<172 then(if n<170 then(some ⟨1,8,false,false,[.f],.other⟩)else(if n<171 then(some ⟨1,8,false,false,[.f],.other⟩)else(some ⟨1,8,false,false,[.f],.other⟩)))else(if n<173 then(some ⟨1,8,false,false,[.f],.other⟩)else(if n<174 then(some ⟨1,8,false,false,[.f],.other⟩)else(some ⟨1,8,false,false,[.f],.other⟩))))else(if n<178 then(if n<176 then(some ⟨1,8,false,false,[.f],.other⟩)else(if n<177 then(some ⟨1,8,false,false,[.f],.other⟩)else(none)))else(if n<180 then(if n<179 then(some ⟨1,8,false,false,[.f],.other⟩)else(some ⟨1,8,false,false,[.f],.other⟩))else(if n<181 then(some ⟨1,8,false,false,[.f],.other⟩)else(some ⟨1,8,false,false,[.f],.other⟩))))))else(if n<195 then(if n<188 then(if n<185 then(if n<183 then(some ⟨1,8,false,false,[.f],.other⟩)else(if n<184 then(some ⟨1,8,false,false,[.f],.other⟩)else(some ⟨1,8,false,false,[.f],.other⟩)))else(if n<186 then(some ⟨1,8,false,false,[.f],.other⟩)else(if n<187 then(some ⟨1,8,false,false,[.f],.other⟩)else(some ⟨1,8,false,false,[.f],.other⟩))))else(if n<191 then(if n<189 then(some ⟨1,8,false,false,[.f],.other⟩)else(if n<190 then(some ⟨1,8,false,false,[.f],.other⟩)else(some ⟨1,8,false,false,[.f],.other⟩)))else(if n<193 then(if n<192 then(some ⟨1,8,false,false,[.f],.other⟩)else(some ⟨4,40,true,false,[.p,.p,.p,.s],.st [(0,17),(1,17),(2,17),(3,9)]⟩))else(if n<194 then(some ⟨4,40,true,false,[.p,.p,.p,.s],.st [(0,17),(1,17),(2,17),(3,9)]⟩)else(some ⟨0,0,true,false,[],.arr 0 16⟩)))))else(if n<201 then(if n<198 then(if n<196 then(some ⟨0,0,true,false,[],.st [(0,194)]⟩)else(if n<197 then(some ⟨0,0,true,false,[],.st [(0,194)]⟩)else(some ⟨1,8,false,false,[.f],.other⟩)))else(if n<199 then(some ⟨1,4,false,false,[(.i .u32)],.int .u32⟩)else(if n<200 then(some ⟨1,1,false,false,[(.i .u8)],.int .u8⟩)else(some ⟨1,1,false,false,[(.i .u8)],.int .u8⟩))))else(if n<204 then(if n<202 then(some ⟨1,8,false,false,[.f],.other⟩)else(if n<203 then(some ⟨1,8,false,false,[.p],.other⟩)else(some ⟨1,4,false,false,[(.i .i32)],.int .i32⟩)))else(if n<206 then(if n<205 then(some ⟨1,4,false,false,[(.i .i32)],.int .i32⟩)else(some ⟨11,48,true,false,[(.i .u64),(.i .u64),(.i .u32),(.i .u8),(.i .u8),(.i .u8),(.i .u8),.f,.p,(.i .i32),(.i .i32)],.st [(0,12),(1,12),(2,198),(3,199),(4,5),(5,5),(6,200),(7,201),(8,202),(9,203),(10,204)]⟩))else(if n<207 then(some ⟨11,48,true,false,[(.i .u64),(.i .u64),(.i .u32),(.i .u8),(.i .u8),(.i .u8),(.i .u8),.f,.p,(.i .i32),(.i .i32)],.st [(0,12),(1,12),(2,198),(3,199),(4,5),(5,5),(6,200),(7,201),(8,202),(9,203),(10,204)]⟩)else(some ⟨1,8,false,false,[.p],.other⟩)))))))))else none
theorem T_all:((List.range 208).all fun t=>match T t with|some ti=>decide (TI.of Try.prog t=some {ti with zero:=ti.zero.map Z.n})|none=>true)=true:=by kernel_rfl
theorem T_ok (t:TypeId)(ti:TI)(h:T t=some ti):TI.of Try.prog t=some {ti with zero:=ti.zero.map Z.n}:=by
 by_cases hlt:t<208
 ·have:=List.all_eq_true.1 T_all t (List.mem_range.2 hlt);rw[h]at this;exact of_decide_eq_true this
 ·unfold T at h;rw[if_neg hlt]at h;cases h
end Go.Proofs.Ytohmmfimedgccaa.E
end
section
namespace Go.Proofs.Ytohmmfimedgccaa.E
set_option linter.unusedVariables false
set_option linter.unusedSimpArgs false
theorem hT (t:TypeId)(ti:TI)(h:T t=some ti):TOK Try.prog t ti:=TI.of_ok' (T_ok t ti h)
section
variable {P:Program} {T:TypeId→Option TI} {σ σ' s s':Store} {e:Env} {Q:X→Env→Store→Prop}
noncomputable def Ev:(P:Program)→(T:TypeId→Option TI)→(c:Code)→(e:Env)→(s:Store)→(Q:X→Env→Store→Prop)→Prop:=Classical.choose (⟨@ev,rfl⟩:∃f,f= @ev)
theorem Ev_eq: @Ev= @ev:=Classical.choose_spec (⟨@ev,rfl⟩:∃f,f= @ev)
theorem Ev.of {c:Code}(h:ev P T c e s Q):Ev P T c e s Q:=by rw[Ev_eq];exact h
theorem Ev.to {c:Code}(h:Ev P T c e s Q):ev P T c e s Q:=by rw[Ev_eq]at h;exact h
theorem w_ct {c:Operand}{a b:Code}(hc:val e c=.v (.bool true))(h1:Ev P T a e s Q):Ev P T (.cond c a b) e s Q:=by
 refine .of ?_;unfold ev;rw[hc];exact h1.to
theorem w_cf {c:Operand}{a b:Code}(hc:val e c=.v (.bool false))(h1:Ev P T b e s Q):Ev P T (.cond c a b) e s Q:=by
 refine .of ?_;unfold ev;rw[hc];exact h1.to
theorem Ev.mono {c:Code}{Q':X→Env→Store→Prop}(h:Ev P T c e s Q)(hQ:∀x e s,Q x e s→Q' x e s):Ev P T c e s Q':=.of (Qj c hQ e s h.to)
def Sq (P:Program)(T:TypeId→Option TI)(b:Code)(K:X→Env→Store→Prop)(x:X)(e:Env)(s:Store):Prop:=match x with| .nrm=>Ev P T b e s K|x=>K x e s
theorem qe {a b:Code}(h:Ev P T a e s (Sq P T b Q)):Ev P T (.seq a b) e s Q:=.of (Qj a (fun x e s hx=>by cases x<;>first|exact⟨_,_,Gh.refl _ _,hx.to⟩|exact hx) e s h.to)
theorem qg {b:Code}(h:Ev P T b e s Q):Sq P T b Q .nrm e s:=h
theorem qT {b:Code}{i:Nat}(h:Q (.ext i) e s):Sq P T b Q (.ext i) e s:=h
theorem ze {b:Code}(h:Q .ret e s):Sq P T b Q .ret e s:=h
def Ct (I:Env→Store→Prop)(K:X→Env→Store→Prop)(x:X)(e:Env)(s:Store):Prop:=match x with| .nrm=>I e s|x=>K x e s
theorem qm (h:Q .nrm e s):Ev P T .skip e s Q:=.of h
theorem qz {i:Nat}(h:Q (.ext i) e s):Ev P T (.exit i) e s Q:=.of h
theorem qo (h:Q .ret e s):Ev P T .ret e s Q:=.of h
def Bk (id:Nat)(K:X→Env→Store→Prop)(x:X)(e:Env)(s:Store):Prop:=match x with| .ext i=>if i=id then K .nrm e s else K (.ext i) e s|x=>K x e s
theorem qn {id:Nat}{c:Code}(h:Ev P T c e s (Bk id Q)):Ev P T (.block id c) e s Q:=.of (Qj c (fun x e s hx=>by cases x<;>exact hx) e s h.to)
theorem zc {id:Nat}(h:Q .nrm e s):Bk id Q .nrm e s:=h
theorem qG {id:Nat}(h:Q .nrm e s):Bk id Q (.ext id) e s:=by
 show(if id=id then _ else _);rw[if_pos rfl];exact h
theorem ZY {id i:Nat}(hne:i≠id)(h:Q (.ext i) e s):Bk id Q (.ext i) e s:=by
 show(if i=id then _ else _);rw[if_neg hne];exact h
theorem qx {id:Nat}(h:Q .ret e s):Bk id Q .ret e s:=h
def Lp0 (P:Program)(T:TypeId→Option TI)(c:Code)(e:Env)(s:Store)(Q:X→Env→Store→Prop):Prop:=Lp (LF P T c) e s Q
noncomputable def LpV:(P:Program)→(T:TypeId→Option TI)→(c:Code)→(e:Env)→(s:Store)→(Q:X→Env→Store→Prop)→Prop:=Classical.choose (⟨@Lp0,rfl⟩:∃f,f= @Lp0)
theorem LpV_eq: @LpV= @Lp0:=Classical.choose_spec (⟨@Lp0,rfl⟩:∃f,f= @Lp0)
theorem LpV.of {c:Code}(h:Lp (LF P T c) e s Q):LpV P T c e s Q:=by rw[LpV_eq];exact h
theorem LpV.to {c:Code}(h:LpV P T c e s Q):Lp (LF P T c) e s Q:=by rw[LpV_eq]at h;exact h
theorem w_loop {c:Code}(h:LpV P T c e s Q):Ev P T (.loop c) e s Q:=.of h.to
theorem qU {fn:Func}{K:PV→Store→Prop}{x:X}{r:PV}(hx:x≠ .nrm→x=.ret)(h1:Yy T fn.results e s=some r)(h2:K r s):Bd T fn K x e s:=by
 cases x with
 |nrm=>exact⟨r,h1,h2⟩
 |ret=>exact⟨r,h1,h2⟩
 |ext i=>cases hx (by simp)
theorem w_fn {f:FuncId}{fn:Func}{c:Code}{args:List PV}{K:PV→Store→Prop}(hf:Try.prog.funcs[f]? =some fn)(hname:(fn.name== "runtime.NumGoroutine")=false)(hb:fn.body=some c)(hc:(Qm fn.ntmps c&&decide (args.length≤fn.ntmps))=true)
  (h:Ev Try.prog E.T c (qu args) σ (Bd E.T fn K)):EC Try.prog f args σ K:=by
 simp only[Bool.and_eq_true,decide_eq_true_eq]at hc;exact EC.intro hT hf hname hb hc.1 hc.2 h.to
end
theorem set_concat {α:Type}{l:List α}{a b:α}:(l++[a]).set l.length b=l++[b]:=by simp
theorem wrap_id {n:Int}(h1: -9223372036854775808≤n)(h2:n<9223372036854775808):IntKind.i64.wrap n=n:=by
 simp only[IntKind.wrap,IntKind.signed,IntKind.bits];simp;omega
theorem wrap_inc {i n:Nat}(h:i<n)(hn:n<9223372036854775808):IntKind.i64.wrap ((i:Int)+1)=((i+1:Nat):Int):=by
 rw[wrap_id (by omega) (by omega)];omega
theorem call_isEff {T:TypeId→Option TI}{o:Op}{e:Env}{σ:Store}{f:FuncId}{args:List PV}(h:ql T o e σ=.call f args):zq o=true:=by
 have hk:∀{t:TypeId} {p q:PV} {r:AR},qB T t p q σ=r→r≠ .call f args:=fun hr he=>by
  rcases YF hr (by rw[he];simp)with⟨_,h1,_⟩|⟨_,_,h1,_⟩|⟨_,_,_,_,h1,_⟩<;>(rw[h1]at he;cases he)
 cases o with
 | call c =>
  simp only[ql]at h;split at h
  ·exfalso;generalize hq:Qd T _ c.argTypes (c.args.toList.map (val e)) σ=r at h;unfold Qd lenX at hq
   repeat' split at hq
   all_goals first|(subst hq;cases h;done)|(subst h;exact hk hq rfl)
  ·rename_i hc;simp only[zq,hc]
  ·cases h
 |makeFunc f a b=>cases f<;>cases h
 | makeMap t r =>
  cases r with
  |some r=>cases h
  |none=>exfalso;revert h;simp only[ql];(repeat' split)<;>simp
 | slice t x lo hi mx => cases mx with
  |some m=>cases h
  |none=>exfalso;revert h;simp only[ql];(repeat' split)<;>simp
 |_=>exfalso;revert h;simp only[ql];(repeat' split)<;>simp
theorem eff_isEff {T:TypeId→Option TI}{o:Op}{e:Env}{σ σ':Store}{p:PV}(h:ql T o e σ=.eff p σ'):zq o=true:=by
 cases o with
 | call c =>
  simp only[ql]at h;split at h
  ·rename_i b hb;simp only[zq,hb];generalize hq:Qd T _ c.argTypes (c.args.toList.map (val e)) σ=r at h;unfold Qd lenX at hq
   repeat' split at hq
   all_goals first|rfl|(subst hq;cases h)
  ·split at h<;>cases h
  ·cases h
 |store t x y=>rfl
 |mapUpdate t a b c=>rfl
 |makeFunc f a b=>cases f<;>cases h
 | makeMap t r =>
  cases r with
  |some r=>cases h
  |none=>exfalso;revert h;simp only[ql];(repeat' split)<;>simp
 | slice t x lo hi mx => cases mx with
  |some m=>cases h
  |none=>exfalso;revert h;simp only[ql];(repeat' split)<;>simp
 |_=>exfalso;revert h;simp only[ql];(repeat' split)<;>simp
def Rest (P:Program)(T:TypeId→Option TI)(ops:Array Oper)(rest:List Oper)(e:Env)(d:Option Tmp)(K:Env→Store→Prop)(r:PV)(s:Store):Prop:=Qb P T ops rest (upd e d r) s K
noncomputable def evG (P:Program)(T:TypeId→Option TI)(ops:Array Oper):List Oper→Env→Store→(Env→Store→Prop)→Prop
 |[],e,s,K=>K e s
 | o :: rest, e, s, K => match zk ops o e with
  | some true => (match ql T o.op e s with
   | .val p=>evG P T ops rest (upd e o.dst p) s K
   | .new ob mk=>evG P T ops rest (upd e o.dst (mk s.length)) (s++[some ob]) K
   | .eff p s'=>evG P T ops rest (upd e o.dst p) s' K
   | .call f args=>EC P f args s (Rest P T ops rest e o.dst K)
   | .bad=>False)
  |some false=>evG P T ops rest (upd e o.dst (.tu [])) s K
  |none=>False
theorem ZB {P:Program}{T:TypeId→Option TI}{ops:Array Oper}{K:Env→Store→Prop}:∀(l:List Oper) (e:Env) (s:Store),evG P T ops l e s K→Qb P T ops l e s K
 |[],e,s,h=>h
 | o :: rest, e, s, h => by
  unfold evG at h;unfold Qb QC;refine⟨e,WkE.refl e,?_⟩;cases hw:zk ops o e with
  |none=>rw[hw]at h;exact h
  | some b =>
   rw[hw]at h;cases b with
   |false=>exact ZB rest _ _ h
   | true =>
    simp only at h ⊢;cases hs:ql T o.op e s with
    |val p=>rw[hs]at h;exact ZB rest _ _ h
    |new ob mk=>rw[hs]at h;exact ZB rest _ _ h
    |eff p s'=>rw[hs]at h;exact ZB rest _ _ h
    |call f args=>rw[hs]at h;exact h
    |bad=>rw[hs]at h;exact h
noncomputable def evH:(P:Program)→(T:TypeId→Option TI)→(ops:Array Oper)→List Oper→Env→Store→(Env→Store→Prop)→Prop:=Classical.choose (⟨@evG,rfl⟩:∃f,f= @evG)
theorem ZV: @evH= @evG:=Classical.choose_spec (⟨@evG,rfl⟩:∃f,f= @evG)
theorem evH_nil {P:Program}{T:TypeId→Option TI}{ops:Array Oper}{K:Env→Store→Prop}(e:Env)(s:Store):evH P T ops [] e s K=K e s:=by rw[ZV];rfl
theorem evH_cons {P:Program}{T:TypeId→Option TI}{ops:Array Oper}{K:Env→Store→Prop}(o:Oper)(rest:List Oper)(e:Env)(s:Store):evH P T ops (o::rest) e s K=match zk ops o e with
  | some true => (match ql T o.op e s with
   | .val p=>evH P T ops rest (upd e o.dst p) s K
   | .new ob mk=>evH P T ops rest (upd e o.dst (mk s.length)) (s++[some ob]) K
   | .eff p s'=>evH P T ops rest (upd e o.dst p) s' K
   | .call f args=>EC P f args s (Rest P T ops rest e o.dst K)
   | .bad=>False)
  |some false=>evH P T ops rest (upd e o.dst (.tu [])) s K
  |none=>False:=by rw[ZV];rfl
def pureD (ops:Array Oper):Bool:=chkD ops&&ops.toList.all (fun o=> !zq o.op&& !zy o.op)&&QB ops==0
theorem qqH {P:Program}{T:TypeId→Option TI}{ops:Array Oper}{base:Nat}{K:Env→Store→Prop}:∀(l:List Oper) (i:Nat) (e:Env) (s:Store),(∀o∈l,zq o.op=false∧zy o.op=false)→evG P T ops l e s K→JF P T ops s base l i e s K
 |[],i,e,s,_,h=>h
 | o :: l, i, e, s, hl, h => by
  obtain⟨hE,hN⟩:=hl o List.mem_cons_self;have hl':=fun o' ho'=>hl o' (List.mem_cons_of_mem _ ho');unfold JF zb;unfold evG at h;cases hw:zk ops o e with
  |none=>rw[hw]at h;exact h.elim
  | some b =>
   rw[hw]at h;cases b with
   |false=>exact qqH l _ _ _ hl' h
   | true =>
    simp only at h ⊢;unfold zS;rw[hE];simp only[Bool.false_eq_true,if_false];cases hr:ql T o.op e s with
    |val p=>rw[hr]at h;exact qqH l _ _ _ hl' h
    |new ob mk=>rw[(JO hr).1]at hN;cases hN
    | eff p s' =>
     exfalso;have h1:=eff_isEff hr;rw[hE]at h1;cases h1
    | call f args =>
     exfalso;have h1:=call_isEff hr;rw[hE]at h1;cases h1
    |bad=>rw[hr]at h;exact h.elim
theorem qqy (ops:Array Oper):qF ops ops.size=ops:=by
 unfold qF;rw[List.take_of_length_le (by simp)]
theorem chkE_B {ops:Array Oper}{k:Nat}(hk:k≤ops.size)(h:chkB ops k=true):Yb ops k=true:=by
 unfold Yb;rw[decide_eq_true hk,Bool.true_and];refine List.all_eq_true.2 fun j hj=> ?_;have h1:=List.all_eq_true.1 h j hj;simp only[Bool.and_eq_true,Bool.or_eq_true,decide_eq_true_eq,List.all_eq_true,List.mem_range]at h1 ⊢;refine⟨h1.1,?_⟩;rcases Nat.lt_or_ge j k with hlt|hge
 ·exact .inl hlt
 ·refine .inr fun i hi=> ?_;rcases h1.2 with h2|h2
  ·omega
  ·exact h2 i (by omega)
theorem evDraw_pure {P:Program}{T:TypeId→Option TI}{ops:Array Oper}{e:Env}{s:Store}{K:Env→Store→Prop}(hm:P.follows .mixedOrders=true)(hp:(pureD ops&&chkB ops ops.size)=true)(h:evG P T ops ops.toList e s K):JW P T ops e s K:=by
 simp only[pureD,Bool.and_eq_true,List.all_eq_true,Bool.not_eq_true',beq_iff_eq]at hp;obtain⟨⟨⟨h1,h2⟩,h3⟩,h4⟩:=hp;have hd:ops.toList.drop ops.size=[]:=List.drop_of_length_le (by simp);refine⟨hm,ops.size,chkE_B (Nat.le_refl _) h4,by rw[qqy];exact h1,s,?_,?_⟩
 ·rw[qqy,h3];simp;exact fun _ _ h=>h
 ·rw[qqy,h3];refine ZC (K:=K) (fun e s hh=>.inl ⟨h4,by rw[hd];exact hh⟩) _ _ _ _ ?_;simpa using qqH ops.toList 0 e s h2 h
end Go.Proofs.Ytohmmfimedgccaa.E
end
section
namespace Go.Proofs.Ytohmmfimedgccaa.E
set_option linter.unusedVariables false
section
variable {α β V W:Type}
def qS (xs:List α)(i:Int):Option α:=if 0≤i then xs[i.toNat]? else none
def Ql (b:Nat)(xs ys:List α):Option (List α):=if(xs.length+ys.length)*b≤140737488355328∧xs.length+ys.length≤140737488355328 then some (xs++ys)else none
def remO (a b:Int):Option Int:=if b=0 then none else some (a.tmod b)
def qw (a b:ByteArray):Option ByteArray:=if a.size+b.size≤9223372036854775807 then some (a++b)else none
def Zo (s:ByteArray)(i:Int):Option Int:=if 0≤i then(s.data.toList[i.toNat]?).map fun b=>(b.toNat:Int)else none
def Zn (s:ByteArray)(l h:Int):Option ByteArray:=if 0≤l∧l≤h∧h≤s.size then some (s.extract l.toNat h.toNat)else none
def Qr (s:ByteArray):List Int:=s.data.toList.map fun b=>(b.toNat:Int)
def qqp (l:List Int):ByteArray:=⟨(l.map fun n=>UInt8.ofNat n.toNat).toArray⟩
theorem qp {xs:List α}{i:Int}{x:α}(h:qS xs i=some x):0≤i∧xs[i.toNat]? =some x:=by
 unfold qS at h;split at h
 ·exact⟨‹_›,h⟩
 ·cases h
theorem zG {b:Nat}{xs ys zs:List α}(h:Ql b xs ys=some zs):((xs.length+ys.length)*b≤140737488355328∧xs.length+ys.length≤140737488355328)∧xs++ys=zs:=by
 unfold Ql at h;split at h
 ·exact⟨‹_›,Option.some.inj h⟩
 ·cases h
theorem remO_some {a b c:Int}(h:remO a b=some c):b≠0∧a.tmod b=c:=by
 unfold remO at h;split at h
 ·cases h
 ·exact⟨‹_›,Option.some.inj h⟩
theorem qi {a b c:ByteArray}(h:qw a b=some c):a.size+b.size≤9223372036854775807∧a++b=c:=by
 unfold qw at h;split at h
 ·exact⟨‹_›,Option.some.inj h⟩
 ·cases h
theorem JT {s:ByteArray}{i n:Int}(h:Zo s i=some n):0≤i∧∃b:UInt8,s.data.toList[i.toNat]? =some b∧(b.toNat:Int)=n:=by
 unfold Zo at h;split at h
 ·obtain⟨b,h1,h2⟩:=Option.map_eq_some_iff.1 h;exact⟨‹_›,b,h1,h2⟩
 ·cases h
theorem qH {s r:ByteArray}{l h:Int}(hh:Zn s l h=some r):(0≤l∧l≤h∧h≤s.size)∧s.extract l.toNat h.toNat=r:=by
 unfold Zn at hh;split at hh
 ·exact⟨‹_›,Option.some.inj hh⟩
 ·cases hh
theorem qb {x:Option α}{f:α→Option β}{b:β}(h:x.bind f=some b):∃a,x=some a∧f a=some b:=Option.bind_eq_some_iff.1 h
theorem qj {c:Bool}{a b:Option α}{r:α}(h:(if c then a else b)=some r):(c=true∧a=some r)∨(c=false∧b=some r):=by
 cases c
 ·exact .inr ⟨rfl,h⟩
 ·exact .inl ⟨rfl,h⟩
theorem qc {a b:α}(h:some a=some b):a=b:=Option.some.inj h
def ZM (f:V→Option (V⊕W)):Nat→V→Option W
 |0,_=>none
 |n+1,v=>(f v).bind fun x=>match x with| .inl v'=>ZM f n v'| .inr r=>some r
theorem zzf {f:V→Option (V⊕W)}{r:W}:∀{n:Nat} {v:V},ZM f n v=some r→∀{m:Nat},n≤m→ZM f m v=some r
 |0,_,h,_,_=>by cases h
 | n + 1, v, h, m, hm => by
  obtain⟨k,rfl⟩:∃k,m=k+1:=⟨m - 1,by omega⟩;rw[ZM]at h ⊢;cases hf:f v with
  |none=>rw[hf]at h;cases h
  | some x =>
   rw[hf]at h;cases x with
   |inl v'=>exact zzf (n:=n) (v:=v') h (by omega)
   |inr r'=>exact h
open Classical in
noncomputable def qA (f:V→Option (V⊕W))(v:V):Option W:=if h:∃r,∃n,ZM f n v=some r then some (Classical.choose h)else none
theorem qqD {f:V→Option (V⊕W)}{v:V}{r:W}:qA f v=some r↔∃n,ZM f n v=some r:=by
 unfold qA;by_cases h:∃r,∃n,ZM f n v=some r
 ·rw[dif_pos h];obtain⟨n,hn⟩:=Classical.choose_spec h;constructor
  ·intro e;cases e;exact⟨n,hn⟩
  ·rintro⟨m,hm⟩
   have h1:=zzf hn (Nat.le_max_left n m);rw[zzf hm (Nat.le_max_right n m)]at h1;exact h1.symm
 ·rw[dif_neg h];exact⟨fun e=>(by cases e),fun e=>absurd ⟨r,e⟩ h⟩
theorem iterO_eq (f:V→Option (V⊕W))(v:V):qA f v=(f v).bind fun x=>match x with| .inl v'=>qA f v'| .inr r=>some r:=by
 refine Option.ext fun r=> ?_;rw[qqD];cases hf:f v with
 | none =>
  refine⟨fun⟨n,h⟩=> ?_,fun h=>(by cases h)⟩;cases n with
  |zero=>cases h
  |succ n=>rw[ZM,hf]at h;cases h
 | some x =>
  cases x with
  | inl v' =>
   show _↔qA f v'=some r;rw[qqD];refine⟨fun⟨n,h⟩=> ?_,fun⟨n,h⟩=>⟨n+1,by rw[ZM,hf];exact h⟩⟩;cases n with
   |zero=>cases h
   |succ n=>rw[ZM,hf]at h;exact⟨n,h⟩
  | inr r' =>
   show _↔some r'=some r;refine⟨fun⟨n,h⟩=> ?_,fun h=>⟨1,by rw[ZM,hf];exact h⟩⟩;cases n with
   |zero=>cases h
   |succ n=>rw[ZM,hf]at h;exact h
theorem iterO_some {f:V→Option (V⊕W)}{M:V→W→Prop}(h1:∀v v' r,f v=some (.inl v')→M v' r→M v r)(h2:∀v r,f v=some (.inr r)→M v r):∀v r,qA f v=some r→M v r:=by
 intro v r h;obtain⟨n,hn⟩:=qqD.1 h;clear h;induction n generalizing v with
 |zero=>cases hn
 | succ n ih =>
  rw[ZM]at hn;obtain⟨x,hx,h⟩:=Option.bind_eq_some_iff.1 hn;cases x with
  |inl v'=>exact h1 v v' r hx (ih v' h)
  | inr r' =>
   obtain rfl:=Option.some.inj h;exact h2 v _ hx
theorem ZL {f:V→Option (V⊕W)}{v v':V}(h:f v=some (.inl v')):qA f v=qA f v':=by rw[iterO_eq,h];rfl
theorem Qp {f:V→Option (V⊕W)}{v:V}{r:W}(h:f v=some (.inr r)):qA f v=some r:=by rw[iterO_eq,h];rfl
theorem JS {f:V→Option (V⊕W)}(I:V→Prop)(m:V→Nat)(Z:W→Prop)(step:∀v,I v→(∃v',f v=some (.inl v')∧I v'∧m v'<m v)∨∃r,f v=some (.inr r)∧Z r){v:V}(h:I v):∃r,qA f v=some r∧Z r:=by
 have main:∀(n:Nat) v,m v<n→I v→∃r,qA f v=some r∧Z r:=by
  intro n;induction n with
  |zero=>intro v hv;omega
  | succ n ih =>
   intro v hv hi;rcases step v hi with⟨v',h1,h2,h3⟩|⟨r,h1,h2⟩
   ·rw[ZL h1];exact ih v' (by omega) h2
   ·exact⟨r,Qp h1,h2⟩
 exact main _ v (Nat.lt_succ_self _) h
end
structure Mp (V:Type) where
 get:ByteArray→Option V
 n:Nat
def Mp.emp {V:Type}:Mp V:=⟨fun _=>none,0⟩
def Mp.put {V:Type}(m:Mp V)(k:ByteArray)(v:V):Mp V:=⟨fun x=>if x=k then some v else m.get x,m.n+1⟩
instance {V:Type}:Inhabited (Mp V):=⟨Mp.emp⟩
end Go.Proofs.Ytohmmfimedgccaa.E
end
