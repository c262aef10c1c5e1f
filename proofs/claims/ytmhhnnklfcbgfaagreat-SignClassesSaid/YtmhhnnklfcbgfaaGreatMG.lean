/-
  Texts of one proof, laid together: SgB SgC SgD SgE Na ShC Nb Nc Nd.
-/
import Derived.Test.YtmhhnnklfcbgfaaGreatMF
set_option linter.unusedVariables false
set_option linter.unusedSimpArgs false
set_option linter.defProp false
open Option renaming some→A,none→Z
open Bool renaming true→J,false→I
open Go.cw.af renaming int→D,str→X,bool→C
open Go.IntKind renaming i64→F
namespace Go.a_
open Go.cw
section
open Classical
inductive bp where
 |base (a b:Nat)
 |copy (a b:Nat)
 |load (a b f:Nat)
 |store (a b f:Nat)
 |same (a b:Nat)
inductive dH(n:Nat)(l:List bp):Nat->Nat->Prop where
 |base {a b} (h:bp.base a b∈l):dH n l a b
 |copy {a b s} (h:bp.copy a b∈l) (ah:dH n l b s):dH n l a s
 |load {a b f t s} (h:bp.load a b f∈l) (ah:dH n l b t) (ai:dH n l (n+t*8+f) s):dH n l a s
 |store {a b f t s} (h:bp.store a b f∈l) (ah:dH n l a t) (ai:dH n l b s):dH n l (n+t*8+f) s
 |same {a b f s} (h:bp.same a b∈l) (aC:f<8) (ah:dH n l (n+a*8+f) s):dH n l (n+b*8+f) s
 |nG {a b f s} (h:bp.same a b∈l) (aC:f<8) (ah:dH n l (n+b*8+f) s):dH n l (n+a*8+f) s
def bp.wf(n m:Nat):bp->Prop
 | .base a b=>a<n/\b<m
 | .copy a b=>a<n/\b<n
 | .load a b f=>a<n/\b<n/\f<8
 | .store a b f=>a<n/\b<n/\f<8
 | .same a b=>a<m/\b<m
def gg(n m:Nat)(l:List bp):Prop:=∀c∈l,c.wf n m
structure Fit(n:Nat)(l:List bp)(R:Nat->Nat->Prop):Prop where
 base:∀{a b},bp.base a b∈l->R a b
 copy:∀{a b s},bp.copy a b∈l->R b s->R a s
 load:∀{a b f t s},bp.load a b f∈l->R b t->R (n+t*8+f) s->R a s
 store:∀{a b f t s},bp.store a b f∈l->R a t->R b s->R (n+t*8+f) s
 same:∀{a b f s},bp.same a b∈l->f<8->R (n+a*8+f) s->R (n+b*8+f) s
 nG:∀{a b f s},bp.same a b∈l->f<8->R (n+b*8+f) s->R (n+a*8+f) s
def dH.least{n:Nat}{l:List bp}{R:Nat->Nat->Prop}(h:Fit n l R):∀{v s},dH n l v s->R v s:=by
 intro v s p
 induction p with
 |base ah=>exact h.base ah
 |copy ah _ i=>exact h.copy ah i
 |load ah _ _ i j=>exact h.load ah i j
 |store ah _ _ i j=>exact h.store ah i j
 |same ah aC _ i=>exact h.same ah aC i
 |nG ah aC _ i=>exact h.nG ah aC i
theorem dH.site{n m:Nat}{l:List bp}(hw:gg n m l){v s:Nat}(h:dH n l v s):s<m:=by
 induction h with
 |base h=>exact(hw _ h).2
 |copy _ _ i=>exact i
 |load _ _ _ _ j=>exact j
 |store _ _ _ _ j=>exact j
 |same _ _ _ i=>exact i
 |nG _ _ _ i=>exact i
def dH.mono{n:Nat}{l b:List bp}(h:∀c∈l,c∈b){v s:Nat}(p:dH n l v s):dH n b v s:=
 p.least ⟨λa=> .base (h _ a),λa=> .copy (h _ a),λa=> .load (h _ a),λa=> .store (h _ a),λa=> .same (h _ a),λa=> .nG (h _ a)⟩
noncomputable def c7(m:Nat)(p:Nat->Prop):List Nat:=(List.range m).filter λs=>decide (p s)
theorem g_{m:Nat}{p:Nat->Prop}{s:Nat}:s∈c7 m p↔s<m/\p s:=by simp[c7]
theorem z8{m:Nat}{p q:Nat->Prop}(h:∀s,s<m->(p s↔q s)):c7 m p=c7 m q:=by
 grind[c7,List.filter_congr]
theorem va(m:Nat)(p:Nat->Prop):(c7 m p).Pairwise (· < ·):=List.Pairwise.filter _ List.pairwise_lt_range
def F2:∀{l r:List Nat},l.Pairwise (· < ·)->r.Pairwise (· < ·)->(∀a,a∈l↔a∈r)->l=r
 |[],[],_,_,_=>rfl
 |[],b::r,_,_,h=>by have:=(h b).2 (by simp);grind
 |a::l,[],_,_,h=>by have:=(h a).1 (by simp);grind
 |a::l,b::r,aw,ar,h=>by
  rw[List.pairwise_cons]at aw ar;have e:a=b:=by
   have ah:=(h a).1 (by simp);have ai:=(h b).2 (by simp);grind
  subst e;rw[F2 aw.2 ar.2 λc=> ?_];grind
structure c8 where
 nodes:List (List Nat)
 fields:List (List (List Nat))
noncomputable def il(n m:Nat)(R:Nat->Nat->Prop):c8:=
 ⟨(List.range n).map λv=>c7 m (R v),(List.range m).map λt=>(List.range 8).map λf=>c7 m (R (n+t*8+f))⟩
noncomputable def hb(n m:Nat)(l:List bp):c8:=il n m (dH n l)
def c8.ee(p:c8)(s k:Nat):List Nat:=((p.fields[s]?).bind λfs=>fs[k]?).getD []
inductive bR(p:c8):Nat->Nat->Prop where
 |refl (a):bR p a a
 |symm {a b} (h:bR p a b):bR p b a
 |trans {a b c} (h:bR p a b) (k:bR p b c):bR p a c
 |node {L a b} (h:L∈p.nodes) (d:a∈L) (e:b∈L):bR p a b
 |field {s t k a b} (h:bR p s t) (d:a∈p.ee s k) (e:b∈p.ee t k):bR p a b
structure yA(p:c8)(R:Nat->Nat->Prop):Prop where
 refl:∀a,R a a
 symm:∀{a b},R a b->R b a
 trans:∀{a b c},R a b->R b c->R a c
 node:∀{L a b},L∈p.nodes->a∈L->b∈L->R a b
 field:∀{s t k a b},R s t->a∈p.ee s k->b∈p.ee t k->R a b
def bR.least{p:c8}{R:Nat->Nat->Prop}(h:yA p R):∀{a b},bR p a b->R a b:=by
 intro a b t
 induction t with
 |refl a=>exact h.refl a
 |symm _ i=>exact h.symm i
 |trans _ _ i j=>exact h.trans i j
 |node ah c d=>exact h.node ah c d
 |field _ c d i=>exact h.field i c d
def bR.jO(p:c8):yA p (bR p):=⟨.refl,.symm,.trans,.node,.field⟩
structure gd(R:Nat->Nat->Prop):Prop where
 refl:∀a,R a a
 symm:∀{a b},R a b->R b a
 trans:∀{a b c},R a b->R b c->R a c
def yA.eqv{p:c8}{R:Nat->Nat->Prop}(h:yA p R):gd R:=⟨h.refl,h.symm,h.trans⟩
noncomputable def eg(R:Nat->Nat->Prop)(s:Nat):Nat:=((List.range (s+1)).find? λt=>decide (R s t)).getD s
theorem kd{R:Nat->Nat->Prop}(h:gd R)(s:Nat):R s (eg R s)/\eg R s<=s/\∀t,R s t->eg R s<=t:=by
 unfold eg;cases aC:(List.range (s+1)).find? λt=>decide (R s t)with
 |none=>
  rw[List.find?_eq_none]at aC;exact absurd (decide_eq_true (h.refl s)) (aC s (by simp))
 |some t=>
  grind[List.find?_range_eq_some]
theorem pe{R:Nat->Nat->Prop}(h:gd R){a b:Nat}:eg R a=eg R b↔R a b:=by
 have c:=kd h a;have d:=kd h b;constructor
 ·intro e;exact h.trans c.1 (h.symm (e▸d.1))
 ·intro ar;exact Nat.le_antisymm (c.2.2 _ (h.trans ar d.1)) (d.2.2 _ (h.trans (h.symm ar) c.1))
theorem Ns{R:Nat->Nat->Prop}(h:gd R)(a:Nat):eg R (eg R a)=eg R a:=(by grind[pe,kd])
end
section
open Classical
noncomputable def dw(R:Nat->Nat->Prop)(m:Nat):List Nat:=c7 m λs=>eg R s=s
noncomputable def db(R:Nat->Nat->Prop)(s:Nat):Nat:=(dw R (eg R s)).length
structure dg where
 count:Nat
 of:List Nat
 nodes:List Int
 fields:List (List Int)
noncomputable def h4(R:Nat->Nat->Prop):List Nat->Int
 |[]=> -1
 |a::_=>db R a
noncomputable def ku(p:c8)(R:Nat->Nat->Prop)(m r k:Nat):List Nat:=(c7 m (R r)).flatMap λt=>p.ee t k
noncomputable def qW(p:c8)(R:Nat->Nat->Prop)(m:Nat):dg:=
 ⟨(dw R m).length,(List.range m).map (db R),p.nodes.map (h4 R),(dw R m).map λr=>(List.range 8).map λk=>h4 R (ku p R m r k)⟩
noncomputable def merge(p:c8)(m:Nat):dg:=qW p (bR p) m
def acB{m gz:Nat}{p:Nat->Prop}(h:m<=gz):c7 m p <+: c7 gz p:=by
 unfold c7;obtain⟨k,rfl⟩:∃k,gz=m+k:=⟨gz-m,by omega⟩;grind[List.range_add]
theorem mJ{m:Nat}{p:Nat->Prop}:c7 (m+1) p=c7 m p++(if p m then[m]else[]):=by
 grind[c7,List.range_succ]
def O1{m s:Nat}{p:Nat->Prop}(a:s<m)(h:p s):(c7 m p)[(c7 s p).length]? =A s:=by
 obtain⟨t,ba⟩:=acB (p:=p) (show s+1<=m by omega);grind[mJ]
def Eh{R:Nat->Nat->Prop}(he:gd R){m s:Nat}(a:s<m):(dw R m)[db R s]? =A (eg R s):=
 O1 (by grind[kd]) (Ns he s)
def Ei{R:Nat->Nat->Prop}(he:gd R){m s:Nat}(a:s<m):db R s<(dw R m).length:=(List.getElem?_eq_some_iff.1 (Eh he a)).1
theorem sq{R:Nat->Nat->Prop}(he:gd R){s t:Nat}:db R s=db R t↔R s t:=by
 rw[<-pe he];constructor
 ·intro h;have ah:=Eh he (m:=s+t+1) (s:=s) (by omega);have ai:=Eh he (m:=s+t+1) (s:=t) (by omega);rw[h]at ah;exact Option.some.inj (ah.symm.trans ai)
 grind[db]
theorem vi(R:Nat->Nat->Prop)(m:Nat):(dw R m).length<=m:=by
 grind[dw,c7]
noncomputable def hK(R:Nat->Nat->Prop)(m:Nat):List bp:=(List.range m).map λs=>bp.same s (eg R s)
theorem qV{R:Nat->Nat->Prop}{m:Nat}{c:bp}:c∈hK R m↔∃s,s<m/\c= .same s (eg R s):=by
 grind[hK]
def SY{R:Nat->Nat->Prop}(he:gd R)(n m:Nat):gg n m (hK R m):=by
 intro c aA;obtain⟨s,h,rfl⟩:=qV.1 aA;exact⟨h,by grind[kd]⟩
def SZ{n m:Nat}{l a:List bp}(h:gg n m l)(cu:gg n m a):gg n m (l++a):=λc aA=>(List.mem_append.1 aA).elim (h c) (cu c)
def dH.TM{n m:Nat}{l:List bp}{R S:Nat->Nat->Prop}(g:gd R)(i:gd S)(h:∀a b,R a b->S a b){v s:Nat}(p:dH n (l++hK R m) v s):dH n (l++hK S m) v s:=by
 have key:∀{a b:Nat},bp.same a b∈hK R m->a<m/\b<m/\eg S a=eg S b:=by
  grind[qV,kd,pe]
 have mk:∀{a},a<m->bp.same a (eg S a)∈l++hK S m:=(by grind[qV]);refine p.least ⟨?_,?_,?_,?_,?_,?_⟩
 ·intro a b aA;rcases List.mem_append.1 aA with aA|aA
  ·exact .base (List.mem_append.2 (.inl aA))
  grind[qV]
 ·intro a b s aA;rcases List.mem_append.1 aA with aA|aA
  ·exact .copy (List.mem_append.2 (.inl aA))
  grind[qV]
 ·intro a b f t s aA;rcases List.mem_append.1 aA with aA|aA
  ·exact .load (List.mem_append.2 (.inl aA))
  grind[qV]
 ·intro a b f t s aA;rcases List.mem_append.1 aA with aA|aA
  ·exact .store (List.mem_append.2 (.inl aA))
  grind[qV]
 ·intro a b f s aA aC ah;rcases List.mem_append.1 aA with aA|aA
  ·exact .same (List.mem_append.2 (.inl aA)) aC ah
  ·obtain⟨c,d,e⟩:=key aA;have ai:=dH.same (mk c) aC ah;rw[e]at ai;exact .nG (mk d) aC ai
 ·intro a b f s aA aC ah;rcases List.mem_append.1 aA with aA|aA
  ·exact .nG (List.mem_append.2 (.inl aA)) aC ah
  ·obtain⟨c,d,e⟩:=key aA;have ai:=dH.same (mk d) aC ah;rw[<-e]at ai;exact .nG (mk c) aC ai
theorem LJ{n m:Nat}{R:Nat->Nat->Prop}{t k a:Nat}:a∈(il n m R).ee t k↔t<m/\k<8/\a<m/\R (n+t*8+k) a:=by
 grind[c8.ee,il,g_]
def bR.Oc{n m:Nat}{R S:Nat->Nat->Prop}(h:∀v s,R v s->S v s){a b:Nat}(t:bR (il n m R) a b):bR (il n m S) a b:=by
 refine t.least ⟨.refl,.symm,.trans,?_,?_⟩
 ·intro L a b c d e;simp only[il,List.mem_map,List.mem_range]at c;obtain⟨v,g,rfl⟩:=c;refine .node (L:=c7 m (S v)) ?_ ?_ ?_
  ·grind[il]
  ·grind[g_]
  grind[g_]
 ·intro s t k a b f d e;refine .field (s:=s) (t:=t) (k:=k) f ?_ ?_
  ·grind[LJ]
  grind[LJ]
noncomputable def abX(n m:Nat)(l:List bp)(R:Nat->Nat->Prop):Nat->Nat->Prop:=bR (hb n m (l++hK R m))
noncomputable def mO(n m:Nat)(l:List bp):Nat->Nat->Nat->Prop
 |0=>bR (hb n m l)
 |k+1=>abX n m l (mO n m l k)
theorem vn(n m:Nat)(l:List bp):∀k,gd (mO n m l k)
 |0=>(bR.jO _).eqv
 |_+1=>(bR.jO _).eqv
theorem PX(n m:Nat)(l:List bp):∀k a b,mO n m l k a b->mO n m l (k+1) a b
 |0,a,b,h=>bR.Oc (λv s p=>p.mono (by grind)) h
 |k+1,a,b,h=>bR.Oc (λv s p=>p.TM (vn n m l k) (vn n m l (k+1)) (PX n m l k)) h
noncomputable def dW(n m:Nat)(l:List bp):Nat->dg
 |0=>merge (hb n m l) m
 |k+1=>merge (hb n m (l++hK (mO n m l k) m)) m
theorem uy(n m:Nat)(l:List bp)(k:Nat):(dW n m l k).of=(List.range m).map (db (mO n m l k)):=by cases k<;>rfl
theorem Eg(n m:Nat)(l:List bp)(k:Nat):(dW n m l k).count=(dw (mO n m l k) m).length:=by cases k<;>rfl
def ac4{R S:Nat->Nat->Prop}(c:gd R)(d:gd S)(h:∀a b,R a b->S a b){s:Nat}(e:eg S s=s):eg R s=s:=by
 grind[kd]
def acA{m:Nat}{p q:Nat->Prop}(h:∀s,p s->q s):(c7 m p).length<=(c7 m q).length:=by
 induction m with
 |zero=>simp[c7]
 |succ m a=>
  grind[mJ]
def O3{m:Nat}{p q:Nat->Prop}(h:∀s,p s->q s)(e:(c7 m q).length<=(c7 m p).length):∀s,s<m->q s->p s:=by
 induction m with
 |zero=>omega
 |succ m a=>
  rw[mJ,mJ,List.length_append,List.length_append]at e;have hle:=acA (m:=m) h;grind
theorem VP{R S:Nat->Nat->Prop}{m:Nat}(h:∀a b,a<m->b<m->(R a b↔S a b))(c:gd R)(d:gd S):∀s,s<m->eg R s=eg S s:=by
 grind[kd]
theorem agi{R S:Nat->Nat->Prop}{m:Nat}(c:gd R)(d:gd S)(h:∀a b,R a b->S a b)(aA:(dw R m).length<=(dw S m).length):∀s,s<m->db S s=db R s:=by
 have e:∀s,s<m->eg R s=s->eg S s=s:=O3 (λs=>ac4 c d h) aA;grind[kd,Ns,pe,db,dw,z8]
theorem ab9(n m:Nat)(l:List bp)(k:Nat)(h:(dW n m l k).count<=(dW n m l (k+1)).count):(dW n m l (k+1)).of=(dW n m l k).of:=by
 grind[Eg,uy,List.map_congr_left,agi,vn,PX]
theorem V3(n m:Nat)(l:List bp)(k:Nat)(h:(dW n m l (k+1)).of≠(dW n m l k).of):(dW n m l (k+1)).count<(dW n m l k).count:=by
 grind[ab9]
noncomputable def Ef(n m:Nat)(l:List bp):dg:=
 let k:=((List.range (m+2)).find? λk=>decide ((dW n m l (k+1)).of=(dW n m l k).of)).getD 0
 dW n m l (k+1)
def Iw(n m:Nat)(l:List bp):∃k,k<m+2/\(dW n m l (k+1)).of=(dW n m l k).of/\(∀j,j<k->(dW n m l (j+1)).of≠(dW n m l j).of)/\Ef n m l=dW n m l (k+1):=by
 have hex:∃k,k<m+2/\(dW n m l (k+1)).of=(dW n m l k).of:=by
  apply Classical.byContradiction;intro aL;have a:∀k,k<=m+1->(dW n m l k).count+k<=(dW n m l 0).count:=by
   intro k
   induction k with
   |zero=>omega
   |succ k b=>
    grind[V3]
  have ah:=a (m+1) (by omega);grind[vi,Eg]
 unfold Ef;cases aC:(List.range (m+2)).find? λk=>decide ((dW n m l (k+1)).of=(dW n m l k).of)with
 |none=>
  grind
 |some k=>
  grind[List.find?_range_eq_some]
end
section
open Classical
inductive g4(fs:List (List Int))(roots:List Int):Nat->Prop where
 |root {c:Nat} (h:(c:Int)∈roots) (aA:c<fs.length):g4 fs roots c
 |step {c d:Nat} {f:List Int} (h:g4 fs roots c) (aC:fs[c]? =some f) (a:(d:Int)∈f) (aw:d<fs.length):g4 fs roots d
noncomputable def fE(fs:List (List Int))(roots:List Int):List Nat:=c7 fs.length (g4 fs roots)
def Fg{fs:List (List Int)}{roots:List Int}{c:Nat}:c∈fE fs roots↔g4 fs roots c:=by
 unfold fE;rw[g_];constructor
 ·grind
 ·intro h;refine⟨?_,h⟩;cases h with
  |root _ aA=>omega
  |step _ _ _ aw=>omega
def g4.mono{fs:List (List Int)}{r df:List Int}(h:∀c:Nat,c<fs.length->(c:Int)∈r->g4 fs df c){c:Nat}(aA:g4 fs r c):g4 fs df c:=by
 induction aA with
 |root ah ai=>grind
 |step _ aC a aw i=>exact .step i aC a aw
def bk(cs:List bT):Nat->Nat
 |0=>0
 |f+1=>bk cs f+((cs[f]?).map λc=>c.vars.length).getD 0
def fN(cs:List bT):Nat:=bk cs cs.length
def cf(x:bC):Nat:=fN x.ay+x.ay.length+x.globals.length
def eG(x:bC)(f:Nat):Nat:=fN x.ay+f
def ew(x:bC)(g:Nat):Nat:=fN x.ay+x.ay.length+g
def dy(c:bT)(v:Int):Bool:=kH (a6 c v)
def ix(c:bT)(at_ to:Nat):List Int->Nat->List bp
 |[],_=>[]
 |v::ak,k=>(bif dy c v then[bp.copy (to+k) (at_+v.toNat)]else[])++ix c at_ to ak (k+1)
def cZ(x:bC)(f:Nat)(c:bT)(i:In):List bp:=
 let at_:=bk x.ay f
 let a:=at_+i.a.toNat
 let b:=at_+i.b.toNat
 match i.op with
 |3=>bif dy c i.a then[.copy a b]else[]
 |6=>bif dy c i.a then[.load a b i.c.toNat]else[]
 |8=>bif dy c i.a then[.load a b 0]else[]
 |7=>bif dy c i.b then[.store a b i.c.toNat]else[]
 |9=>bif dy c i.c then[.store a (at_+i.c.toNat) 0]else[]
 |11=>[.base a i.n.toNat]
 |12=>[.base a i.n.toNat]
 |13=>ix c at_ (bk x.ay i.c.toNat) i.args 0++(bif decide (0<=i.a)&&dy c i.a then[.copy a (eG x i.c.toNat)]else[])
 |18=>bif decide (0<=i.a)&&dy c i.a then[.copy (eG x f) a]else[]
 |19=>bif dy c i.a then[.copy a (ew x i.n.toNat)]else[]
 |20=>bif dy c i.a then[.copy (ew x i.n.toNat) a]else[]
 |_=>[]
def uz(x:bC)(f:Nat)(c:bT):List bp:=c.ins.flatMap (cZ x f c)
def ks(x:bC):List bT->Nat->List bp
 |[],_=>[]
 |c::cs,f=>uz x f c++ks x cs (f+1)
def cons(x:bC):List bp:=ks x x.ay 0
noncomputable def hf(x:bC):dg:=Ef (cf x) x.sites.length (cons x)
def dg.node(k:dg)(v:Nat):Int:=(k.nodes[v]?).getD (-1)
def dg.site(k:dg)(s:Int):Int:=match k.of[s.toNat]? with
 |some c=>(c:Int)
 |none=> -1
noncomputable def ie(x:bC)(k:dg):List Nat:=fE k.fields ((List.range x.globals.length).map λg=>k.node (ew x g))
noncomputable def pt(l r:List Nat):List Nat:=l.filter λa=>decide (a∉r)
noncomputable def mI(x:bC)(k:dg)(f:Nat)(c:bT):List Nat:=
 pt (fE k.fields (k.node (eG x f)::(List.range c.params.toNat).map λv=>k.node (bk x.ay f+v))) (ie x k)
noncomputable def dC(x:bC)(k:dg)(f:Nat):List Nat:=match x.ay[f]? with
 |some c=>mI x k f c
 |none=>[]
inductive m9(x:bC)(k:dg):Nat->Nat->Prop where
 |site {f co i c} (h:x.ay[f]? =some co) (aP:i∈co.ins) (aZ:i.op=11\/i.op=12) (a:k.site i.n=((c:Nat):Int)) (aA:c∈dC x k f):m9 x k f c
 |call {f co i c} (h:x.ay[f]? =some co) (aP:i∈co.ins) (aZ:i.op=13) (ba:m9 x k i.c.toNat c) (aA:c∈dC x k f):m9 x k f c
noncomputable def yo(x:bC)(k:dg)(f:Nat):List Nat:=c7 k.count (m9 x k f)
noncomputable def hO(x:bC)(k:dg)(i:In):List Nat:=
 if i.op=11\/i.op=12 then fE k.fields [k.site i.n]else if i.op=13 then dC x k i.c.toNat else[]
noncomputable def z2(x:bC)(k:dg)(f:Nat)(c:bT):List Nat:=
 c7 k.fields.length λa=>(g4 k.fields ((List.range c.vars.length).map λv=>k.node (bk x.ay f+v)) a\/∃i∈c.ins,a∈hO x k i)/\a∉ie x k/\a∉mI x k f c
end
def mb{α:Type}{l:List α}{i:Int}{a:α}(h:eK l i=A a):0<=i/\i.toNat<l.length/\l[i.toNat]? =A a:=by
 grind[eK]
def FD{c:bT}{v:Int}(h:a6 c v≠bt):0<=v/\v.toNat<c.vars.length/\c.vars[v.toNat]? =A (a6 c v):=by
 grind[a6,eK]
def Af{t:cM}(h:kH t=J):t≠bt:=by
 rintro rfl;revert h;decide
def aiM:da≠bt:=by decide
def aiJ:ey≠bt:=by decide
def KK{x:bC}:∀{cs:List bT} {f k:Nat} {c:bT},kr x cs f=J->cs[k]? =A c->codeOk x (f+k) c=J
 |[],_,_,_,_,h=>by grind
 |d::cs,f,0,c,h,a=>by
  grind[kr]
 |d::cs,f,k+1,c,h,a=>by
  simp only[kr,Bool.and_eq_true]at h;have:=KK h.2 (k:=k) (by simpa using a);grind
structure ez(x:bC):Prop where
 b_:x.b_.length<=12
 globals:x.globals.length<=8
 ay:1<=x.ay.length/\x.ay.length<=16
 sites:x.sites.length<=60
 code:∀{f:Nat} {c:bT},x.ay[f]? =some c->codeOk x f c=true
 site:∀{s:r0},s∈x.sites->jz x s=true
 L7:∀{t:cM},t∈x.globals->eD x.b_.length t=true
 acX:∀{l:List cM},l∈x.b_->l.length<=8
def ga{x:bC}(h:right x=J):ez x:=by
 unfold right at h;simp only[Bool.and_eq_true,decide_eq_true_eq,List.all_eq_true]at h;obtain⟨⟨ah,ai,ax,aM,b⟩,i,c,d,e,g,a⟩:=h;exact⟨ah,ai,(by omega),b,λaA=>by have:=KK a aA;grind,λf=>e _ f,λba=>c _ ba,λaw=>(d _ aw).1⟩
structure I3(x:bC)(f:Nat)(c:bT):Prop where
 params:0<=c.params/\c.params<=6/\c.params<=c.vars.length
 vars:c.vars.length<=4000
 akn:1<=c.ins.length
 ins:∀{i:In},i∈c.ins->dY x f c i=true
 last:kx (k5 c.ins)=true
def ia{x:bC}{f:Nat}{c:bT}(h:codeOk x f c=J):I3 x f c:=by
 unfold codeOk at h;simp only[Bool.and_eq_true,decide_eq_true_eq,List.all_eq_true]at h;obtain⟨⟨ah,ai,ax,aM,a⟩,_,_,b,d⟩:=h;exact⟨(by omega),aM,a,λaP=>b _ aP,d⟩
def sz{x:bC}(ar:ez x){t:cM}{k:Int}(h:e8 x t k≠bt):0<=k/\k.toNat<8:=by
 unfold e8 mL at h;split at h
 ·cases aA:eK x.b_ t.r with
  |none=>grind
  |some l=>
   cases a:eK l k with
   |none=>grind
   |some u=>
    obtain⟨ah,ai,_⟩:=mb a;obtain⟨_,_,ax⟩:=mb aA;have:=ar.acX (List.mem_of_getElem? ax);omega
 grind
def nc{x:bC}{f:Nat}{s:Int}{t:cM}(h:iT x f s t=J):0<=s/\s.toNat<x.sites.length/\∃z,x.sites[s.toNat]? =A z/\z.f=f/\z.ty=t:=by
 unfold iT at h;split at h
 ·rename_i z a;obtain⟨ah,ai,ax⟩:=mb a;grind
 grind
def JI{c g:bT}:∀{l:List Int} {k j:Nat} {v:Int},kX c g l k=J->l[j]? =A v->a6 c v≠bt/\g.vars[k+j]? =A (a6 c v)
 |[],_,_,_,_,h=>by grind
 |a::l,k,0,v,h,b=>by
  grind[kX]
 |a::l,k,j+1,v,h,b=>by
  simp only[kX,Bool.and_eq_true,decide_eq_true_eq]at h;have:=JI h.2.2 (j:=j) (by simpa using b);grind
structure I1(x:bC)(c:bT)(i:In)(g:bT):Prop where
 at_:0<=i.c/\x.ay[i.c.toNat]? =some g
 len:(i.args.length:Int)=g.params
 le:g.params<=g.vars.length
 arg:∀{j:Nat} {v:Int},i.args[j]? =some v->a6 c v≠bt/\g.vars[j]? =some (a6 c v)
 res:i.a= -1\/(g.has=true/\a6 c i.a≠bt/\a6 c i.a=g.res)
def U7{x:bC}{c:bT}{i:In}(h:mh x c i=J):∃g,I1 x c i g:=by
 unfold mh at h;split at h
 ·cases h
 ·rename_i g aS;obtain⟨ah,ai,ax⟩:=mb aS;simp only[Bool.and_eq_true,decide_eq_true_eq,Bool.or_eq_true,beq_iff_eq]at h;obtain⟨⟨d,a,a3⟩,a4,a5⟩:=h;exact⟨g,⟨ah,ax⟩,a3,a,λb=>by have:=JI a4 b;grind,a5⟩
def Dn{cs:List bT}{f:Nat}{c:bT}(h:cs[f]? =A c):bk cs (f+1)=bk cs f+c.vars.length:=by
 simp[bk,h]
def IK{cs:List bT}:∀{f g:Nat},f<=g->bk cs f<=bk cs g
 |f,0,h=>by
  grind
 |f,g+1,h=>by
  rcases Nat.lt_or_eq_of_le h with ah|rfl
  ·have:=IK (cs:=cs) (Nat.le_of_lt_succ ah);grind[bk]
  omega
def rQ{cs:List bT}{f:Nat}{c:bT}(h:cs[f]? =A c){v:Nat}(a:v<c.vars.length):bk cs f+v<fN cs:=by
 have aC:=(List.getElem?_eq_some_iff.1 h).1;have ah:=Dn h;have ai:=IK (cs:=cs) (show f+1<=cs.length by omega);grind[fN]
end Go.a_
namespace Go.Proofs.YtmhhnnklfcbgfaaGreat
open Go.cw
open Nat (reduceAdd reduceLeDiff)
section
open Go.a_
set_option maxRecDepth 2000
def cb(t:cM):List af:=[D F t.b,D F t.r,D F t.d]
def c3(t:cM):af:= .agg (cb t)
def e_:eS cM:=⟨3,λ_ _ t cs=>cs=cb t,by rintro _ _ _ _ rfl;exact⟨rfl,rfl⟩,λ_ h=>h⟩
def l1:eS cM:=⟨4,λ_ _ t cs=>∃s,cs= X s::cb t,by rintro _ _ _ _ ⟨s,rfl⟩;exact⟨rfl,rfl⟩,λ_ h=>h⟩
def m4:eS (List cM):=⟨2,λH ok l cs=>∃s v,cs=[X s,v]/\aH l1 H ok l v,by
 rintro _ _ _ _ ⟨s,v,rfl,h⟩;exact⟨rfl,by have:=h.one;grind[af.one]⟩,by
 rintro _ _ _ _ _ _ p ⟨s,v,rfl,h⟩;exact⟨s,v,rfl,h.keep p⟩⟩
def gq:eS In:=⟨6,λH ok i cs=>∃v,cs=[D F i.op,D F i.a,D F i.b,D F i.c,D F i.n,v]/\aH aN H ok i.args v,by
 rintro _ _ _ _ ⟨v,rfl,h⟩;exact⟨rfl,by have:=h.one;grind[af.one]⟩,by
 rintro _ _ _ _ _ _ p ⟨v,rfl,h⟩;exact⟨v,rfl,h.keep p⟩⟩
def gf:eS bT:=⟨7,λH ok c cs=>∃v w,cs=[D F c.params,v,C c.has,D F c.res.b,D F c.res.r,D F c.res.d,w]/\aH e_ H ok c.vars v/\aH gq H ok c.ins w,by
 rintro _ _ _ _ ⟨v,w,rfl,h,ai⟩;exact⟨rfl,by have ax:=h.one;have aM:=ai.one;grind[af.one]⟩,by
 rintro _ _ _ _ _ _ p ⟨v,w,rfl,h,ai⟩;exact⟨v,w,rfl,h.keep p,ai.keep p⟩⟩
def m5:eS r0:=⟨4,λ_ _ z cs=>cs= D F z.f::cb z.ty,by rintro _ _ _ _ rfl;exact⟨rfl,rfl⟩,λ_ h=>h⟩
def fo:fa 22 95 2:=⟨aF,aF,⟨40,aF,bZ⟩,⟨.agg [X [],.ao],aF,rfl,rfl⟩,bZ⟩
def cS:fa 23 46 3:=⟨aF,aF,⟨24,aF,bZ⟩,⟨.agg [D F 0,D F 0,D F 0],aF,rfl,rfl⟩,bZ⟩
def cD:fa 24 49 7:=⟨aF,aF,⟨88,aF,bZ⟩,⟨.agg [D F 0,.ao,C I,D F 0,D F 0,D F 0,.ao],aF,rfl,rfl⟩,bZ⟩
def fH:fa 25 100 4:=⟨aF,aF,⟨32,aF,bZ⟩,⟨.agg [D F 0,D F 0,D F 0,D F 0],aF,rfl,rfl⟩,bZ⟩
def eP:fa 47 89 6:=⟨aF,aF,⟨64,aF,bZ⟩,⟨.agg [D F 0,D F 0,D F 0,D F 0,D F 0,.ao],aF,rfl,rfl⟩,bZ⟩
def jo:fa 93 98 4:=⟨aF,aF,⟨40,aF,bZ⟩,⟨.agg [X [],D F 0,D F 0,D F 0],aF,rfl,rfl⟩,bZ⟩
def uc(H:ae)(ok:Nat->Prop)(x:bC)(cs:List af):Prop:=∃a b c d,cs=[a,b,c,d,D F x.main]/\aH m4 H ok x.b_ a/\aH e_ H ok x.globals b/\aH gf H ok x.ay c/\aH m5 H ok x.sites d
def cA(H:ae)(ok:Nat->Prop)(x:bC)(v:af):Prop:=∃cs,v= .agg cs/\uc H ok x cs
def uc.keep{H H':ae}{ok ok':Nat->Prop}{x:bC}{cs:List af}(p:dm H ok H' ok'):uc H ok x cs->uc H' ok' x cs:=by
 rintro⟨a,b,c,d,rfl,ah,ai,ax,aM⟩;exact⟨a,b,c,d,rfl,ah.keep p,ai.keep p,ax.keep p,aM.keep p⟩
def cA.keep{H H':ae}{ok ok':Nat->Prop}{x:bC}{v:af}(p:dm H ok H' ok'):cA H ok x v->cA H' ok' x v:=λ⟨cs,e,h⟩=>⟨cs,e,h.keep p⟩
theorem cA.aB{H H':ae}{ok:Nat->Prop}{x:bC}{v:af}(h:cA H ok x v)(p:au H H'):cA H' ok x v:=h.keep (.aB p)
def yu(H:ae)(ok:Nat->Prop)(i:In)(v:af):Prop:=∃cs,v= .agg cs/\gq.V H ok i cs
def I2(H:ae)(ok:Nat->Prop)(c:bT)(v:af):Prop:=∃cs,v= .agg cs/\gf.V H ok c cs
theorem jK{α:Type}{l:List α}{i:Int}(a:0<=i):eK l i=l[i.toNat]? :=if_pos a
def JP{α:Type}{l:List α}{i:Int}{a:α}:eK l i=A a↔0<=i/\l[i.toNat]? =A a:=by
 grind[eK]
theorem gi{α:Type}{l:List α}{i:Int}:eK l i=Z↔i<0\/(l.length:Int)<=i:=by
 grind[eK]
def TE(a b c b1 b' d:Int):jg P 10000 46 (.agg [D F a,D F b,D F c]) (.agg [D F b1,D F b',D F d])=bif a==b1 then(bif b==b' then(bif c==d then A J else A I)else A I)else A false:=aF
theorem Jn(t u:cM):jg P 10000 46 (c3 t) (c3 u)=A (decide (t=u)):=by
 refine(TE t.b t.r t.d u.b u.r u.d).trans ?_;obtain⟨a,b,c⟩:=t;obtain⟨b1,b',e⟩:=u;grind[cM.mk.injEq]
def dx(t u:cM)(z:Bool):bx P .eql 46 z (c3 t) (c3 u)=A (C (decide (t=u))):=by
 have h:o5 P 46 z (c3 t) (c3 u)=true:=aF;show(if o5 P 46 z (c3 t) (c3 u)then(jg P 10000 46 (c3 t) (c3 u)).map af.bool else Z)=_;grind[Jn]
def iH(t u:cM)(z:Bool):bx P .neq 46 z (c3 t) (c3 u)=A (C (decide (t≠u))):=by
 have h:o5 P 46 z (c3 t) (c3 u)=true:=aF;show(if o5 P 46 z (c3 t) (c3 u)then(jg P 10000 46 (c3 t) (c3 u)).map (λb=>af.bool (!b))else Z)=_;grind[Jn]
end
section
set_option maxRecDepth 100000
set_option maxHeartbeats 4000000
noncomputable section
def lR(G:aq)(N:Nat):eJ 1 Tryz.f24 G N (·.aa.aa.aa.aa.aa.aa.aa) (a8 Tryz.f24) []:=⟨_,v1 an⟩
def nB(G:aq)(N:Nat)(L4:T2):gG 1 11 Tryz.f24 G N (·.aa.aa.aa.aa.aa.aa.aj.aa.aj.aj.aa.aa) (bd L4 1 11) [(8,(a1 (lR G N) 1))]:=⟨_,v2 an⟩
def pX(G:aq)(N:Nat)(L4:T2):eh 1 11 12 Tryz.f24 G N (·.aa.aa.aa.aa.aa.aa.aj.aa.aj.aj.aa.aj.aj.aa.aa) (bd (nB G N L4) 1 11) [(9,(bd (nB G N L4) 1 11)),(8,(a1 (lR G N) 1))]:=⟨_,v3 an⟩
def BD(G:aq)(N:Nat)(L4:T2)(a:cg):dI 1 11 12 13 Tryz.f24 G N (·.aa.aa.aa.aa.aa.aa.aj.aa.aj.aj.aa.aj.aj.aa.aj.aa.aj.aj) (bI a 1 11 12 13) [(10,(bn (pX G N L4) 1 11 12)),(9,(bd (nB G N L4) 1 11)),(8,(a1 (lR G N) 1))]:=⟨_,v4 an⟩
def wG(G:aq)(N:Nat)(L4:T2):Nat->cg
 |0=>fq
 |n+1=>BD G N L4 (wG G N L4 n)
def tx(G:aq)(N:Nat)(L4:T2):gG 1 11 Tryz.f24 G N (·.aa.aa.aa.aa.aa.aa.aj.aa.aj.aj) (bd L4 1 11) [(8,(a1 (lR G N) 1))]:=⟨_,v2 (ak (ak ((nB G N L4).2) (bj (ak (ak ((pX G N L4).2) (ak (bj (bH (λm=>(BD G N L4 (wG G N L4 m)).2))) an)) an))) an)⟩
def rk(G:aq)(N:Nat):Nat->T2
 |0=>m2
 |n+1=>tx G N (rk G N n)
def tA(G:aq)(N:Nat):eJ 1 Tryz.f24 G N (·.aa.aa.aa.aa.aa.aa) (a8 Tryz.f24) []:=⟨_,v1 (ak ((lR G N).2) (ak (bj (bH (λm=>(tx G N (rk G N m)).2))) an))⟩
def mR(G:aq)(N:Nat)(L8:b6):eh 1 8 9 Tryz.f24 G N (·.aa.aa.aa.aa.aa.aj.aa.aj.aj) (bn L8 1 8 9) [(6,(a1 (tA G N) 1))]:=⟨λx1 x8 x9 H=>aU (bO P 27 x1 2) λav=>aU (aI P H 24 av) λaw=>eM P .len [24] [aw] H λay=>aU (bx P .lss 3 I x9 ay) λaA=>ep (A aA) (aU (bO P 27 x1 2) λaC=>aU (aI P H 24 aC) λaD=>aU (ct P 24 aD x9) λaE=>aU (aI P H 49 aE) λaF=>e5 H [D F 0,af.ao,C I,D F 0,D F 0,D F 0,af.ao] λx10 ah=>gp ah (cr P ah 49 x10 aF) λai=>aU (bO P 49 x10 4) λaG=>aU (aI P ai 47 aG) λaH=>eM P .len [47] [aH] ai λaJ=>aU (bx P .add 3 I x8 aJ) λz=>aU (bO P 49 x10 1) λaK=>aU (aI P ai 23 aK) λaL=>eM P .len [23] [aL] ai λaN=>aU (bx P .gtr 3 J aN (D F 4000)) λh=>bW h I ai (ck (bO P 49 x10 0)) λaO ax=>bW h I ax (qr (aI P ax 3 aO)) λaP aM=>bW h I aM (ck (bx P .lss 3 J aP (D F 0))) λaQ am=>aU (dt h (A (C J)) (A aQ)) λi=>bW i I am (ck (bO P 49 x10 0)) λaR x=>bW i I x (qr (aI P x 3 aR)) λaS ap=>bW i I ap (ck (bx P .gtr 3 J aS (D F 6))) λaT ar=>aU (dt i (A (C J)) (A aT)) λa=>bW a I ar (ck (bO P 49 x10 0)) λaV y=>bW a I y (qr (aI P y 3 aV)) λaX K=>bW a I K (ck (bO P 49 x10 1)) λaY m=>bW a I m (qr (aI P m 23 aY)) λB n=>bW a I n (λq=>iM (bE P .empty .len [23] [B]) (bE P n .len [23] [B]) q) λaZ L=>bW a I L (ck (bx P .gtr 3 I aX aZ)) λa0 o=>aU (dt a (A (C J)) (A a0)) λb=>bW b I o (qr (aI P o 27 x1)) λa2 M=>bW b I M (ck (bO P 49 x10 1)) λa3 p=>bW b I p (qr (aI P p 23 a3)) λa4 j=>bW b I j (λq=>eb j (G 48 [a2,a4] j) q) λa5 O=>bW b I O (ck (jL .not a5)) λa6 Q=>aU (dt b (A (C J)) (A a6)) λe=>bW e I Q (ck (bO P 49 x10 4)) λa7 r=>bW e I r (qr (aI P r 47 a7)) λE s=>bW e I s (λq=>iM (bE P .empty .len [47] [E]) (bE P s .len [47] [E]) q) λa8 R=>bW e I R (ck (bx P .lss 3 J a8 (D F 1))) λa9 S=>aU (dt e (A (C J)) (A a9)) λl=>bW l I S (qv z) λa_ T=>bW l I T (ck (bx P .gtr 3 J a_ (D F 2500))) λba g=>aU (dt l (A (C J)) (A ba)) λbb=>ep (A bb) (A ((C I),g)) (aU (bO P 49 x10 2) λbc=>aU (aI P g 4 bc) λc=>bW c J g (qr (aI P g 27 x1)) λbd U=>bW c J U (ck (bO P 49 x10 3)) λbe t=>bW c J t (qr (aI P t 46 be)) λbf k=>bW c J k (λq=>eb k (G 49 [bd,bf] k) q) λbg V=>bW c J V (ck (jL .not bg)) λbh W=>aU (dt c (A bh) (A (C I))) λd=>bW d I W (ck (bO P 49 x10 2)) λbi u=>bW d I u (qr (aI P u 4 bi)) λbj Y=>bW d I Y (ck (jL .not bj)) λbk ab=>bW d I ab (qv bk) λf ad=>bW f J ad (ck (bO P 49 x10 3)) λbl v=>bW f J v (qr (aI P v 46 bl)) λbm ae=>bW f J ae (qv (.agg [D F 0,D F 0,D F 0])) λbo ak=>bW f J ak (ck (bx P .neq 46 I bm bo)) λbp al=>bW d I al (ck (dt f (A bp) (A (C I)))) λbq w=>aU (dt d (A (C J)) (A bq)) λbr=>ep (A br) (A ((C I),w)) (aU (bx P .add 3 J x9 (D F 1)) λaB=>L8 x1 z aB w))) (tA G N x1 H),cO an⟩
def rl(G:aq)(N:Nat):Nat->b6
 |0=>gD
 |n+1=>mR G N (rl G N n)
def wF(G:aq)(N:Nat):eJ 1 Tryz.f24 G N (·.aa.aa.aa.aa) (a8 Tryz.f24) []:=⟨_,v1 (ak (ak ((tA G N).2) (ak (bj (bH (λm=>(mR G N (rl G N m)).2))) an)) an)⟩
def pW(G:aq)(N:Nat)(L9:T2):gG 1 6 Tryz.f24 G N (·.aa.aa.aa.aj.aa.aj.aj) (bd L9 1 6) [(4,(a1 (wF G N) 1))]:=⟨_,v2 an⟩
def oz(G:aq)(N:Nat):Nat->T2
 |0=>m2
 |n+1=>pW G N (oz G N n)
def ri(G:aq)(N:Nat):eJ 1 Tryz.f24 G N (·.aa.aa.aa) (a8 Tryz.f24) []:=⟨_,v1 (ak ((wF G N).2) (ak (bj (bH (λm=>(pW G N (oz G N m)).2))) an))⟩
def tz(G:aq)(N:Nat)(L10:T2):gG 1 3 Tryz.f24 G N (·.aa.aa.aj.aa.aj.aj.aa.aa) (bd L10 1 3) [(0,(a1 (ri G N) 1))]:=⟨_,v2 an⟩
def tw(G:aq)(N:Nat)(L10:T2)(a:cg):dI 1 3 4 5 Tryz.f24 G N (·.aa.aa.aj.aa.aj.aj.aa.aj.aj.aa.aa.aa.aj.aj) (bI a 1 3 4 5) [(2,(bd (tz G N L10) 1 3)),(1,(bd (tz G N L10) 1 3)),(0,(a1 (ri G N) 1))]:=⟨_,v4 an⟩
def rj(G:aq)(N:Nat)(L10:T2):Nat->cg
 |0=>fq
 |n+1=>tw G N L10 (rj G N L10 n)
def rh(G:aq)(N:Nat)(L10:T2):gG 1 3 Tryz.f24 G N (·.aa.aa.aj.aa.aj.aj) (bd L10 1 3) [(0,(a1 (ri G N) 1))]:=⟨_,v2 (ak (ak ((tz G N L10).2) (bj (ak (ak (ak (bj (bH (λm=>(tw G N L10 (rj G N L10 m)).2))) an) an) an))) an)⟩
def pY(G:aq)(N:Nat):Nat->T2
 |0=>m2
 |n+1=>rh G N (pY G N n)
def oy(G:aq)(N:Nat):fM Tryz.f24 G N:=⟨_,t1 (ak (ak (ak ((ri G N).2) (ak (bj (bH (λm=>(rh G N (pY G N m)).2))) an)) an) an)⟩
def aeL(N:Nat):=en Tryz.func24 λG=>(oy G N).2
def Cc(G:aq)(N:Nat):hJ Tryz.f48 G N (·.aa.aa) (a8 Tryz.f48) []:=⟨_,v0 an⟩
def Cb(G:aq)(N:Nat)(L1:b6):eh 1 2 5 Tryz.f48 G N (·.aa.aj.aa.aj.aj) (bn L1 1 2 5) [(0,(br (Cc G N)))]:=⟨_,v3 an⟩
def w_(G:aq)(N:Nat):Nat->b6
 |0=>gD
 |n+1=>Cb G N (w_ G N n)
def Ca(G:aq)(N:Nat):fW Tryz.f48 G N:=⟨_,t2 (ak (ak ((Cc G N).2) (ak (bj (bH (λm=>(Cb G N (w_ G N m)).2))) an)) an)⟩
def afi(N:Nat):=c1 Tryz.func48 λG=>(Ca G N).2
def p2(G:aq):W0 Tryz.f49 G (·.aa.aa.aa) (a8 Tryz.f49) []:=⟨_,λN=>v0 an⟩
def Cd(G:aq):nT 2 3 14 15 Tryz.f49 G (·.aa.aa.aj.aa.aj.aa) (br (p2 G)) [(0,(br (p2 G)))]:=⟨_,λN=>v4 an⟩
def xa(G:aq):eO Tryz.f49 G:=⟨_,λN=>t2 (ak (ak (ak ((p2 G).2 N) (ak (bj (ak ((Cd G).2 N) an)) an)) an) an)⟩
def afj(N:Nat):=c1 Tryz.func49 λG=>(xa G).2 N
def iI(G:aq):W0 Tryz.f51 G (·.aa.aa.aa.aa.aa.aa) (a8 Tryz.f51) []:=⟨_,λN=>v0 an⟩
def jx(G:aq):r4 3 5 8 9 317 Tryz.f51 G (·.aa.aa.aa.aa.aa.aj.aa.aj.aa.aa.aa.aa.aa.aa.aa.aa.aa.aa.aa.aa.aa.aa.aa.aa.aa.aa.aa.aa.aa.aa.aa.aa.aa.aa.aa.aa.aa.aa.aa.aa.aa.aa.aa) (br (iI G)) [(0,(br (iI G)))]:=⟨_,λN=>v5 an⟩
def jw(G:aq):r5 3 5 7 8 9 45 250 Tryz.f51 G (·.aa.aa.aa.aa.aa.aj.aa.aj.aa.aa.aa.aa.aa.aa.aa.aa.aa.aa.aa.aa.aa.aa.aa.aa.aa.aa.aa.aa.aa.aa.aa.aa.aa.aa.aa) (br (iI G)) [(0,(br (iI G)))]:=⟨λx3 x5 x7 x8 x9 x S H=>ep (A S) (ea H (G 104 [] H) λT ah=>aU (aI P ah 46 x9) λB=>aU (bx P .eql 46 I B T) λU=>bif ((bF (aI P H 46 x9) B&&bF (aI P ah 46 x9) B)&&J)then(A (U,ah))else Z) (aU (bx P .eql 3 J x (D F 16)) λV=>ep (A V) (aU (bO P 89 x5 4) λW=>aU (aI P H 3 W) λY=>aU (bx P .geq 3 J Y (D F 0)) λn=>bW n J H (ck (bO P 89 x5 4)) λab ah=>bW n J ah (qr (aI P ah 3 ab)) λad ai=>bW n J ai (ck (bO P 49 x7 4)) λae ax=>bW n J ax (qr (aI P ax 47 ae)) λK aM=>bW n J aM (λq=>iM (bE P .empty .len [47] [K]) (bE P aM .len [47] [K]) q) λaf Q=>bW n J Q (ck (bx P .lss 3 I ad af)) λal R=>aU (dt n (A al) (A (C I))) λam=>A (am,R)) (aU (bx P .eql 3 J x (D F 17)) λap=>ep (A ap) (ea H (G 105 [] H) λM ah=>aU (aI P ah 46 x9) λL=>aU (bx P .eql 46 I L M) λt=>ca t J (ck (bO P 89 x5 4)) λa=>ca t J (qr (aI P (a.heap ah) 3 a.val)) λc=>ca t J (ck (bx P .geq 3 J c.val (D F 0))) λd=>aU (dt t (A d.val) (A (C I))) λh=>ca h J (ck (bO P 89 x5 4)) λb=>ca h J (qr (aI P (b.heap (d.heap (c.heap (a.heap ah)))) 3 b.val)) λg=>ca h J (ck (bO P 49 x7 4)) λe=>ca h J (qr (aI P (e.heap (g.heap (b.heap (d.heap (c.heap (a.heap ah)))))) 47 e.val)) λf=>ca h J (λq=>iM (bE P .empty .len [47] [f.val]) (bE P (f.heap (e.heap (g.heap (b.heap (d.heap (c.heap (a.heap ah))))))) .len [47] [f.val]) q) λl=>ca h J (ck (bx P .lss 3 I g.val l.val)) λm=>aU (dt h (A m.val) (A (C I))) λu=>ca u J (ck (bO P 89 x5 3)) λj=>ca u J (qr (aI P (j.heap (m.heap (l.heap (f.heap (e.heap (g.heap (b.heap (d.heap (c.heap (a.heap ah)))))))))) 3 j.val)) λo=>ca u J (ck (bx P .geq 3 J o.val (D F 0))) λp=>aU (dt u (A p.val) (A (C I))) λi=>ca i J (ck (bO P 89 x5 3)) λk=>ca i J (qr (aI P (k.heap (p.heap (o.heap (j.heap (m.heap (l.heap (f.heap (e.heap (g.heap (b.heap (d.heap (c.heap (a.heap ah))))))))))))) 3 k.val)) λv=>ca i J (ck (bO P 49 x7 4)) λr=>ca i J (qr (aI P (r.heap (v.heap (k.heap (p.heap (o.heap (j.heap (m.heap (l.heap (f.heap (e.heap (g.heap (b.heap (d.heap (c.heap (a.heap ah))))))))))))))) 47 r.val)) λs=>ca i J (λq=>iM (bE P .empty .len [47] [s.val]) (bE P (s.heap (r.heap (v.heap (k.heap (p.heap (o.heap (j.heap (m.heap (l.heap (f.heap (e.heap (g.heap (b.heap (d.heap (c.heap (a.heap ah)))))))))))))))) .len [47] [s.val]) q) λy=>ca i J (ck (bx P .lss 3 I v.val y.val)) λz=>aU (dt i (A z.val) (A (C I))) λE=>bif jj [0,0,3,7,15,31,63,127,255,511,1023,511,2559,6655,16383,32767,65535,131071,262143,524287,1048575,2097151,4194303,8388607,4194303,20971519,54525951,134217727,268435455,536870911] [1,2,3,4,5,6,7,8,9,10,11,12,13,14,15,16,17,18,19,20,21,22,23,24,25,26,27,28,29] [⟨1,.cR M ah,λH=>Z⟩,⟨0,.read L,λH=>aI P H 46 x9⟩,⟨2,.pure t,λH=>Z⟩,⟨3,.pure t,λH=>Z⟩,⟨4,a,λH=>Z⟩,⟨5,c,λH=>aI P H 3 a.val⟩,⟨6,d,λH=>Z⟩,⟨7,.pure h,λH=>Z⟩,⟨8,.pure h,λH=>Z⟩,⟨9,b,λH=>Z⟩,⟨10,g,λH=>aI P H 3 b.val⟩,⟨11,e,λH=>Z⟩,⟨12,f,λH=>aI P H 47 e.val⟩,⟨13,l,λH=>bE P H .len [47] [f.val]⟩,⟨14,m,λH=>Z⟩,⟨15,.pure u,λH=>Z⟩,⟨16,.pure u,λH=>Z⟩,⟨17,j,λH=>Z⟩,⟨18,o,λH=>aI P H 3 j.val⟩,⟨19,p,λH=>Z⟩,⟨20,.pure i,λH=>Z⟩,⟨21,.pure i,λH=>Z⟩,⟨22,k,λH=>Z⟩,⟨23,v,λH=>aI P H 3 k.val⟩,⟨24,r,λH=>Z⟩,⟨25,s,λH=>aI P H 47 r.val⟩,⟨26,y,λH=>bE P H .len [47] [s.val]⟩,⟨27,z,λH=>Z⟩,⟨28,.pure E,λH=>Z⟩,⟨29,.pure E,λH=>Z⟩] H then(A (E,(z.heap (y.heap (s.heap (r.heap (v.heap (k.heap (p.heap (o.heap (j.heap (m.heap (l.heap (f.heap (e.heap (g.heap (b.heap (d.heap (c.heap (a.heap ah))))))))))))))))))))else Z) (aU (bx P .eql 3 J x (D F 18)) λar=>ep (A ar) (aU (bO P 49 x7 2) λav=>aU (aI P H 4 av) λaw=>aU (jL .not aw) λay=>ep (A ay) (aU (bO P 89 x5 1) λaA=>aU (aI P H 3 aA) λaB=>aU (bx P .eql 3 J aB (D F (-1))) λaC=>A (aC,H)) (aU (aI P H 46 x9) λaD=>aU (aI P H 46 x8) λaE=>aU (bx P .neq 46 I aD aE) λw=>bW w J H (qr (aI P H 46 x9)) λaF ah=>bW w J ah (ck (bO P 49 x7 3)) λaG ai=>bW w J ai (qr (aI P ai 46 aG)) λaH ax=>bW w J ax (ck (bx P .eql 46 I aF aH)) λaJ aM=>aU (dt w (A aJ) (A (C I))) λaK=>A (aK,aM))) (aU (bx P .eql 3 J x (D F 19)) λO=>ep (A O) (jx G x3 x5 x8 x9 O H) (aU (bx P .eql 3 J x (D F 20)) λaL=>jx G x3 x5 x8 x9 aL H))))),λN=>cO (c4 an (ak (c4 an (ak (c4 an (ak (c4 an (ak ((jx G).2 N) an)) an)) an)) an))⟩
def Rh(G:aq):jH Tryz.f51 G:=⟨λbA x1 x2 H=>fe H (fj (H).next bA) λx3 ah=>fe ah (fj (ah).next x2) λx5 ai=>aU (bx P .lss 3 J x1 (D F 0)) λM=>bW M I ai (qv x1) λbG ax=>bW M I ax (ck (bO P 27 x3 2)) λbI aM=>bW M I aM (qr (aI P aM 24 bI)) λba a3=>bW M I a3 (λq=>iM (bE P .empty .len [24] [ba]) (bE P a3 .len [24] [ba]) q) λbK bw=>bW M I bw (ck (bx P .geq 3 I bG bK)) λbL a4=>aU (dt M (A (C J)) (A bL)) λab=>bW ab I a4 (qr (aI P a4 89 x5)) λbZ aw=>bW ab I aw (λq=>eb aw (G 102 [bZ] aw) q) λb7 bz=>bW ab I bz (ck (jL .not b7)) λb8 Y=>aU (dt ab (A (C J)) (A b8)) λce=>ep (A ce) (A ((C I),Y)) (aU (bO P 27 x3 2) λcg=>aU (aI P Y 24 cg) λch=>aU (ct P 24 ch x1) λci=>aU (aI P Y 49 ci) λcj=>e5 Y [D F 0,af.ao,C I,D F 0,D F 0,D F 0,af.ao] λx7 aS=>gp aS (cr P aS 49 x7 cj) λbo=>e5 bo [D F 0,D F 0,D F 0] λx8 aT=>gp aT (cr P aT 46 x8 (.agg [D F 0,D F 0,D F 0])) λo=>aU (aI P o 49 x7) λbh=>aU (bO P 89 x5 1) λbi=>aU (aI P o 3 bi) λbk=>ea o (G 103 [bh,bk] o) λcl x=>aU (aI P x 49 x7) λaL=>aU (bO P 89 x5 2) λaN=>aU (aI P x 3 aN) λaO=>ea x (G 103 [aL,aO] x) λcm E=>aU (aI P E 49 x7) λaj=>aU (bO P 89 x5 3) λal=>aU (aI P E 3 al) λam=>ea E (G 103 [aj,am] E) λcn bp=>e5 bp [D F 0,D F 0,D F 0] λx9 bq=>e5 bq [D F 0,D F 0,D F 0] λx10 br=>e5 br [D F 0,D F 0,D F 0] λx11 aV=>gp aV (cr P aV 46 x9 cl) λaX=>gp aX (cr P aX 46 x10 cm) λaY=>gp aY (cr P aY 46 x11 cn) λa=>bif ((bF (aI P o 49 x7) bh&&J)&&((bF (aI P o 3 bi) bk&&J)&&((bF (aI P o 49 x7) aL&&(bF (aI P x 49 x7) aL&&J))&&((bF (aI P o 3 aN) aO&&(bF (aI P x 3 aN) aO&&J))&&((bF (aI P o 49 x7) aj&&(bF (aI P x 49 x7) aj&&(bF (aI P E 49 x7) aj&&J)))&&((bF (aI P o 3 al) am&&(bF (aI P x 3 al) am&&(bF (aI P E 3 al) am&&J)))&&J))))))then(aU (bO P 89 x5 0) λco=>aU (aI P a 3 co) λm=>aU (bx P .eql 3 J m (D F 1)) λcp=>ep (A cp) (ea a (G 104 [] a) λbm j=>aU (aI P j 46 x9) λbl=>aU (bx P .eql 46 I bl bm) λx50=>ca x50 I (λq=>eb j (G 105 [] j) q) λb=>ca x50 I (qr (aI P (b.heap j) 46 x9)) λd=>ca x50 I (ck (bx P .eql 46 I d.val b.val)) λc=>ca x50 I (qv c.val) λe=>ca e.val J (ck (bO P 89 x5 4)) λf=>ca e.val J (qr (aI P (f.heap (e.heap (c.heap (d.heap (b.heap j))))) 3 f.val)) λg=>ca e.val J (ck (bx P .eql 3 J g.val (D F 0))) λh=>ca e.val J (qv h.val) λi=>ca i.val I (ck (bO P 89 x5 4)) λk=>ca i.val I (qr (aI P (k.heap (i.heap (h.heap (g.heap (f.heap (e.heap (c.heap (d.heap (b.heap j))))))))) 3 k.val)) λl=>ca i.val I (ck (bx P .eql 3 J l.val (D F 1))) λn=>ca e.val J (ck (dt i.val (A (C J)) (A n.val))) λp=>ca x50 I (ck (dt e.val (A p.val) (A (C I)))) λr=>aU (dt x50 (A (C J)) (A r.val)) λaP=>bif jj [0,0,3,7,15,15,63,127,255,511,1023,2047,4095,8191,16383,32767,65535,131071,262143] [1,2,3,5,6,7,8,9,10,11,12,13,14,15,16,17,18] [⟨1,.cR bm j,λH=>Z⟩,⟨0,.read bl,λH=>aI P H 46 x9⟩,⟨2,.pure x50,λH=>Z⟩,⟨3,.pure x50,λH=>Z⟩,⟨5,b,λH=>Z⟩,⟨4,d,λH=>aI P H 46 x9⟩,⟨6,c,λH=>Z⟩,⟨7,e,λH=>Z⟩,⟨8,f,λH=>Z⟩,⟨9,g,λH=>aI P H 3 f.val⟩,⟨10,h,λH=>Z⟩,⟨11,i,λH=>Z⟩,⟨12,k,λH=>Z⟩,⟨13,l,λH=>aI P H 3 k.val⟩,⟨14,n,λH=>Z⟩,⟨15,p,λH=>Z⟩,⟨16,r,λH=>Z⟩,⟨17,.pure aP,λH=>Z⟩,⟨18,.pure aP,λH=>Z⟩] a then(A (aP,(r.heap (p.heap (n.heap (l.heap (k.heap (i.heap (h.heap (g.heap (f.heap (e.heap (c.heap (d.heap (b.heap j)))))))))))))))else Z) (aU (bx P .eql 3 J m (D F 2)) λcq=>ep (A cq) (aU (aI P a 46 x9) λcs=>aU (aI P a 46 x8) λcu=>aU (bx P .neq 46 I cs cu) λaQ=>bW aQ J a (qr (aI P a 46 x9)) λcv j=>bW aQ J j (λq=>eb j (G 50 [cv] j) q) λcx W=>aU (dt aQ (A cx) (A (C I))) λcy=>A (cy,W)) (aU (bx P .eql 3 J m (D F 3)) λcz=>ep (A cz) (aU (aI P a 46 x9) λcA=>aU (aI P a 46 x8) λcB=>aU (bx P .neq 46 I cA cB) λap=>bW ap J a (qr (aI P a 46 x9)) λcC j=>bW ap J j (qr (aI P j 46 x10)) λcD W=>bW ap J W (ck (bx P .eql 46 I cC cD)) λcE ar=>aU (dt ap (A cE) (A (C I))) λcF=>A (cF,ar)) (aU (bx P .eql 3 J m (D F 4)) λcG=>ep (A cG) (aU (bO P 89 x5 4) λx87=>aU (aI P a 3 x87) λx88=>aU (aI P a 46 x9) λx89=>aU (aI P a 46 x10) λcH=>aU (aI P a 46 x11) λcI=>ea a (G 106 [x88,x89,cH,cI] a) λcJ j=>A (cJ,j)) (aU (bx P .eql 3 J m (D F 5)) λcK=>ep (A cK) (aU (bO P 89 x5 4) λaR=>aU (aI P a 3 aR) λbn=>aU (bx P .eql 3 J bn (D F 12)) λV=>ca V J (λq=>eb a (G 104 [] a) q) λb=>ca V J (qr (aI P (b.heap a) 46 x9)) λd=>ca V J (ck (bx P .eql 46 I d.val b.val)) λc=>aU (dt V (A c.val) (A (C I))) λL=>ca L J (λq=>eb (c.heap (d.heap (b.heap a))) (G 104 [] (c.heap (d.heap (b.heap a)))) q) λe=>ca L J (qr (aI P (e.heap (c.heap (d.heap (b.heap a)))) 46 x10)) λf=>ca L J (ck (bx P .eql 46 I f.val e.val)) λg=>aU (dt L (A g.val) (A (C I))) λs=>ca s I (ck (bO P 89 x5 4)) λh=>ca s I (qr (aI P (h.heap (g.heap (f.heap (e.heap (c.heap (d.heap (b.heap a))))))) 3 h.val)) λi=>ca s I (ck (bx P .eql 3 J i.val (D F 13))) λk=>ca s I (qv k.val) λl=>ca l.val J (λq=>eb (l.heap (k.heap (i.heap (h.heap (g.heap (f.heap (e.heap (c.heap (d.heap (b.heap a)))))))))) (G 105 [] (l.heap (k.heap (i.heap (h.heap (g.heap (f.heap (e.heap (c.heap (d.heap (b.heap a))))))))))) q) λn=>ca l.val J (qr (aI P (n.heap (l.heap (k.heap (i.heap (h.heap (g.heap (f.heap (e.heap (c.heap (d.heap (b.heap a))))))))))) 46 x9)) λp=>ca l.val J (ck (bx P .eql 46 I p.val n.val)) λr=>ca s I (ck (dt l.val (A r.val) (A (C I)))) λK=>ca s I (qv K.val) λv=>ca v.val J (λq=>eb (v.heap (K.heap (r.heap (p.heap (n.heap (l.heap (k.heap (i.heap (h.heap (g.heap (f.heap (e.heap (c.heap (d.heap (b.heap a))))))))))))))) (G 105 [] (v.heap (K.heap (r.heap (p.heap (n.heap (l.heap (k.heap (i.heap (h.heap (g.heap (f.heap (e.heap (c.heap (d.heap (b.heap a)))))))))))))))) q) λaa=>ca v.val J (qr (aI P (aa.heap (v.heap (K.heap (r.heap (p.heap (n.heap (l.heap (k.heap (i.heap (h.heap (g.heap (f.heap (e.heap (c.heap (d.heap (b.heap a)))))))))))))))) 46 x10)) λay=>ca v.val J (ck (bx P .eql 46 I ay.val aa.val)) λaA=>ca s I (ck (dt v.val (A aA.val) (A (C I)))) λaB=>aU (dt s (A (C J)) (A aB.val)) λaC=>bif jj [0,1,3,7,15,15,63,127,255,511,511,2047,4095,8191,16383,32767,65535,131071,262143,262143,1048575,2097151,4194303,8388607,8388607,33554431,67108863,134217727,268435455] [0,1,2,3,5,6,7,8,10,11,12,13,14,15,16,17,19,20,21,22,24,25,26,27,28] [⟨0,.pure aR,λH=>Z⟩,⟨1,.read bn,λH=>aI P H 3 aR⟩,⟨2,.pure V,λH=>Z⟩,⟨3,.pure V,λH=>Z⟩,⟨5,b,λH=>Z⟩,⟨4,d,λH=>aI P H 46 x9⟩,⟨6,c,λH=>Z⟩,⟨7,.pure L,λH=>Z⟩,⟨8,.pure L,λH=>Z⟩,⟨10,e,λH=>Z⟩,⟨9,f,λH=>aI P H 46 x10⟩,⟨11,g,λH=>Z⟩,⟨12,.pure s,λH=>Z⟩,⟨13,.pure s,λH=>Z⟩,⟨14,h,λH=>Z⟩,⟨15,i,λH=>aI P H 3 h.val⟩,⟨16,k,λH=>Z⟩,⟨17,l,λH=>Z⟩,⟨19,n,λH=>Z⟩,⟨18,p,λH=>aI P H 46 x9⟩,⟨20,r,λH=>Z⟩,⟨21,K,λH=>Z⟩,⟨22,v,λH=>Z⟩,⟨24,aa,λH=>Z⟩,⟨23,ay,λH=>aI P H 46 x10⟩,⟨25,aA,λH=>Z⟩,⟨26,aB,λH=>Z⟩,⟨27,.pure aC,λH=>Z⟩,⟨28,.pure aC,λH=>Z⟩] a then(A (aC,(aB.heap (aA.heap (ay.heap (aa.heap (v.heap (K.heap (r.heap (p.heap (n.heap (l.heap (k.heap (i.heap (h.heap (g.heap (f.heap (e.heap (c.heap (d.heap (b.heap a)))))))))))))))))))))else Z) (aU (bx P .eql 3 J m (D F 6)) λbC=>ep (A bC) (aU (aI P a 46 x9) λa5=>aU (aI P a 46 x8) λa6=>aU (bx P .neq 46 I a5 a6) λt=>ca t J (qr (aI P a 27 x3)) λb=>ca t J (qr (aI P (b.heap a) 46 x10)) λd=>ca t J (ck (bO P 89 x5 3)) λc=>ca t J (qr (aI P (c.heap (d.heap (b.heap a))) 3 c.val)) λe=>ca t J (λq=>eb (e.heap (c.heap (d.heap (b.heap a)))) (G 107 [b.val,d.val,e.val] (e.heap (c.heap (d.heap (b.heap a))))) q) λf=>ca t J (qr (aI P (f.heap (e.heap (c.heap (d.heap (b.heap a))))) 46 x9)) λg=>ca t J (ck (bx P .eql 46 I g.val f.val)) λh=>aU (dt t (A h.val) (A (C I))) λaD=>bif jj [0,0,3,7,15,15,15,15,143,495,1023,2047,4095] [0,1,2,3,5,6,7,8,9,10,11,12] [⟨0,.read a5,λH=>aI P H 46 x9⟩,⟨1,.read a6,λH=>aI P H 46 x8⟩,⟨2,.pure t,λH=>Z⟩,⟨3,.pure t,λH=>Z⟩,⟨5,b,λH=>aI P H 27 x3⟩,⟨6,d,λH=>aI P H 46 x10⟩,⟨7,c,λH=>Z⟩,⟨8,e,λH=>aI P H 3 c.val⟩,⟨9,f,λH=>Z⟩,⟨4,g,λH=>aI P H 46 x9⟩,⟨10,h,λH=>Z⟩,⟨11,.pure aD,λH=>Z⟩,⟨12,.pure aD,λH=>Z⟩] a then(A (aD,(h.heap (g.heap (f.heap (e.heap (c.heap (d.heap (b.heap a)))))))))else Z) (aU (bx P .eql 3 J m (D F 7)) λbD=>ep (A bD) (aU (aI P a 46 x10) λa7=>aU (aI P a 46 x8) λa8=>aU (bx P .neq 46 I a7 a8) λu=>ca u J (qr (aI P a 27 x3)) λb=>ca u J (qr (aI P (b.heap a) 46 x9)) λd=>ca u J (ck (bO P 89 x5 3)) λc=>ca u J (qr (aI P (c.heap (d.heap (b.heap a))) 3 c.val)) λe=>ca u J (λq=>eb (e.heap (c.heap (d.heap (b.heap a)))) (G 107 [b.val,d.val,e.val] (e.heap (c.heap (d.heap (b.heap a))))) q) λf=>ca u J (qr (aI P (f.heap (e.heap (c.heap (d.heap (b.heap a))))) 46 x10)) λg=>ca u J (ck (bx P .eql 46 I g.val f.val)) λh=>aU (dt u (A h.val) (A (C I))) λaE=>bif jj [0,0,3,7,15,15,15,15,143,495,1023,2047,4095] [0,1,2,3,5,6,7,8,9,10,11,12] [⟨0,.read a7,λH=>aI P H 46 x10⟩,⟨1,.read a8,λH=>aI P H 46 x8⟩,⟨2,.pure u,λH=>Z⟩,⟨3,.pure u,λH=>Z⟩,⟨5,b,λH=>aI P H 27 x3⟩,⟨6,d,λH=>aI P H 46 x9⟩,⟨7,c,λH=>Z⟩,⟨8,e,λH=>aI P H 3 c.val⟩,⟨9,f,λH=>Z⟩,⟨4,g,λH=>aI P H 46 x10⟩,⟨10,h,λH=>Z⟩,⟨11,.pure aE,λH=>Z⟩,⟨12,.pure aE,λH=>Z⟩] a then(A (aE,(h.heap (g.heap (f.heap (e.heap (c.heap (d.heap (b.heap a)))))))))else Z) (aU (bx P .eql 3 J m (D F 8)) λbH=>ep (A bH) (aU (aI P a 46 x9) λa9=>aU (aI P a 46 x8) λa_=>aU (bx P .neq 46 I a9 a_) λO=>ca O J (ck (bO P 46 x10 2)) λb=>ca O J (qr (aI P (b.heap a) 3 b.val)) λd=>ca O J (ck (bx P .gtr 3 J d.val (D F 0))) λc=>aU (dt O (A c.val) (A (C I))) λQ=>ca Q J (λq=>eb (c.heap (d.heap (b.heap a))) (G 104 [] (c.heap (d.heap (b.heap a)))) q) λe=>ca Q J (qr (aI P (e.heap (c.heap (d.heap (b.heap a)))) 46 x11)) λf=>ca Q J (ck (bx P .eql 46 I f.val e.val)) λg=>aU (dt Q (A g.val) (A (C I))) λy=>ca y J (qr (aI P (g.heap (f.heap (e.heap (c.heap (d.heap (b.heap a)))))) 46 x10)) λh=>ca y J (λq=>eb (h.heap (g.heap (f.heap (e.heap (c.heap (d.heap (b.heap a))))))) (G 108 [h.val] (h.heap (g.heap (f.heap (e.heap (c.heap (d.heap (b.heap a)))))))) q) λi=>ca y J (qr (aI P (i.heap (h.heap (g.heap (f.heap (e.heap (c.heap (d.heap (b.heap a)))))))) 46 x9)) λk=>ca y J (ck (bx P .eql 46 I k.val i.val)) λl=>aU (dt y (A l.val) (A (C I))) λaF=>bif jj [0,0,3,7,15,31,63,127,255,511,511,2047,4095,8191,16383,16383,49151,131071,262143,524287] [0,1,2,3,4,5,6,7,8,10,11,12,13,15,16,17,18,19] [⟨0,.read a9,λH=>aI P H 46 x9⟩,⟨1,.read a_,λH=>aI P H 46 x8⟩,⟨2,.pure O,λH=>Z⟩,⟨3,.pure O,λH=>Z⟩,⟨4,b,λH=>Z⟩,⟨5,d,λH=>aI P H 3 b.val⟩,⟨6,c,λH=>Z⟩,⟨7,.pure Q,λH=>Z⟩,⟨8,.pure Q,λH=>Z⟩,⟨10,e,λH=>Z⟩,⟨9,f,λH=>aI P H 46 x11⟩,⟨11,g,λH=>Z⟩,⟨12,.pure y,λH=>Z⟩,⟨13,.pure y,λH=>Z⟩,⟨15,h,λH=>aI P H 46 x10⟩,⟨16,i,λH=>Z⟩,⟨14,k,λH=>aI P H 46 x9⟩,⟨17,l,λH=>Z⟩,⟨18,.pure aF,λH=>Z⟩,⟨19,.pure aF,λH=>Z⟩] a then(A (aF,(l.heap (k.heap (i.heap (h.heap (g.heap (f.heap (e.heap (c.heap (d.heap (b.heap a))))))))))))else Z) (aU (bx P .eql 3 J m (D F 9)) λbJ=>ep (A bJ) (aU (aI P a 46 x11) λbb=>aU (aI P a 46 x8) λbc=>aU (bx P .neq 46 I bb bc) λR=>ca R J (ck (bO P 46 x9 2)) λb=>ca R J (qr (aI P (b.heap a) 3 b.val)) λd=>ca R J (ck (bx P .gtr 3 J d.val (D F 0))) λc=>aU (dt R (A c.val) (A (C I))) λS=>ca S J (λq=>eb (c.heap (d.heap (b.heap a))) (G 104 [] (c.heap (d.heap (b.heap a)))) q) λe=>ca S J (qr (aI P (e.heap (c.heap (d.heap (b.heap a)))) 46 x10)) λf=>ca S J (ck (bx P .eql 46 I f.val e.val)) λg=>aU (dt S (A g.val) (A (C I))) λz=>ca z J (qr (aI P (g.heap (f.heap (e.heap (c.heap (d.heap (b.heap a)))))) 46 x9)) λh=>ca z J (λq=>eb (h.heap (g.heap (f.heap (e.heap (c.heap (d.heap (b.heap a))))))) (G 108 [h.val] (h.heap (g.heap (f.heap (e.heap (c.heap (d.heap (b.heap a)))))))) q) λi=>ca z J (qr (aI P (i.heap (h.heap (g.heap (f.heap (e.heap (c.heap (d.heap (b.heap a)))))))) 46 x11)) λk=>ca z J (ck (bx P .eql 46 I k.val i.val)) λl=>aU (dt z (A l.val) (A (C I))) λaG=>bif jj [0,0,3,7,15,31,63,127,255,511,511,2047,4095,8191,16383,16383,49151,131071,262143,524287] [0,1,2,3,4,5,6,7,8,10,11,12,13,15,16,17,18,19] [⟨0,.read bb,λH=>aI P H 46 x11⟩,⟨1,.read bc,λH=>aI P H 46 x8⟩,⟨2,.pure R,λH=>Z⟩,⟨3,.pure R,λH=>Z⟩,⟨4,b,λH=>Z⟩,⟨5,d,λH=>aI P H 3 b.val⟩,⟨6,c,λH=>Z⟩,⟨7,.pure S,λH=>Z⟩,⟨8,.pure S,λH=>Z⟩,⟨10,e,λH=>Z⟩,⟨9,f,λH=>aI P H 46 x10⟩,⟨11,g,λH=>Z⟩,⟨12,.pure z,λH=>Z⟩,⟨13,.pure z,λH=>Z⟩,⟨15,h,λH=>aI P H 46 x9⟩,⟨16,i,λH=>Z⟩,⟨14,k,λH=>aI P H 46 x11⟩,⟨17,l,λH=>Z⟩,⟨18,.pure aG,λH=>Z⟩,⟨19,.pure aG,λH=>Z⟩] a then(A (aG,(l.heap (k.heap (i.heap (h.heap (g.heap (f.heap (e.heap (c.heap (d.heap (b.heap a))))))))))))else Z) (aU (bx P .eql 3 J m (D F 10)) λbM=>ep (A bM) (ea a (G 104 [] a) λbe j=>aU (aI P j 46 x9) λbd=>aU (bx P .eql 46 I bd be) λT=>ca T J (ck (bO P 46 x10 2)) λb=>ca T J (qr (aI P (b.heap j) 3 b.val)) λd=>ca T J (ck (bx P .gtr 3 J d.val (D F 0))) λc=>aU (dt T (A c.val) (A (C I))) λaH=>bif jj [0,0,3,7,15,31,63,127,255] [1,2,3,4,5,6,7,8] [⟨1,.cR be j,λH=>Z⟩,⟨0,.read bd,λH=>aI P H 46 x9⟩,⟨2,.pure T,λH=>Z⟩,⟨3,.pure T,λH=>Z⟩,⟨4,b,λH=>Z⟩,⟨5,d,λH=>aI P H 3 b.val⟩,⟨6,c,λH=>Z⟩,⟨7,.pure aH,λH=>Z⟩,⟨8,.pure aH,λH=>Z⟩] a then(A (aH,(c.heap (d.heap (b.heap j)))))else Z) (aU (bx P .eql 3 J m (D F 11)) λbN=>ep (A bN) (aU (aI P a 46 x9) λbP=>aU (aI P a 46 x8) λbQ=>aU (bx P .neq 46 I bP bQ) λad=>bW ad J a (ck (bO P 46 x9 0)) λbR j=>bW ad J j (qr (aI P j 3 bR)) λbS W=>bW ad J W (ck (bx P .eql 3 J bS (D F 3))) λbT ar=>aU (dt ad (A bT) (A (C I))) λae=>bW ae J ar (ck (bO P 46 x9 2)) λbU aZ=>bW ae J aZ (qr (aI P aZ 3 bU)) λbV bs=>bW ae J bs (ck (bx P .eql 3 J bV (D F 0))) λbX a0=>aU (dt ae (A bX) (A (C I))) λB=>bW B J a0 (qr (aI P a0 27 x3)) λbY bt=>bW B J bt (qv x1) λb0 bu=>bW B J bu (ck (bO P 89 x5 4)) λb1 a1=>bW B J a1 (qr (aI P a1 3 b1)) λb2 a2=>bW B J a2 (qr (aI P a2 46 x9)) λb3 av=>bW B J av (λq=>eb av (G 109 [bY,b0,b2,b3] av) q) λb4 bv=>aU (dt B (A b4) (A (C I))) λb5=>A (b5,bv)) (aU (bx P .eql 3 J m (D F 12)) λb6=>ep (A b6) (aU (bO P 46 x9 2) λaJ=>aU (aI P a 3 aJ) λbf=>aU (bx P .gtr 3 J bf (D F 0)) λU=>ca U J (λq=>eb a (G 104 [] a) q) λb=>ca U J (qr (aI P (b.heap a) 46 x10)) λd=>ca U J (ck (bx P .eql 46 I d.val b.val)) λc=>aU (dt U (A c.val) (A (C I))) λw=>ca w J (qr (aI P (c.heap (d.heap (b.heap a))) 27 x3)) λe=>ca w J (qv x1) λf=>ca w J (ck (bO P 89 x5 4)) λg=>ca w J (qr (aI P (g.heap (f.heap (e.heap (c.heap (d.heap (b.heap a)))))) 3 g.val)) λh=>ca w J (qr (aI P (h.heap (g.heap (f.heap (e.heap (c.heap (d.heap (b.heap a))))))) 46 x9)) λi=>ca w J (λq=>eb (i.heap (h.heap (g.heap (f.heap (e.heap (c.heap (d.heap (b.heap a)))))))) (G 109 [e.val,f.val,h.val,i.val] (i.heap (h.heap (g.heap (f.heap (e.heap (c.heap (d.heap (b.heap a))))))))) q) λk=>aU (dt w (A k.val) (A (C I))) λaK=>bif jj [0,1,3,7,15,15,63,127,255,511,511,511,2559,511,16383,32767,65535] [0,1,2,3,5,6,7,8,9,10,11,12,13,14,15,16] [⟨0,.pure aJ,λH=>Z⟩,⟨1,.read bf,λH=>aI P H 3 aJ⟩,⟨2,.pure U,λH=>Z⟩,⟨3,.pure U,λH=>Z⟩,⟨5,b,λH=>Z⟩,⟨4,d,λH=>aI P H 46 x10⟩,⟨6,c,λH=>Z⟩,⟨7,.pure w,λH=>Z⟩,⟨8,.pure w,λH=>Z⟩,⟨9,e,λH=>aI P H 27 x3⟩,⟨10,f,λH=>Z⟩,⟨11,g,λH=>Z⟩,⟨12,h,λH=>aI P H 3 g.val⟩,⟨13,i,λH=>aI P H 46 x9⟩,⟨14,k,λH=>Z⟩,⟨15,.pure aK,λH=>Z⟩,⟨16,.pure aK,λH=>Z⟩] a then(A (aK,(k.heap (i.heap (h.heap (g.heap (f.heap (e.heap (c.heap (d.heap (b.heap a)))))))))))else Z) (aU (bx P .eql 3 J m (D F 13)) λb9=>ep (A b9) (aU (aI P a 27 x3) λb_=>aU (aI P a 49 x7) λcb=>aU (aI P a 89 x5) λcc=>ea a (G 110 [b_,cb,cc] a) λcd j=>A (cd,j)) (aU (bx P .eql 3 J m (D F 14)) λbg=>ep (A bg) (jw G x3 x5 x7 x8 x9 m bg a) (aU (bx P .eql 3 J m (D F 15)) λcf=>jw G x3 x5 x7 x8 x9 m cf a)))))))))))))))else Z),λN=>M4 (ak (ak (ak (ak (ak (ak ((iI G).2 N) (ak (bj (ak (c4 an (ak (c4 an (ak (c4 an (ak (c4 an (ak (c4 an (ak (c4 an (ak (c4 an (ak (c4 an (ak (c4 an (ak (c4 an (ak (c4 an (ak (c4 an (ak (c4 an (ak ((jw G).2 N) an)) an)) an)) an)) an)) an)) an)) an)) an)) an)) an)) an)) an)) an)) an)) an) an) an) an) an)⟩
def afl(N:Nat):=hC Tryz.func51 λG=>(Rh G).2 N
def mP(G:aq):r4 1 3 4 5 6 Tryz.f102 G (·.aa.aa.aa) (a8 Tryz.f102) []:=⟨_,λN=>v5 an⟩
def Ar(G:aq):r5 1 3 4 5 6 8 22 Tryz.f102 G (·.aa.aa.aj.aa.aj.aa.aa.aa.aa.aa.aa.aa.aa.aa) (bY (mP G) 1 3 4 5 6) [(0,(bY (mP G) 1 3 4 5 6))]:=⟨_,λN=>g2 an⟩
def Aq(G:aq):r5 1 3 4 5 6 8 19 Tryz.f102 G (·.aa.aa.aj.aa.aj.aa.aa.aa.aa.aa.aa.aa) (bY (mP G) 1 3 4 5 6) [(0,(bY (mP G) 1 3 4 5 6))]:=⟨_,λN=>g2 (c4 an (ak ((Ar G).2 N) an))⟩
def Ap(G:aq):r5 1 3 4 5 6 8 14 Tryz.f102 G (·.aa.aa.aj.aa.aj.aa.aa.aa) (bY (mP G) 1 3 4 5 6) [(0,(bY (mP G) 1 3 4 5 6))]:=⟨_,λN=>g2 (c4 an (ak (c4 an (ak ((Aq G).2 N) an)) an))⟩
def Ao(G:aq):r5 1 3 4 5 6 8 9 Tryz.f102 G (·.aa.aa.aj.aa.aj.aa) (bY (mP G) 1 3 4 5 6) [(0,(bY (mP G) 1 3 4 5 6))]:=⟨_,λN=>g2 (c4 an (ak ((Ap G).2 N) an))⟩
def vp(G:aq):g5 Tryz.f102 G:=⟨_,λN=>t1 (ak (ak (ak ((mP G).2 N) (ak (bj (ak ((Ao G).2 N) an)) an)) an) an)⟩
def adz(N:Nat):=en Tryz.func102 λG=>(vp G).2 N
def As(G:aq):eO Tryz.f103 G:=⟨_,λN=>t2 an⟩
def adA(N:Nat):=c1 Tryz.func103 λG=>(As G).2 N
def Qg(G:aq):uf Tryz.f104 G:=⟨_,λN=>t0 an⟩
def adB(N:Nat):=F7 Tryz.func104 λG=>(Qg G).2 N
def Qh(G:aq):uf Tryz.f105 G:=⟨_,λN=>t0 an⟩
def adC(N:Nat):=F7 Tryz.func105 λG=>(Qh G).2 N
def nw(G:aq):W0 Tryz.f106 G (·.aa.aa) (a8 Tryz.f106) []:=⟨_,λN=>v0 an⟩
def Au(G:aq):nT 5 6 7 61 Tryz.f106 G (·.aa.aj.aa.aj.aa.aa.aa.aa.aa.aa.aa) (br (nw G)) [(0,(br (nw G)))]:=⟨_,λN=>lI an (x:=trivial)⟩
def sZ(G:aq):r4 5 6 7 9 45 Tryz.f106 G (·.aa.aj.aa.aj.aa.aa.aa.aa.aa) (br (nw G)) [(0,(br (nw G)))]:=⟨_,λN=>ng (c4 an (ak ((Au G).2 N) an)) (x:=trivial)⟩
def pO(G:aq):r4 5 6 7 9 29 Tryz.f106 G (·.aa.aj.aa.aj.aa.aa.aa) (br (nw G)) [(0,(br (nw G)))]:=⟨_,λN=>ng (c4 an (ak ((sZ G).2 N) an)) (x:=trivial)⟩
def nx(G:aq):r4 5 6 7 9 10 Tryz.f106 G (·.aa.aj.aa.aj.aa) (br (nw G)) [(0,(br (nw G)))]:=⟨_,λN=>ng (c4 an (ak ((pO G).2 N) an)) (x:=trivial)⟩
def Qi(G:aq):r7 Tryz.f106 G:=⟨_,λN=>t4 (ak (ak ((nw G).2 N) (ak (bj (ak ((nx G).2 N) an)) an)) an)⟩
def adD(N:Nat):=om Tryz.func106 λG=>(Qi G).2 N
def pP(G:aq):jH Tryz.f107 G:=⟨_,λN=>t3 an⟩
def adE(N:Nat):=hC Tryz.func107 λG=>(pP G).2 N
def Qj(G:aq):g5 Tryz.f108 G:=⟨_,λN=>t1 an⟩
def adF(N:Nat):=en Tryz.func108 λG=>(Qj G).2 N
def vq(G:aq):r7 Tryz.f109 G:=⟨_,λN=>t4 an⟩
def adG(N:Nat):=om Tryz.func109 λG=>(vq G).2 N
def vr(G:aq)(N:Nat):eh 4 5 7 Tryz.f110 G N (·.aa.aa.aa.aa.aa) (a8 Tryz.f110) []:=⟨_,n2 an⟩
def s0(G:aq)(N:Nat)(L1:cg):dI 4 5 7 8 Tryz.f110 G N (·.aa.aa.aa.aa.aj.aa.aj.aj) (bI L1 4 5 7 8) [(0,(bn (vr G N) 4 5 7))]:=⟨_,lI an⟩
def q5(G:aq)(N:Nat):Nat->cg
 |0=>fq
 |n+1=>s0 G N (q5 G N n)
def mQ(G:aq)(N:Nat):m_ Tryz.f110 G N:=⟨_,t3 (ak (ak (ak (ak (ak ((vr G N).2) (ak (bj (bH (λm=>(s0 G N (q5 G N m)).2))) an)) an) an) an) an)⟩
def adH(N:Nat):=hC Tryz.func110 λG=>(mQ G N).2
def Rg(G:aq):g5 Tryz.f50 G:=⟨_,λN=>t1 an⟩
def afk(N:Nat):=en Tryz.func50 λG=>(Rg G).2 N
end
end
section
open Go.a_
set_option maxRecDepth 2000
section
variable {H:ae}{ok:Nat->Prop}
def j9(t:cM)(l:Nat):fj l (c3 t)=A (.ptr l 0 0,.row I 3 [cb t]):=mg l _ rfl
def kK:W (aK P aG 104 [] H) λr H'=>r=c3 da/\au H H':=by
 refine adB 0 ?_;refine p8 @Qg.eq_1 ?_;exact aD.2 ⟨rfl,(au.refl _).eI _⟩
def oE:W (aK P aG 105 [] H) λr H'=>r=c3 ey/\au H H':=by
 refine adC 0 ?_;refine p8 @Qh.eq_1 ?_;exact aD.2 ⟨rfl,(au.refl _).eI _⟩
def FZ(t:cM):W (aK P aG 50 [c3 t] H) λr H'=>r= C (kH t)/\au H H':=by
 refine afk 0 ?_;refine oC @Rg.eq_1 @j9 @cb.eq_1 ?_;cases a:(t.b==3)with
 |true=>
  refine mX ?_;exact aD.2 ⟨by simp[kH,a],(au.refl _).eI _⟩
 |false=>
  refine mX ?_;exact aD.2 ⟨by simp[kH,a],(au.refl _).eI _⟩
def Nu(t:cM)(a:0<t.d)(ah:t.d<=1000):W (aK P aG 108 [c3 t] H) λr H'=>r=c3 (less t)/\au H H':=by
 refine adF 0 ?_;refine yd @Qj.eq_1 @j9 @cb.eq_1 (wrap_i64 (show 0<=t.d-1 by omega) ad) ?_;exact aD.2 ⟨rfl,((au.refl _).eI _).eI _⟩
theorem dV{x:bC}{a b c d:af}(ah:aH m4 H ok x.b_ a)(ai:aH e_ H ok x.globals b)(ax:aH gf H ok x.ay c)(aM:aH m5 H ok x.sites d)(m:Int)(l:Nat):fj l (.agg [a,b,c,d,D F m])=A (.ptr l 0 0,.row I 5 [[a,b,c,d,D F m]]):=
 mg l _ (by have e:=ah.one;have f:=ai.one;have g:=ax.one;have h:=aM.one;simp[e,f,g,h];rfl)
def D_{c:bT}{v w:af}(ah:aH e_ H ok c.vars v)(ai:aH gq H ok c.ins w)(p b r d:Int)(z:Bool)(l:Nat):fj l (.agg [D F p,v,C z,D F b,D F r,D F d,w])=A (.ptr l 0 0,.row I 7 [[D F p,v,C z,D F b,D F r,D F d,w]]):=
 mg l _ (by have a:=ah.one;have e:=ai.one;simp[a,e];exact⟨rfl,rfl,rfl,rfl,rfl⟩)
theorem zN{x:bC}{v:af}(aE:cA H ok x v)(t:cM):W (aK P aG 49 [v,c3 t] H) λr H'=>r= C (eD x.b_.length t)/\au H H':=by
 obtain⟨_,rfl,a,b,c,d,rfl,ah,ai,ax,aM⟩:=aE;refine afj 0 ?_;have k:au H ((H.push (.row I 5 [[a,b,c,d,D F x.main]])).push (.row I 3 [[D F t.b,D F t.r,D F t.d]])):=((au.refl _).eI _).eI _;simp-implicitDefEqProofs(disch:=try exact aW)only[p2,xa,j9,cb,dV ah ai ax aM,reduceAdd,reduceLeDiff,reduceIte,eU];unfold eD;by_cases e:t.d<0
 ·refine p8 e ?_;grind[aD]
 ·by_cases f:3<t.d
  ·refine It e f ?_;grind[aD]
  ·refine It e f ?_;have g:decide (0<=t.d/\t.d<=3)=true:=al;rw[g];cases h:(t.b==1)with
   |true=>
    refine oC @p2.eq_1 @Cd.eq_1 @xa.eq_1 ?_;grind[aD]
   |false=>
    refine mX ?_;cases i:(t.b==2)with
    |true=>
     refine oC @p2.eq_1 @Cd.eq_1 @xa.eq_1 ?_;grind[aD]
    |false=>
     refine oC @p2.eq_1 @Cd.eq_1 @xa.eq_1 ?_;cases j:(t.b==3)with
     |true=>
      by_cases ar:0<=t.r
      ·refine agf ar @decide_true (ah.bg fo) ?_;grind[aD]
      ·refine Im ar @decide_false ?_;grind[aD]
     |false=>
      refine p8 @p2.eq_1 ?_;grind[aD]
theorem SD{x:bC}{l:List cM}{v:af}{cs:List af}{L:Nat}(f:l.length<=1000000000){N:Nat}:∀(j k m:Nat) (H:ae),k+j=l.length->j<m->aH e_ H ok l v->H.get L=A (.row I 5 [cs])->uc H ok x cs->W (w_ (aK P aG) N m v (.ptr L 0 0) (D F k) H) λr H'=>r= C ((l.drop k).all (eD x.b_.length))/\au H H'
 |_,_,0,_,_,hm,_,_,_=>ad
 |0,k,m+1,H,g,_,aw,aS,aE=>by
  have y:¬(k:Int)<(l.length:Int):=ad;refine ye @Cc.eq_1 @Cb.eq_1 @w_.eq_2 @Ca.eq_1 (aw.bg cS) ?_;grind[aD,au.refl]
 |j+1,k,m+1,H,g,hm,aw,aS,aE=>by
  have h:k<l.length:=ad;obtain⟨p,w,q,s,rfl⟩:=aw.agg (K:=e_) cS tS (j:=(k:Int)) (a:=l[k]) ad al;have t:aI P H 27 (.ptr L 0 0)=A (.agg cs):=by
   obtain⟨a,b,c,d,rfl,_⟩:=aE;exact hz (n:=5) (i:=0) (c:=0) aF aF aS rfl bZ
  refine bh @Cc.eq_1 @Cb.eq_1 @w_.eq_2 @Ca.eq_1 @eM.eq_1 (ag (aw.bg cS) (ag q (ag s t))) ?_;refine bw (zN ⟨cs,rfl,aE⟩ l[k]) λH' e=> ?_
  rw[List.drop_eq_getElem_cons h,List.all_cons];cases z:eD x.b_.length l[k]with
  |false=>
   refine bN ?_;grind[aD]
  |true=>
   refine bN ?_;refine(SD f j (k+1) m H' ad ad (aw.aB e) (e.get aS) (aE.keep (.aB e))).mono ?_;rintro r u ⟨rfl,o⟩;exact⟨aX,e.trans o⟩
theorem SE{x:bC}{l:List cM}{v w:af}(aE:cA H ok x v)(aw:aH e_ H ok l w)(f:l.length<=1000000000):W (aK P aG 48 [v,w] H) λr H'=>r= C (l.all (eD x.b_.length))/\au H H':=by
 obtain⟨cs,rfl,aE⟩:=aE;refine afi (l.length+1) ?_;have g:∀n,fj n (.agg cs)=A (.ptr n 0 0,.row I 5 [cs]):=λn=>by
  obtain⟨a,b,c,d,rfl,ah,ai,ax,aM⟩:=aE;grind[dV]
 refine bG @Ca.eq_1 g ?_;have e:=au.push H (.row I 5 [cs]);refine(SD f l.length 0 (l.length+1) _ ad ad (aw.aB e) (ae.a2 _ _) (aE.keep (.aB e))).mono ?_;rintro r i ⟨rfl,h⟩;exact⟨aX,e.trans h⟩
end
end
section
open Go.a_
set_option maxRecDepth 2000
section
variable {H:ae}{ok:Nat->Prop}
def Dc{H:ae}{t u:cM}{L:Nat}(h:H.get L=A (.row I 3 [cb t])):cr P H 46 (.ptr L 0 0) (c3 u)=A (H.set L (.row I 3 [cb u])):=by
 rw[e4 (n:=3) aF h rfl rfl rfl bZ];rfl
theorem u5{c:bT}{v:af}(aA:I2 H ok c v)(i:Int)(t:c.vars.length<=1000000000):W (aK P aG 103 [v,D F i] H) λr H'=>r=c3 (a6 c i)/\au H H':=by
 obtain⟨_,rfl,p,w,rfl,ah,ai⟩:=aA;refine adA 0 ?_;have h:=D_ ah ai c.params c.res.b c.res.r c.res.d c.has;have l:=((au.refl H).eI (.row I 7 [[D F c.params,p,C c.has,D F c.res.b,D F c.res.r,D F c.res.d,w]])).eI (.row I 3 [cb bt]);by_cases f:i<0
 ·refine oC @As.eq_1 h f ?_;refine aD.2 ⟨?_,l⟩;rw[a6,gi.2 (.inl f)];rfl
 ·by_cases aw:(c.vars.length:Int)<=i
  ·refine ye @As.eq_1 h f aw (ah.bg cS) ?_;refine aD.2 ⟨?_,l⟩;rw[a6,gi.2 (.inr aw)];rfl
  ·have n:i.toNat<c.vars.length:=ad;obtain⟨L,k,ro,els,q,o,_,g,e,rfl⟩:=ah.at_ (K:=e_) cS (j:=i) (a:=c.vars[i.toNat]) ad al;have s:=ae.bq g;have m:H.get L=A (.row ro 3 els):=g;rw[cb]at e;refine gm @As.eq_1 h f aw (ah.bg cS) (ag o (ag m e)) ?_;refine aD.2 ⟨?_,((au.refl H).eI _).eI _⟩;rw[a6,jK ad,List.getElem?_eq_getElem n];rfl
theorem Ls{x:bC}{v:af}(aE:cA H ok x v)(t:cM)(k:Int):W (aK P aG 107 [v,c3 t,D F k] H) λr H'=>r=c3 (e8 x t k)/\au H H':=by
 obtain⟨_,rfl,a,b,c,d,rfl,ah,ai,ax,aM⟩:=aE;refine adE 0 ?_;have l:=dV ah ai ax aM x.main;have i:=j9 t;rw[cb]at i;have p:=(((au.refl H).eI (.row I 5 [[a,b,c,d,D F x.main]])).eI (.row I 3 [[D F t.b,D F t.r,D F t.d]])).eI (.row I 3 [cb bt]);have aL:∀(o:Option cM),o=Z->(o.getD bt)=bt:=λo h=>al
 cases aa:(t.b==3)with
 |false=>
  have f:(t.b != 3)=true:=al;refine yd @pP.eq_1 l i f ?_;refine aD.2 ⟨?_,p⟩;have:¬t.b=3:=al;rw[e8,mL,if_neg ad];rfl
 |true=>
  have f:(t.b != 3)=false:=al;cases ab:(t.d==0)with
  |false=>
   have m:(t.d != 0)=true:=al;refine ye @pP.eq_1 l i f m ?_;refine aD.2 ⟨?_,p⟩;have:¬t.d=0:=al;rw[e8,mL,if_neg ad];rfl
  |true=>
   have m:(t.d != 0)=false:=al;have u:mL x t=eK x.b_ t.r:=by grind[mL]
   by_cases q:t.r<0
   ·refine gm @pP.eq_1 l i f m q ?_;refine aD.2 ⟨?_,p⟩;rw[e8,u,gi.2 (.inl q)];rfl
   ·by_cases w:(x.b_.length:Int)<=t.r
    ·refine gm @pP.eq_1 l i f m (ag q (ag w (ah.bg fo))) ?_;refine aD.2 ⟨?_,p⟩;rw[e8,u,gi.2 (.inr w)];rfl
    ·have ak:t.r.toNat<x.b_.length:=ad;have z:eK x.b_ t.r=A x.b_[t.r.toNat]:=by grind[jK]
     obtain⟨L,n,ro,els,T,M,_,g,e,s,fv,rfl,aC⟩:=ah.at_ (K:=m4) fo (j:=t.r) (a:=x.b_[t.r.toNat]) ad al;have V:=ae.bq g;have E:H.get L=A (.row ro 2 els):=g;by_cases y:k<0
     ·refine gm @pP.eq_1 l i f m (ag q (ag w (ag (ah.bg fo) y))) ?_;refine aD.2 ⟨?_,p⟩;rw[e8,u,z,Option.bind_some,gi.2 (.inl y)];rfl
     ·by_cases bV:(x.b_[t.r.toNat].length:Int)<=k
      ·refine gm @pP.eq_1 l i f m (ag q (ag w (ag (ah.bg fo) (ag y (ag bV (ag M (ag E (ag e (aC.bg jo))))))))) ?_;refine aD.2 ⟨?_,p⟩;rw[e8,u,z,Option.bind_some,gi.2 (.inr bV)];rfl
      ·have Q:k.toNat<x.b_[t.r.toNat].length:=ad;obtain⟨L',aj,S,N,U,R,_,G,B,s2,rfl⟩:=aC.at_ (K:=l1) jo (j:=k) (a:=x.b_[t.r.toNat][k.toNat]) ad al;have Y:=ae.bq G;have O:H.get L'=A (.row S 4 N):=G;rw[cb]at B;refine gm @pP.eq_1 l i f m (ag q (ag w (ag (ah.bg fo) (ag y (ag bV (ag M (ag E (ag e (ag (aC.bg jo) (ag R (ag O B))))))))))) ?_;refine aD.2 ⟨?_,(((au.refl H).eI _).eI _).eI _⟩;rw[e8,u,z,Option.bind_some,jK ad,List.getElem?_eq_getElem Q];rfl
end
end
section
open Go.a_
set_option maxRecDepth 2000
section
variable {H:ae}{ok:Nat->Prop}
theorem Jt{x:bC}{v:af}(aE:cA H ok x v)(f:Nat)(s:Int)(t:cM):W (aK P aG 109 [v,D F f,D F s,c3 t] H) λr H'=>r= C (iT x f s t)/\au H H':=by
 obtain⟨_,rfl,a,b,c,d,rfl,ah,ai,ax,aM⟩:=aE;refine adG 0 ?_;have i:=dV ah ai ax aM x.main;have h:=j9 t;rw[cb]at h;have w:=(((au.refl H).eI (.row I 5 [[a,b,c,d,D F x.main]])).eI (.row I 3 [[D F t.b,D F t.r,D F t.d]]));by_cases k:0<=s
 ·by_cases l:s<(x.sites.length:Int)
  ·have u:s.toNat<x.sites.length:=ad;have y:eK x.sites s=A x.sites[s.toNat]:=by grind[jK]
   obtain⟨L,n,ro,els,p,o,_,g,e,rfl⟩:=aM.at_ (K:=m5) fH (j:=s) (a:=x.sites[s.toNat]) ad al;have q:=ae.bq g;have m:H.get L=A (.row ro 4 els):=g;rw[cb]at e;have he:∀z,bx P .eql 46 z (.agg [D F x.sites[s.toNat].ty.b,D F x.sites[s.toNat].ty.r,D F x.sites[s.toNat].ty.d]) (.agg [D F t.b,D F t.r,D F t.d])=A (C (decide (x.sites[s.toNat].ty=t))):=dx _ t;cases aC:(x.sites[s.toNat].f==(f:Int))with
   |true=>
    refine gm @vq.eq_1 i h k l (ag (aM.bg fH) (ag o (ag m (ag e (ag aC he))))) ?_;grind[aD,iT]
   |false=>
    refine gm @vq.eq_1 i h k l (ag (aM.bg fH) (ag o (ag m (ag e aC)))) ?_;grind[aD,iT]
  ·refine gm @vq.eq_1 i h k l (aM.bg fH) ?_;grind[aD,iT,gi]
 ·refine yd @vq.eq_1 i h k ?_;grind[aD,iT,gi]
def yT{i:In}{v:af}(h:aH aN H ok i.args v)(a b c d e:Int)(l:Nat):fj l (.agg [D F a,D F b,D F c,D F d,D F e,v])=A (.ptr l 0 0,.row I 6 [[D F a,D F b,D F c,D F d,D F e,v]]):=
 mg l _ (by have f:=h.one;simp[f];exact⟨rfl,rfl,rfl,rfl,rfl⟩)
def Tb(i:In)(b c n g:Bool):Bool:=(b||i.b==0)&&((c||i.c==0)&&((n||i.n==0)&&(g||i.args.length==0)))
theorem Di(a b:Bool):a=J\/(a=I/\b=J)\/(a=I/\b=I):=al
theorem abL{i:In}{v:af}{L:Nat}(d:aH aN H ok i.args v)(g:H.get L=A (.row I 6 [[D F i.op,D F i.a,D F i.b,D F i.c,D F i.n,v]]))(b c n a:Bool):
  mP (aK P aG) (.ptr L 0 0) (C b) (C c) (C n) (C a) H=A (C (Tb i b c n a),H):=by
 have aw:(i.args.length==0)=((i.args.length:Int)==0):=by
  grind
 have e:=λH0=>d.len b0 (H0:=H0)
 unfold Tb;rw[aw];clear aw d;rcases Di b (i.b==0)with rfl|⟨rfl,ah⟩|⟨rfl,ah⟩<;>rcases Di c (i.c==0)with rfl|⟨rfl,ai⟩|⟨rfl,ai⟩<;>rcases Di n (i.n==0)with rfl|⟨rfl,ax⟩|⟨rfl,ax⟩<;>rcases Di a ((i.args.length:Int)==0)with rfl|⟨rfl,aM⟩|⟨rfl,aM⟩<;>
  simp-implicitDefEqProofs(disch:=try exact aW)only[mP,vp,reduceAdd,reduceLeDiff,reduceIte,eU, *]<;>rfl
theorem abM{i:In}{v:af}(aP:yu H ok i v):W (aK P aG 102 [v] H) λr H'=>r= C (named i)/\au H H':=by
 obtain⟨_,rfl,w,rfl,e⟩:=aP;refine adz 0 ?_;have d:=yT e;have h:=au.push H (.row I 6 [[D F i.op,D F i.a,D F i.b,D F i.c,D F i.n,w]]);have f:=λb c n a=>abL (e.aB h) (ae.a2 H (.row I 6 [[D F i.op,D F i.a,D F i.b,D F i.c,D F i.n,w]])) b c n a
 have g:=λH0=>e.len b0 (H0:=H0)
 have fin:∀{a b:Bool},a=b->W (A (af.bool a,H.push (.row I 6 [[D F i.op,D F i.a,D F i.b,D F i.c,D F i.n,w]]))) λr H'=>r= C b/\au H H':=(by grind[aD])
 unfold named;simp only[];split
 case h_16 heq=>
  have t:∀j:Int,(i.op==j)=((16:Int)==j):=λj=>al
  have aw:(i.args.length==0)=((i.args.length:Int)==0):=by
   grind
  rw[aw];rcases Bool.eq_false_or_eq_true (i.a==0)with ah|ah<;>rcases Bool.eq_false_or_eq_true (i.b==0)with ai|ai<;>rcases Bool.eq_false_or_eq_true (i.c==0)with ax|ax<;>rcases Bool.eq_false_or_eq_true ((i.args.length:Int)==0)with aM|aM<;>
   simp-implicitDefEqProofs(disch:=try exact aW)only[Ar,Aq,Ap,Ao,vp,reduceAdd,reduceLeDiff,reduceIte,eU,d,g,t,Int.reduceBEq,ah,ai,ax,aM]<;>exact fin rfl
 case h_17 x1 x2 x3 x4 x5 x6 x7 x8 x9 x10 x11 x12 k l m o=>
  have p:(i.op==1)=false:=beq_eq_false_iff_ne.2 x1;have E:(i.op==11)=false:=beq_eq_false_iff_ne.2 x2;have G:(i.op==19)=false:=beq_eq_false_iff_ne.2 x3;have K:(i.op==20)=false:=beq_eq_false_iff_ne.2 x4;have L:(i.op==3)=false:=beq_eq_false_iff_ne.2 x5;have M:(i.op==10)=false:=beq_eq_false_iff_ne.2 x6;have N:(i.op==4)=false:=beq_eq_false_iff_ne.2 x7;have O:(i.op==5)=false:=beq_eq_false_iff_ne.2 x8;have Q:(i.op==12)=false:=beq_eq_false_iff_ne.2 x9;have q:(i.op==6)=false:=beq_eq_false_iff_ne.2 x10;have s:(i.op==7)=false:=beq_eq_false_iff_ne.2 x11;have u:(i.op==8)=false:=beq_eq_false_iff_ne.2 x12;have x:(i.op==9)=false:=beq_eq_false_iff_ne.2 k
  have y:(i.op==13)=false:=beq_eq_false_iff_ne.2 l;have z:(i.op==17)=false:=beq_eq_false_iff_ne.2 m;have B:(i.op==16)=false:=beq_eq_false_iff_ne.2 o;simp-implicitDefEqProofs(disch:=try exact aW)only[Ar,Aq,Ap,Ao,vp,reduceAdd,reduceLeDiff,reduceIte,eU,d,f,p,E,G,K,L,M,N,O,Q,q,s,u,x,y,z,B];exact fin rfl
 all_goals
  rename_i heq;have t:∀j:Int,(i.op==j)=(_==j):=λj=>by rw[heq]
  simp-implicitDefEqProofs(disch:=try exact aW)only[Ar,Aq,Ap,Ao,vp,reduceAdd,reduceLeDiff,reduceIte,eU,d,f,t,Int.reduceBEq];exact fin rfl
def R{H:ae}{t:cM}{L:Nat}(h:H.get L=A (.row I 3 [cb t])):aI P H 46 (.ptr L 0 0)=A (c3 t):=
 hz (n:=3) (i:=0) (c:=0) aF aF h rfl bZ
def eR(t:cM):bF (A (c3 t)) (c3 t)=true:=by simp[bF,c3,cb,af.beq,e6.beq]
theorem lY{cN:List Nat}{T:List fr}{H:ae}:∀{S:List fr},(∀H'∈hW T H,au H H')->(∀t∈S,∀v,t.k= .read v->∀H',au H H'->bF (t.rd H') v=J)->tU cN T H S
 |[],_,_=>trivial
 |t::ts,ah,ai=>⟨al,lY ah al⟩
theorem uu{zA B zD:Nat}{a b d:cM}(c:H.get zA=A (.row I 3 [cb a]))(e:H.get B=A (.row I 3 [cb b]))(j:H.get zD=A (.row I 3 [cb d]))(op:Int):
  W (nx (aK P aG) (.ptr zA 0 0) (.ptr B 0 0) (.ptr zD 0 0) (D F op) (C J) H) λr H'=>r= C (decide (a=da/\b=da/\d=da))/\au H H':=by
 refine bP @nx.eq_1 ?_;refine bw kK λah f=> ?_
 by_cases h:a=da
 ·subst h;refine bG (R (f.get c)) @dx ?_;refine cT kK λai l=> ?_
  have g:=f.trans l;by_cases i:b=da
  ·subst i;refine bG (R (g.get e)) @dx ?_;refine cT kK λax m=> ?_
   have k:=g.trans m;refine bG (R (k.get j)) @dx ?_;refine ds (λH' p=>(ag (R (p.get c)) (ag eR (ag (R (p.get e)) (R (p.get j)))))) (aD.2 ⟨aX,k⟩)
  ·refine b3 (R (g.get e)) @dx i ?_;refine ds (λH' p=>(ag (R (p.get c)) (ag eR (R (p.get e))))) (aD.2 ⟨al,g⟩)
 ·refine b3 (R (f.get c)) @dx h ?_;refine ds (λH' p=>(ag (R (p.get c)) eR)) (aD.2 ⟨al,f⟩)
theorem J5{zA B zD:Nat}{a b d:cM}(c:H.get zA=A (.row I 3 [cb a]))(e:H.get B=A (.row I 3 [cb b]))(j:H.get zD=A (.row I 3 [cb d]))(op:Int):
  W (pO (aK P aG) (.ptr zA 0 0) (.ptr B 0 0) (.ptr zD 0 0) (D F op) (C J) H) λr H'=>r= C (decide (a=ey/\b=da/\d=da))/\au H H':=by
 refine bP @pO.eq_1 ?_;refine bw oE λah f=> ?_
 by_cases h:a=ey
 ·subst h;refine bG (R (f.get c)) @dx ?_;refine cT kK λai l=> ?_
  have g:=f.trans l;by_cases i:b=da
  ·subst i;refine bG (R (g.get e)) @dx ?_;refine cT kK λax m=> ?_
   have k:=g.trans m;refine bG (R (k.get j)) @dx ?_;refine ds (λH' p=>(ag (R (p.get c)) (ag eR (ag (R (p.get e)) (R (p.get j)))))) (aD.2 ⟨aX,k⟩)
  ·refine b3 (R (g.get e)) @dx i ?_;refine ds (λH' p=>(ag (R (p.get c)) (ag eR (R (p.get e))))) (aD.2 ⟨al,g⟩)
 ·refine b3 (R (f.get c)) @dx h ?_;refine ds (λH' p=>(ag (R (p.get c)) eR)) (aD.2 ⟨al,f⟩)
theorem J7{zA B zD:Nat}{a b d:cM}(c:H.get zA=A (.row I 3 [cb a]))(e:H.get B=A (.row I 3 [cb b]))(j:H.get zD=A (.row I 3 [cb d])):
  W (Au (aK P aG) (.ptr zA 0 0) (.ptr B 0 0) (.ptr zD 0 0) (C J) H) λr H'=>r= C (decide (a=ey/\b=ey/\d=ey))/\au H H':=by
 refine bP @Au.eq_1 ?_;refine bw oE λah f=> ?_
 by_cases h:a=ey
 ·subst h;refine bG (R (f.get c)) @dx ?_;refine cT oE λai l=> ?_
  have g:=f.trans l;by_cases i:b=ey
  ·subst i;refine bG (R (g.get e)) @dx ?_;refine cT oE λax m=> ?_
   have k:=g.trans m;refine bG (R (k.get j)) @dx ?_;refine ds (λH' p=>(ag (R (p.get c)) (ag eR (ag (R (p.get e)) (R (p.get j)))))) (aD.2 ⟨aX,k⟩)
  ·refine b3 (R (g.get e)) @dx i ?_;refine ds (λH' p=>(ag (R (p.get c)) (ag eR (R (p.get e))))) (aD.2 ⟨al,g⟩)
 ·refine b3 (R (f.get c)) @dx h ?_;refine ds (λH' p=>(ag (R (p.get c)) eR)) (aD.2 ⟨al,f⟩)
theorem J6{zA B zD:Nat}{a b d:cM}(e:H.get zA=A (.row I 3 [cb a]))(f:H.get B=A (.row I 3 [cb b]))(g:H.get zD=A (.row I 3 [cb d]))(op:Int):
  W (sZ (aK P aG) (.ptr zA 0 0) (.ptr B 0 0) (.ptr zD 0 0) (D F op) (C J) H) λr H'=>r= C (decide (a=ey/\b≠bt/\b=d))/\au H H':=by
 refine bP @sZ.eq_1 ?_;refine bw oE λah c=> ?_
 have aL:(.agg [D F 0,D F 0,D F 0]:af)=c3 bt:=rfl;by_cases h:a=ey
 ·subst h;by_cases i:b=bt
  ·subst i;refine bh D4 aL (R (c.get e)) (R (c.get f)) @dx (ag @iH (ag @ne_eq.{1} @not_true_eq_false)) ?_;refine ds (λH' p=>(ag (R (p.get e)) (ag eR (ag (R (p.get f)) (R (p.get g)))))) (aD.2 ⟨aX,c⟩)
  ·refine bh D4 aL (R (c.get e)) (R (c.get f)) (R (c.get g)) (ag @dx (ag @iH (ag i (ag @ne_eq.{1} @not_false_eq_true)))) ?_;refine ds (λH' p=>(ag (R (p.get e)) (ag eR (ag (R (p.get f)) (R (p.get g)))))) (aD.2 ⟨al,c⟩)
 ·refine b3 (R (c.get e)) @dx h ?_;refine ds (λH' p=>(ag (R (p.get e)) (ag eR (ag (R (p.get f)) (R (p.get g)))))) (aD.2 ⟨al,c⟩)
theorem UP(n:Int)(a b d:cM):W (aK P aG 106 [D F n,c3 a,c3 b,c3 d] H) λr H'=>r= C (hd n a b d)/\au H H':=by
 refine adD 0 ?_;simp-implicitDefEqProofs(disch:=try exact aW)only[Qi,j9,ej,cV,qI];have y:=(((au.refl H).eI (.row I 3 [cb a])).eI (.row I 3 [cb b])).eI (.row I 3 [cb d]);have c:(((H.push (.row I 3 [cb a])).push (.row I 3 [cb b])).push (.row I 3 [cb d])).get H.next=A (.row I 3 [cb a]):=by simp[ae.jS];omega
 have f:(((H.push (.row I 3 [cb a])).push (.row I 3 [cb b])).push (.row I 3 [cb d])).get (H.next+1)=A (.row I 3 [cb b]):=by simp[ae.jS]
 have g:(((H.push (.row I 3 [cb a])).push (.row I 3 [cb b])).push (.row I 3 [cb d])).get (H.next+1+1)=A (.row I 3 [cb d]):=by simp[ae.jS]
 have m:∀{e:Bool} {r:O},W r (λv H'=>v= C e/\au (((H.push (.row I 3 [cb a])).push (.row I 3 [cb b])).push (.row I 3 [cb d])) H')->hd n a b d=e->W r λv H'=>v= C (hd n a b d)/\au H H':=by
  intro e r h he;refine h.mono ?_;rintro _ H' ⟨rfl,p⟩;exact⟨by rw[he],y.trans p⟩
 by_cases i:n=14
 ·subst i;simp-implicitDefEqProofs(disch:=try exact aW)only[ej,cV,Int.reduceBEq];exact m (uu c f g _) rfl
 have z:(n==14)=false:=beq_eq_false_iff_ne.2 i;by_cases j:n=15
 ·subst j;simp-implicitDefEqProofs(disch:=try exact aW)only[ej,cV,Int.reduceBEq];exact m (uu c f g _) rfl
 have B:(n==15)=false:=beq_eq_false_iff_ne.2 j;by_cases k:n=16
 ·subst k;simp-implicitDefEqProofs(disch:=try exact aW)only[ej,cV,Int.reduceBEq];exact m (uu c f g _) rfl
 have E:(n==16)=false:=beq_eq_false_iff_ne.2 k;by_cases l:n=17
 ·subst l;simp-implicitDefEqProofs(disch:=try exact aW)only[ej,cV,Int.reduceBEq];exact m (uu c f g _) rfl
 have G:(n==17)=false:=beq_eq_false_iff_ne.2 l;by_cases o:n=18
 ·subst o;simp-implicitDefEqProofs(disch:=try exact aW)only[ej,cV,Int.reduceBEq];exact m (uu c f g _) rfl
 have K:(n==18)=false:=beq_eq_false_iff_ne.2 o;by_cases q:n=19
 ·subst q;simp-implicitDefEqProofs(disch:=try exact aW)only[ej,cV,nx,Int.reduceBEq];exact m (J5 c f g _) rfl
 have L:(n==19)=false:=beq_eq_false_iff_ne.2 q;by_cases s:n=20
 ·subst s;simp-implicitDefEqProofs(disch:=try exact aW)only[ej,cV,nx,Int.reduceBEq];exact m (J5 c f g _) rfl
 have M:(n==20)=false:=beq_eq_false_iff_ne.2 s;by_cases t:n=21
 ·subst t;simp-implicitDefEqProofs(disch:=try exact aW)only[ej,cV,nx,pO,Int.reduceBEq];exact m (J6 c f g _) rfl
 have N:(n==21)=false:=beq_eq_false_iff_ne.2 t;by_cases u:n=22
 ·subst u;simp-implicitDefEqProofs(disch:=try exact aW)only[ej,cV,nx,pO,Int.reduceBEq];exact m (J6 c f g _) rfl
 have Q:(n==22)=false:=beq_eq_false_iff_ne.2 u;by_cases w:n=23
 ·subst w;simp-implicitDefEqProofs(disch:=try exact aW)only[ej,cV,nx,pO,sZ,Int.reduceBEq];exact m (J7 c f g) rfl
 have R:(n==23)=false:=beq_eq_false_iff_ne.2 w;by_cases x:n=24
 ·subst x;simp-implicitDefEqProofs(disch:=try exact aW)only[ej,cV,nx,pO,sZ,Int.reduceBEq];exact m (J7 c f g) rfl
 have S:(n==24)=false:=beq_eq_false_iff_ne.2 x;refine bh @nx.eq_1 @pO.eq_1 @sZ.eq_1 @Au.eq_1 @nw.eq_1 (ag z (ag B (ag E (ag G (ag K (ag L (ag M (ag N (ag Q (ag R S)))))))))) ?_;grind[aD,hd]
