/-
  Texts of one proof, laid together: SgB SgC SgD SgE Na ShC Nb Nc Nd.
-/
import Derived.Test.YtmhhnnklfcbgfaaGreatMF
set_option linter.unusedVariables false
set_option linter.unusedSimpArgs false
set_option linter.defProp false
open Option renaming some→A,none→Z
open Bool renaming true→J,false→I
open Go.cv.af renaming int→D,str→X,bool→C
open Go.IntKind renaming i64→F
namespace Go.a2
open Go.cv
section
open Classical
inductive bt where
 |base (a b:Nat)
 |copy (a b:Nat)
 |load (a b f:Nat)
 |store (a b f:Nat)
 |same (a b:Nat)
inductive dN(n:Nat)(l:List bt):Nat->Nat->Prop where
 |base {a b} (h:bt.base a b∈l):dN n l a b
 |copy {a b s} (h:bt.copy a b∈l) (ah:dN n l b s):dN n l a s
 |load {a b f t s} (h:bt.load a b f∈l) (ah:dN n l b t) (ai:dN n l (n+t*8+f) s):dN n l a s
 |store {a b f t s} (h:bt.store a b f∈l) (ah:dN n l a t) (ai:dN n l b s):dN n l (n+t*8+f) s
 |same {a b f s} (h:bt.same a b∈l) (aB:f<8) (ah:dN n l (n+a*8+f) s):dN n l (n+b*8+f) s
 |n_ {a b f s} (h:bt.same a b∈l) (aB:f<8) (ah:dN n l (n+b*8+f) s):dN n l (n+a*8+f) s
def bt.wf(n m:Nat):bt->Prop
 | .base a b=>a<n/\b<m
 | .copy a b=>a<n/\b<n
 | .load a b f=>a<n/\b<n/\f<8
 | .store a b f=>a<n/\b<n/\f<8
 | .same a b=>a<m/\b<m
def gy(n m:Nat)(l:List bt):Prop:=∀c∈l,c.wf n m
structure Fit(n:Nat)(l:List bt)(R:Nat->Nat->Prop):Prop where
 base:∀{a b},bt.base a b∈l->R a b
 copy:∀{a b s},bt.copy a b∈l->R b s->R a s
 load:∀{a b f t s},bt.load a b f∈l->R b t->R (n+t*8+f) s->R a s
 store:∀{a b f t s},bt.store a b f∈l->R a t->R b s->R (n+t*8+f) s
 same:∀{a b f s},bt.same a b∈l->f<8->R (n+a*8+f) s->R (n+b*8+f) s
 n_:∀{a b f s},bt.same a b∈l->f<8->R (n+b*8+f) s->R (n+a*8+f) s
def dN.least{n:Nat}{l:List bt}{R:Nat->Nat->Prop}(h:Fit n l R):∀{v s},dN n l v s->R v s:=by
 intro v s p
 induction p with
 |base ah=>exact h.base ah
 |copy ah _ i=>exact h.copy ah i
 |load ah _ _ i j=>exact h.load ah i j
 |store ah _ _ i j=>exact h.store ah i j
 |same ah aB _ i=>exact h.same ah aB i
 |n_ ah aB _ i=>exact h.n_ ah aB i
theorem dN.site{n m:Nat}{l:List bt}(hw:gy n m l){v s:Nat}(h:dN n l v s):s<m:=by
 induction h with
 |base h=>exact(hw _ h).2
 |copy _ _ i=>exact i
 |load _ _ _ _ j=>exact j
 |store _ _ _ _ j=>exact j
 |same _ _ _ i=>exact i
 |n_ _ _ _ i=>exact i
def dN.mono{n:Nat}{l b:List bt}(h:∀c∈l,c∈b){v s:Nat}(p:dN n l v s):dN n b v s:=
 p.least ⟨λa=> .base (h _ a),λa=> .copy (h _ a),λa=> .load (h _ a),λa=> .store (h _ a),λa=> .same (h _ a),λa=> .n_ (h _ a)⟩
noncomputable def db(m:Nat)(p:Nat->Prop):List Nat:=(List.range m).filter λs=>decide (p s)
theorem g4{m:Nat}{p:Nat->Prop}{s:Nat}:s∈db m p↔s<m/\p s:=by simp[db]
theorem AQ{m:Nat}{p q:Nat->Prop}(h:∀s,s<m->(p s↔q s)):db m p=db m q:=by
 grind[db,List.filter_congr]
theorem vL(m:Nat)(p:Nat->Prop):(db m p).Pairwise (· < ·):=List.Pairwise.filter _ List.pairwise_lt_range
def GX:∀{l r:List Nat},l.Pairwise (· < ·)->r.Pairwise (· < ·)->(∀a,a∈l↔a∈r)->l=r
 |[],[],_,_,_=>rfl
 |[],b::r,_,_,h=>by have:=(h b).2 (by simp);grind
 |a::l,[],_,_,h=>by have:=(h a).1 (by simp);grind
 |a::l,b::r,ar,au,h=>by
  rw[List.pairwise_cons]at ar au;have e:a=b:=by
   have ah:=(h a).1 (by simp);have ai:=(h b).2 (by simp);grind
  subst e;rw[GX ar.2 au.2 λc=> ?_];grind
structure df where
 nodes:List (List Nat)
 fields:List (List (List Nat))
noncomputable def iH(n m:Nat)(R:Nat->Nat->Prop):df:=
 ⟨(List.range n).map λv=>db m (R v),(List.range m).map λt=>(List.range 8).map λf=>db m (R (n+t*8+f))⟩
noncomputable def ho(n m:Nat)(l:List bt):df:=iH n m (dN n l)
def df.er(p:df)(s k:Nat):List Nat:=((p.fields[s]?).bind λfs=>fs[k]?).getD []
inductive bW(p:df):Nat->Nat->Prop where
 |refl (a):bW p a a
 |symm {a b} (h:bW p a b):bW p b a
 |trans {a b c} (h:bW p a b) (k:bW p b c):bW p a c
 |node {L a b} (h:L∈p.nodes) (d:a∈L) (e:b∈L):bW p a b
 |field {s t k a b} (h:bW p s t) (d:a∈p.er s k) (e:b∈p.er t k):bW p a b
structure zh(p:df)(R:Nat->Nat->Prop):Prop where
 refl:∀a,R a a
 symm:∀{a b},R a b->R b a
 trans:∀{a b c},R a b->R b c->R a c
 node:∀{L a b},L∈p.nodes->a∈L->b∈L->R a b
 field:∀{s t k a b},R s t->a∈p.er s k->b∈p.er t k->R a b
def bW.least{p:df}{R:Nat->Nat->Prop}(h:zh p R):∀{a b},bW p a b->R a b:=by
 intro a b t
 induction t with
 |refl a=>exact h.refl a
 |symm _ i=>exact h.symm i
 |trans _ _ i j=>exact h.trans i j
 |node ah c d=>exact h.node ah c d
 |field _ c d i=>exact h.field i c d
def bW.cl(p:df):zh p (bW p):=⟨.refl,.symm,.trans,.node,.field⟩
structure gx(R:Nat->Nat->Prop):Prop where
 refl:∀a,R a a
 symm:∀{a b},R a b->R b a
 trans:∀{a b c},R a b->R b c->R a c
def zh.eqv{p:df}{R:Nat->Nat->Prop}(h:zh p R):gx R:=⟨h.refl,h.symm,h.trans⟩
noncomputable def et(R:Nat->Nat->Prop)(s:Nat):Nat:=((List.range (s+1)).find? λt=>decide (R s t)).getD s
theorem kr{R:Nat->Nat->Prop}(h:gx R)(s:Nat):R s (et R s)/\et R s<=s/\∀t,R s t->et R s<=t:=by
 unfold et;cases aB:(List.range (s+1)).find? λt=>decide (R s t)with
 |none=>
  rw[List.find?_eq_none]at aB;exact absurd (decide_eq_true (h.refl s)) (aB s (by simp))
 |some t=>
  grind[List.find?_range_eq_some]
theorem pQ{R:Nat->Nat->Prop}(h:gx R){a b:Nat}:et R a=et R b↔R a b:=by
 have c:=kr h a;have d:=kr h b;constructor
 ·intro e;exact h.trans c.1 (h.symm (e▸d.1))
 ·intro au;exact Nat.le_antisymm (c.2.2 _ (h.trans au d.1)) (d.2.2 _ (h.trans (h.symm au) c.1))
theorem OB{R:Nat->Nat->Prop}(h:gx R)(a:Nat):et R (et R a)=et R a:=(by grind[pQ,kr])
end
section
open Classical
noncomputable def dB(R:Nat->Nat->Prop)(m:Nat):List Nat:=db m λs=>et R s=s
noncomputable def dj(R:Nat->Nat->Prop)(s:Nat):Nat:=(dB R (et R s)).length
structure cK where
 count:Nat
 of:List Nat
 nodes:List Int
 fields:List (List Int)
noncomputable def il(R:Nat->Nat->Prop):List Nat->Int
 |[]=> -1
 |a::_=>dj R a
noncomputable def kL(p:df)(R:Nat->Nat->Prop)(m r k:Nat):List Nat:=(db m (R r)).flatMap λt=>p.er t k
noncomputable def ry(p:df)(R:Nat->Nat->Prop)(m:Nat):cK:=
 ⟨(dB R m).length,(List.range m).map (dj R),p.nodes.map (il R),(dB R m).map λr=>(List.range 8).map λk=>il R (kL p R m r k)⟩
noncomputable def merge(p:df)(m:Nat):cK:=ry p (bW p) m
def adR{m gi:Nat}{p:Nat->Prop}(h:m<=gi):db m p <+: db gi p:=by
 unfold db;obtain⟨k,rfl⟩:∃k,gi=m+k:=⟨gi-m,by omega⟩;grind[List.range_add]
theorem m3{m:Nat}{p:Nat->Prop}:db (m+1) p=db m p++(if p m then[m]else[]):=by
 grind[db,List.range_succ]
def Qk{m s:Nat}{p:Nat->Prop}(a:s<m)(h:p s):(db m p)[(db s p).length]? =A s:=by
 obtain⟨t,a_⟩:=adR (p:=p) (show s+1<=m by omega);grind[m3]
def E9{R:Nat->Nat->Prop}(he:gx R){m s:Nat}(a:s<m):(dB R m)[dj R s]? =A (et R s):=
 Qk (by grind[kr]) (OB he s)
def E_{R:Nat->Nat->Prop}(he:gx R){m s:Nat}(a:s<m):dj R s<(dB R m).length:=(List.getElem?_eq_some_iff.1 (E9 he a)).1
theorem sU{R:Nat->Nat->Prop}(he:gx R){s t:Nat}:dj R s=dj R t↔R s t:=by
 rw[<-pQ he];constructor
 ·intro h;have ah:=E9 he (m:=s+t+1) (s:=s) (by omega);have ai:=E9 he (m:=s+t+1) (s:=t) (by omega);rw[h]at ah;exact Option.some.inj (ah.symm.trans ai)
 grind[dj]
theorem vT(R:Nat->Nat->Prop)(m:Nat):(dB R m).length<=m:=by
 grind[dB,db]
noncomputable def hZ(R:Nat->Nat->Prop)(m:Nat):List bt:=(List.range m).map λs=>bt.same s (et R s)
theorem ru{R:Nat->Nat->Prop}{m:Nat}{c:bt}:c∈hZ R m↔∃s,s<m/\c= .same s (et R s):=by
 grind[hZ]
def Ub{R:Nat->Nat->Prop}(he:gx R)(n m:Nat):gy n m (hZ R m):=by
 intro c aA;obtain⟨s,h,rfl⟩:=ru.1 aA;exact⟨h,by grind[kr]⟩
def Uc{n m:Nat}{l a:List bt}(h:gy n m l)(cD:gy n m a):gy n m (l++a):=λc aA=>(List.mem_append.1 aA).elim (h c) (cD c)
def dN.U1{n m:Nat}{l:List bt}{R S:Nat->Nat->Prop}(g:gx R)(i:gx S)(h:∀a b,R a b->S a b){v s:Nat}(p:dN n (l++hZ R m) v s):dN n (l++hZ S m) v s:=by
 have key:∀{a b:Nat},bt.same a b∈hZ R m->a<m/\b<m/\et S a=et S b:=by
  grind[ru,kr,pQ]
 have mk:∀{a},a<m->bt.same a (et S a)∈l++hZ S m:=(by grind[ru]);refine p.least ⟨?_,?_,?_,?_,?_,?_⟩
 ·intro a b aA;rcases List.mem_append.1 aA with aA|aA
  ·exact .base (List.mem_append.2 (.inl aA))
  grind[ru]
 ·intro a b s aA;rcases List.mem_append.1 aA with aA|aA
  ·exact .copy (List.mem_append.2 (.inl aA))
  grind[ru]
 ·intro a b f t s aA;rcases List.mem_append.1 aA with aA|aA
  ·exact .load (List.mem_append.2 (.inl aA))
  grind[ru]
 ·intro a b f t s aA;rcases List.mem_append.1 aA with aA|aA
  ·exact .store (List.mem_append.2 (.inl aA))
  grind[ru]
 ·intro a b f s aA aB ah;rcases List.mem_append.1 aA with aA|aA
  ·exact .same (List.mem_append.2 (.inl aA)) aB ah
  ·obtain⟨c,d,e⟩:=key aA;have ai:=dN.same (mk c) aB ah;rw[e]at ai;exact .n_ (mk d) aB ai
 ·intro a b f s aA aB ah;rcases List.mem_append.1 aA with aA|aA
  ·exact .n_ (List.mem_append.2 (.inl aA)) aB ah
  ·obtain⟨c,d,e⟩:=key aA;have ai:=dN.same (mk d) aB ah;rw[<-e]at ai;exact .n_ (mk c) aB ai
theorem MX{n m:Nat}{R:Nat->Nat->Prop}{t k a:Nat}:a∈(iH n m R).er t k↔t<m/\k<8/\a<m/\R (n+t*8+k) a:=by
 grind[df.er,iH,g4]
def bW.Pq{n m:Nat}{R S:Nat->Nat->Prop}(h:∀v s,R v s->S v s){a b:Nat}(t:bW (iH n m R) a b):bW (iH n m S) a b:=by
 refine t.least ⟨.refl,.symm,.trans,?_,?_⟩
 ·intro L a b c d e;simp only[iH,List.mem_map,List.mem_range]at c;obtain⟨v,g,rfl⟩:=c;refine .node (L:=db m (S v)) ?_ ?_ ?_
  ·grind[iH]
  ·grind[g4]
  grind[g4]
 ·intro s t k a b f d e;refine .field (s:=s) (t:=t) (k:=k) f ?_ ?_
  ·grind[MX]
  grind[MX]
noncomputable def ac_(n m:Nat)(l:List bt)(R:Nat->Nat->Prop):Nat->Nat->Prop:=bW (ho n m (l++hZ R m))
noncomputable def m8(n m:Nat)(l:List bt):Nat->Nat->Nat->Prop
 |0=>bW (ho n m l)
 |k+1=>ac_ n m l (m8 n m l k)
theorem vZ(n m:Nat)(l:List bt):∀k,gx (m8 n m l k)
 |0=>(bW.cl _).eqv
 |_+1=>(bW.cl _).eqv
theorem Re(n m:Nat)(l:List bt):∀k a b,m8 n m l k a b->m8 n m l (k+1) a b
 |0,a,b,h=>bW.Pq (λv s p=>p.mono (by grind)) h
 |k+1,a,b,h=>bW.Pq (λv s p=>p.U1 (vZ n m l k) (vZ n m l (k+1)) (Re n m l k)) h
noncomputable def eb(n m:Nat)(l:List bt):Nat->cK
 |0=>merge (ho n m l) m
 |k+1=>merge (ho n m (l++hZ (m8 n m l k) m)) m
theorem u9(n m:Nat)(l:List bt)(k:Nat):(eb n m l k).of=(List.range m).map (dj (m8 n m l k)):=by cases k<;>rfl
theorem E8(n m:Nat)(l:List bt)(k:Nat):(eb n m l k).count=(dB (m8 n m l k) m).length:=by cases k<;>rfl
def aek{R S:Nat->Nat->Prop}(c:gx R)(d:gx S)(h:∀a b,R a b->S a b){s:Nat}(e:et S s=s):et R s=s:=by
 grind[kr]
def adQ{m:Nat}{p q:Nat->Prop}(h:∀s,p s->q s):(db m p).length<=(db m q).length:=by
 induction m with
 |zero=>simp[db]
 |succ m a=>
  grind[m3]
def Qm{m:Nat}{p q:Nat->Prop}(h:∀s,p s->q s)(e:(db m q).length<=(db m p).length):∀s,s<m->q s->p s:=by
 induction m with
 |zero=>omega
 |succ m a=>
  rw[m3,m3,List.length_append,List.length_append]at e;have hle:=adQ (m:=m) h;grind
theorem W7{R S:Nat->Nat->Prop}{m:Nat}(h:∀a b,a<m->b<m->(R a b↔S a b))(c:gx R)(d:gx S):∀s,s<m->et R s=et S s:=by
 grind[kr]
theorem ahu{R S:Nat->Nat->Prop}{m:Nat}(c:gx R)(d:gx S)(h:∀a b,R a b->S a b)(aA:(dB R m).length<=(dB S m).length):∀s,s<m->dj S s=dj R s:=by
 have e:∀s,s<m->et R s=s->et S s=s:=Qm (λs=>aek c d h) aA;grind[kr,OB,pQ,dj,dB,AQ]
theorem adn(n m:Nat)(l:List bt)(k:Nat)(h:(eb n m l k).count<=(eb n m l (k+1)).count):(eb n m l (k+1)).of=(eb n m l k).of:=by
 grind[E8,u9,List.map_congr_left,ahu,vZ,Re]
theorem Xi(n m:Nat)(l:List bt)(k:Nat)(h:(eb n m l (k+1)).of≠(eb n m l k).of):(eb n m l (k+1)).count<(eb n m l k).count:=by
 grind[adn]
noncomputable def E7(n m:Nat)(l:List bt):cK:=
 let k:=((List.range (m+2)).find? λk=>decide ((eb n m l (k+1)).of=(eb n m l k).of)).getD 0
 eb n m l (k+1)
def Ju(n m:Nat)(l:List bt):∃k,k<m+2/\(eb n m l (k+1)).of=(eb n m l k).of/\(∀j,j<k->(eb n m l (j+1)).of≠(eb n m l j).of)/\E7 n m l=eb n m l (k+1):=by
 have hex:∃k,k<m+2/\(eb n m l (k+1)).of=(eb n m l k).of:=by
  apply Classical.byContradiction;intro aL;have a:∀k,k<=m+1->(eb n m l k).count+k<=(eb n m l 0).count:=by
   intro k
   induction k with
   |zero=>omega
   |succ k b=>
    grind[Xi]
  have ah:=a (m+1) (by omega);grind[vT,E8]
 unfold E7;cases aB:(List.range (m+2)).find? λk=>decide ((eb n m l (k+1)).of=(eb n m l k).of)with
 |none=>
  grind
 |some k=>
  grind[List.find?_range_eq_some]
end
section
open Classical
inductive fC(fs:List (List Int))(roots:List Int):Nat->Prop where
 |root {c:Nat} (h:(c:Int)∈roots) (aA:c<fs.length):fC fs roots c
 |step {c d:Nat} {f:List Int} (h:fC fs roots c) (aB:fs[c]? =some f) (a:(d:Int)∈f) (ar:d<fs.length):fC fs roots d
noncomputable def fa(fs:List (List Int))(roots:List Int):List Nat:=db fs.length (fC fs roots)
theorem nP{fs:List (List Int)}{roots:List Int}{c:Nat}:c∈fa fs roots↔fC fs roots c:=by
 unfold fa;rw[g4];constructor
 ·grind
 ·intro h;refine⟨?_,h⟩;cases h with
  |root _ aA=>omega
  |step _ _ _ ar=>omega
def fC.mono{fs:List (List Int)}{r dc:List Int}(h:∀c:Nat,c<fs.length->(c:Int)∈r->fC fs dc c){c:Nat}(aA:fC fs r c):fC fs dc c:=by
 induction aA with
 |root ah ai=>grind
 |step _ aB a ar i=>exact .step i aB a ar
theorem fC.append{fs:List (List Int)}{r dc:List Int}{c:Nat}:fC fs (r++dc) c↔fC fs r c\/fC fs dc c:=by
 constructor
 ·intro h
  induction h with
  |root ah ai=>exact(List.mem_append.1 ah).imp (λh=> .root h ai) (λh=> .root h ai)
  |step _ aB a ar i=>exact i.imp (λh=> .step h aB a ar) (λh=> .step h aB a ar)
 ·rintro(h|h)
  ·exact h.mono λc aA hm=> .root (List.mem_append.2 (.inl hm)) aA
  ·exact h.mono λc aA hm=> .root (List.mem_append.2 (.inr hm)) aA
def bj(cs:List bQ):Nat->Nat
 |0=>0
 |f+1=>bj cs f+((cs[f]?).map λc=>c.vars.length).getD 0
def ga(cs:List bQ):Nat:=bj cs cs.length
def b7(x:bq):Nat:=ga x.ax+x.ax.length+x.globals.length
def eM(x:bq)(f:Nat):Nat:=ga x.ax+f
def eA(x:bq)(g:Nat):Nat:=ga x.ax+x.ax.length+g
def dE(c:bQ)(v:Int):Bool:=kZ (a7 c v)
def iO(c:bQ)(at_ to:Nat):List Int->Nat->List bt
 |[],_=>[]
 |v::ak,k=>(bif dE c v then[bt.copy (to+k) (at_+v.toNat)]else[])++iO c at_ to ak (k+1)
def c5(x:bq)(f:Nat)(c:bQ)(i:In):List bt:=
 let at_:=bj x.ax f
 let a:=at_+i.a.toNat
 let b:=at_+i.b.toNat
 match i.op with
 |3=>bif dE c i.a then[.copy a b]else[]
 |6=>bif dE c i.a then[.load a b i.c.toNat]else[]
 |8=>bif dE c i.a then[.load a b 0]else[]
 |7=>bif dE c i.b then[.store a b i.c.toNat]else[]
 |9=>bif dE c i.c then[.store a (at_+i.c.toNat) 0]else[]
 |11=>[.base a i.n.toNat]
 |12=>[.base a i.n.toNat]
 |13=>iO c at_ (bj x.ax i.c.toNat) i.args 0++(bif decide (0<=i.a)&&dE c i.a then[.copy a (eM x i.c.toNat)]else[])
 |18=>bif decide (0<=i.a)&&dE c i.a then[.copy (eM x f) a]else[]
 |19=>bif dE c i.a then[.copy a (eA x i.n.toNat)]else[]
 |20=>bif dE c i.a then[.copy (eA x i.n.toNat) a]else[]
 |_=>[]
def vb(x:bq)(f:Nat)(c:bQ):List bt:=c.ins.flatMap (c5 x f c)
def kJ(x:bq):List bQ->Nat->List bt
 |[],_=>[]
 |c::cs,f=>vb x f c++kJ x cs (f+1)
def cons(x:bq):List bt:=kJ x x.ax 0
noncomputable def fK(x:bq):cK:=E7 (b7 x) x.sites.length (cons x)
def cK.node(k:cK)(v:Nat):Int:=(k.nodes[v]?).getD (-1)
def cK.site(k:cK)(s:Int):Int:=match k.of[s.toNat]? with
 |some c=>(c:Int)
 |none=> -1
noncomputable def hM(x:bq)(k:cK):List Nat:=fa k.fields ((List.range x.globals.length).map λg=>k.node (eA x g))
noncomputable def oR(l r:List Nat):List Nat:=l.filter λa=>decide (a∉r)
noncomputable def kU(x:bq)(k:cK)(f:Nat)(c:bQ):List Nat:=
 oR (fa k.fields (k.node (eM x f)::(List.range c.params.toNat).map λv=>k.node (bj x.ax f+v))) (hM x k)
noncomputable def cr(x:bq)(k:cK)(f:Nat):List Nat:=match x.ax[f]? with
 |some c=>kU x k f c
 |none=>[]
inductive jP(x:bq)(k:cK):Nat->Nat->Prop where
 |site {f co i c} (h:x.ax[f]? =some co) (aP:i∈co.ins) (aX:i.op=11\/i.op=12) (a:k.site i.n=((c:Nat):Int)) (aA:c∈cr x k f):jP x k f c
 |call {f co i c} (h:x.ax[f]? =some co) (aP:i∈co.ins) (aX:i.op=13) (a_:jP x k i.c.toNat c) (aA:c∈cr x k f):jP x k f c
noncomputable def lI(x:bq)(k:cK)(f:Nat):List Nat:=db k.count (jP x k f)
noncomputable def eX(x:bq)(k:cK)(i:In):List Nat:=
 if i.op=11\/i.op=12 then fa k.fields [k.site i.n]else if i.op=13 then cr x k i.c.toNat else[]
noncomputable def oU(x:bq)(k:cK)(f:Nat)(c:bQ):List Nat:=
 db k.fields.length λa=>(fC k.fields ((List.range c.vars.length).map λv=>k.node (bj x.ax f+v)) a\/∃i∈c.ins,a∈eX x k i)/\a∉hM x k/\a∉kU x k f c
end
def mD{α:Type}{l:List α}{i:Int}{a:α}(h:eR l i=A a):0<=i/\i.toNat<l.length/\l[i.toNat]? =A a:=by
 grind[eR]
def Gy{c:bQ}{v:Int}(h:a7 c v≠bw):0<=v/\v.toNat<c.vars.length/\c.vars[v.toNat]? =A (a7 c v):=by
 grind[a7,eR]
def AX{t:cS}(h:kZ t=J):t≠bw:=by
 rintro rfl;revert h;decide
def aj2:di≠bw:=by decide
def ajZ:eG≠bw:=by decide
def LK{x:bq}:∀{cs:List bQ} {f k:Nat} {c:bQ},kI x cs f=J->cs[k]? =A c->codeOk x (f+k) c=J
 |[],_,_,_,_,h=>by grind
 |d::cs,f,0,c,h,a=>by
  grind[kI]
 |d::cs,f,k+1,c,h,a=>by
  simp only[kI,Bool.and_eq_true]at h;have:=LK h.2 (k:=k) (by simpa using a);grind
structure ep(x:bq):Prop where
 ca:x.ca.length<=12
 globals:x.globals.length<=8
 ax:1<=x.ax.length/\x.ax.length<=16
 sites:x.sites.length<=60
 code:∀{f:Nat} {c:bQ},x.ax[f]? =some c->codeOk x f c=true
 site:∀{s:su},s∈x.sites->jJ x s=true
 Nd:∀{t:cS},t∈x.globals->eK x.ca.length t=true
 aed:∀{l:List cS},l∈x.ca->l.length<=8
def fG{x:bq}(h:right x=J):ep x:=by
 unfold right at h;simp only[Bool.and_eq_true,decide_eq_true_eq,List.all_eq_true]at h;obtain⟨⟨ah,ai,ay,aM,b⟩,i,c,d,e,g,a⟩:=h;exact⟨ah,ai,(by omega),b,λaA=>by have:=LK a aA;grind,λf=>e _ f,λa_=>c _ a_,λar=>(d _ ar).1⟩
structure J1(x:bq)(f:Nat)(c:bQ):Prop where
 params:0<=c.params/\c.params<=6/\c.params<=c.vars.length
 vars:c.vars.length<=4000
 alE:1<=c.ins.length
 ins:∀{i:In},i∈c.ins->dM x f c i=true
 last:kN (lr c.ins)=true
def hI{x:bq}{f:Nat}{c:bQ}(h:codeOk x f c=J):J1 x f c:=by
 unfold codeOk at h;simp only[Bool.and_eq_true,decide_eq_true_eq,List.all_eq_true]at h;obtain⟨⟨ah,ai,ay,aM,a⟩,_,_,b,d⟩:=h;exact⟨(by omega),aM,a,λaP=>b _ aP,d⟩
def s4{x:bq}(au:ep x){t:cS}{k:Int}(h:fh x t k≠bw):0<=k/\k.toNat<8:=by
 unfold fh m5 at h;split at h
 ·cases aA:eR x.ca t.r with
  |none=>grind
  |some l=>
   rw[aA]at h;simp only[Option.bind_some]at h;cases a:eR l k with
   |none=>grind
   |some u=>
    obtain⟨ah,ai,_⟩:=mD a;obtain⟨_,_,ay⟩:=mD aA;have:=au.aed (List.mem_of_getElem? ay);omega
 grind
def kF{x:bq}{f:Nat}{s:Int}{t:cS}(h:je x f s t=J):0<=s/\s.toNat<x.sites.length/\∃z,x.sites[s.toNat]? =A z/\z.f=f/\z.ty=t:=by
 unfold je at h;split at h
 ·rename_i z a;obtain⟨ah,ai,ay⟩:=mD a;grind
 grind
def KH{c g:bQ}:∀{l:List Int} {k j:Nat} {v:Int},lg c g l k=J->l[j]? =A v->a7 c v≠bw/\g.vars[k+j]? =A (a7 c v)
 |[],_,_,_,_,h=>by grind
 |a::l,k,0,v,h,b=>by
  grind[lg]
 |a::l,k,j+1,v,h,b=>by
  simp only[lg,Bool.and_eq_true,decide_eq_true_eq]at h;have:=KH h.2.2 (j:=j) (by simpa using b);grind
structure JZ(x:bq)(c:bQ)(i:In)(g:bQ):Prop where
 at_:0<=i.c/\x.ax[i.c.toNat]? =some g
 len:(i.args.length:Int)=g.params
 le:g.params<=g.vars.length
 arg:∀{j:Nat} {v:Int},i.args[j]? =some v->a7 c v≠bw/\g.vars[j]? =some (a7 c v)
 res:i.a= -1\/(g.has=true/\a7 c i.a≠bw/\a7 c i.a=g.res)
def Wk{x:bq}{c:bQ}{i:In}(h:mI x c i=J):∃g,JZ x c i g:=by
 unfold mI at h;split at h
 ·cases h
 ·rename_i g aR;obtain⟨ah,ai,ay⟩:=mD aR;simp only[Bool.and_eq_true,decide_eq_true_eq,Bool.or_eq_true,beq_iff_eq]at h;obtain⟨⟨d,a,a3⟩,a4,a5⟩:=h;exact⟨g,⟨ah,ay⟩,a3,a,λb=>by have:=KH a4 b;grind,a5⟩
def Ec{cs:List bQ}{f:Nat}{c:bQ}(h:cs[f]? =A c):bj cs (f+1)=bj cs f+c.vars.length:=by
 simp[bj,h]
def JH{cs:List bQ}:∀{f g:Nat},f<=g->bj cs f<=bj cs g
 |f,0,h=>by
  grind
 |f,g+1,h=>by
  rcases Nat.lt_or_eq_of_le h with ah|rfl
  ·have:=JH (cs:=cs) (Nat.le_of_lt_succ ah);grind[bj]
  omega
def si{cs:List bQ}{f:Nat}{c:bQ}(h:cs[f]? =A c){v:Nat}(a:v<c.vars.length):bj cs f+v<ga cs:=by
 have aB:=(List.getElem?_eq_some_iff.1 h).1;have ah:=Ec h;have ai:=JH (cs:=cs) (show f+1<=cs.length by omega);grind[ga]
end Go.a2
namespace Go.Proofs.YtmhhnnklfcbgfaaGreat
open Go.cv
open Nat (reduceAdd reduceLeDiff)
section
open Go.a2
set_option maxRecDepth 2000
def cj(t:cS):List af:=[D F t.b,D F t.r,D F t.d]
def c8(t:cS):af:= .agg (cj t)
def fc:e0 cS:=⟨3,λ_ _ t cs=>cs=cj t,by rintro _ _ _ _ rfl;exact⟨rfl,rfl⟩,λ_ h=>h⟩
def mv:e0 cS:=⟨4,λ_ _ t cs=>∃s,cs= X s::cj t,by rintro _ _ _ _ ⟨s,rfl⟩;exact⟨rfl,rfl⟩,λ_ h=>h⟩
def nw:e0 (List cS):=⟨2,λH ok l cs=>∃s v,cs=[X s,v]/\aI mv H ok l v,by
 rintro _ _ _ _ ⟨s,v,rfl,h⟩;exact⟨rfl,by have:=h.one;grind[af.one]⟩,by
 rintro _ _ _ _ _ _ p ⟨s,v,rfl,h⟩;exact⟨s,v,rfl,h.keep p⟩⟩
def fJ:e0 In:=⟨6,λH ok i cs=>∃v,cs=[D F i.op,D F i.a,D F i.b,D F i.c,D F i.n,v]/\aI aN H ok i.args v,by
 rintro _ _ _ _ ⟨v,rfl,h⟩;exact⟨rfl,by have:=h.one;grind[af.one]⟩,by
 rintro _ _ _ _ _ _ p ⟨v,rfl,h⟩;exact⟨v,rfl,h.keep p⟩⟩
def fO:e0 bQ:=⟨7,λH ok c cs=>∃v w,cs=[D F c.params,v,C c.has,D F c.res.b,D F c.res.r,D F c.res.d,w]/\aI fc H ok c.vars v/\aI fJ H ok c.ins w,by
 rintro _ _ _ _ ⟨v,w,rfl,h,ai⟩;exact⟨rfl,by have ay:=h.one;have aM:=ai.one;grind[af.one]⟩,by
 rintro _ _ _ _ _ _ p ⟨v,w,rfl,h,ai⟩;exact⟨v,w,rfl,h.keep p,ai.keep p⟩⟩
def nx:e0 su:=⟨4,λ_ _ z cs=>cs= D F z.f::cj z.ty,by rintro _ _ _ _ rfl;exact⟨rfl,rfl⟩,λ_ h=>h⟩
def fx:fj 22 95 2:=⟨aG,aG,⟨40,aG,b0⟩,⟨.agg [X [],.aq],aG,rfl,rfl⟩,b0⟩
def cW:fj 23 46 3:=⟨aG,aG,⟨24,aG,b0⟩,⟨.agg [D F 0,D F 0,D F 0],aG,rfl,rfl⟩,b0⟩
def cG:fj 24 49 7:=⟨aG,aG,⟨88,aG,b0⟩,⟨.agg [D F 0,.aq,C I,D F 0,D F 0,D F 0,.aq],aG,rfl,rfl⟩,b0⟩
def fV:fj 25 100 4:=⟨aG,aG,⟨32,aG,b0⟩,⟨.agg [D F 0,D F 0,D F 0,D F 0],aG,rfl,rfl⟩,b0⟩
def eJ:fj 47 89 6:=⟨aG,aG,⟨64,aG,b0⟩,⟨.agg [D F 0,D F 0,D F 0,D F 0,D F 0,.aq],aG,rfl,rfl⟩,b0⟩
def jz:fj 93 98 4:=⟨aG,aG,⟨40,aG,b0⟩,⟨.agg [X [],D F 0,D F 0,D F 0],aG,rfl,rfl⟩,b0⟩
def uQ(H:ae)(ok:Nat->Prop)(x:bq)(cs:List af):Prop:=∃a b c d,cs=[a,b,c,d,D F x.main]/\aI nw H ok x.ca a/\aI fc H ok x.globals b/\aI fO H ok x.ax c/\aI nx H ok x.sites d
def cE(H:ae)(ok:Nat->Prop)(x:bq)(v:af):Prop:=∃cs,v= .agg cs/\uQ H ok x cs
def uQ.keep{H H':ae}{ok ok':Nat->Prop}{x:bq}{cs:List af}(p:du H ok H' ok'):uQ H ok x cs->uQ H' ok' x cs:=by
 rintro⟨a,b,c,d,rfl,ah,ai,ay,aM⟩;exact⟨a,b,c,d,rfl,ah.keep p,ai.keep p,ay.keep p,aM.keep p⟩
def cE.keep{H H':ae}{ok ok':Nat->Prop}{x:bq}{v:af}(p:du H ok H' ok'):cE H ok x v->cE H' ok' x v:=λ⟨cs,e,h⟩=>⟨cs,e,h.keep p⟩
theorem cE.aC{H H':ae}{ok:Nat->Prop}{x:bq}{v:af}(h:cE H ok x v)(p:aw H H'):cE H' ok x v:=h.keep (.aC p)
def zb(H:ae)(ok:Nat->Prop)(i:In)(v:af):Prop:=∃cs,v= .agg cs/\fJ.V H ok i cs
def J0(H:ae)(ok:Nat->Prop)(c:bQ)(v:af):Prop:=∃cs,v= .agg cs/\fO.V H ok c cs
theorem jW{α:Type}{l:List α}{i:Int}(a:0<=i):eR l i=l[i.toNat]? :=if_pos a
def KO{α:Type}{l:List α}{i:Int}{a:α}:eR l i=A a↔0<=i/\l[i.toNat]? =A a:=by
 grind[eR]
theorem gz{α:Type}{l:List α}{i:Int}:eR l i=Z↔i<0\/(l.length:Int)<=i:=by
 grind[eR]
def US(a b c bY b' d:Int):js P 10000 46 (.agg [D F a,D F b,D F c]) (.agg [D F bY,D F b',D F d])=bif a==bY then(bif b==b' then(bif c==d then A J else A I)else A I)else A false:=aG
theorem Km(t u:cS):js P 10000 46 (c8 t) (c8 u)=A (decide (t=u)):=by
 refine(US t.b t.r t.d u.b u.r u.d).trans ?_;obtain⟨a,b,c⟩:=t;obtain⟨bY,b',e⟩:=u;grind[cS.mk.injEq]
def dC(t u:cS)(z:Bool):bx P .eql 46 z (c8 t) (c8 u)=A (C (decide (t=u))):=by
 have h:pH P 46 z (c8 t) (c8 u)=true:=aG;show(if pH P 46 z (c8 t) (c8 u)then(js P 10000 46 (c8 t) (c8 u)).map af.bool else Z)=_;grind[Km]
def iW(t u:cS)(z:Bool):bx P .neq 46 z (c8 t) (c8 u)=A (C (decide (t≠u))):=by
 have h:pH P 46 z (c8 t) (c8 u)=true:=aG;show(if pH P 46 z (c8 t) (c8 u)then(js P 10000 46 (c8 t) (c8 u)).map (λb=>af.bool (!b))else Z)=_;grind[Km]
end
section
set_option maxRecDepth 100000
set_option maxHeartbeats 4000000
noncomputable section
def mf(G:ao)(N:Nat):eP 1 Tryz.f24 G N (·.ad.ad.ad.ad.ad.ad.ad) (a8 Tryz.f24) []:=⟨_,v1 an⟩
def n0(G:ao)(N:Nat)(L4:T2):gT 1 11 Tryz.f24 G N (·.ad.ad.ad.ad.ad.ad.aj.ad.aj.aj.ad.ad) (bd L4 1 11) [(8,(a6 (mf G N) 1))]:=⟨_,v2 an⟩
def qn(G:ao)(N:Nat)(L4:T2):ew 1 11 12 Tryz.f24 G N (·.ad.ad.ad.ad.ad.ad.aj.ad.aj.aj.ad.aj.aj.ad.ad) (bd (n0 G N L4) 1 11) [(9,(bd (n0 G N L4) 1 11)),(8,(a6 (mf G N) 1))]:=⟨_,v3 an⟩
def Cm(G:ao)(N:Nat)(L4:T2)(a:ck):dO 1 11 12 13 Tryz.f24 G N (·.ad.ad.ad.ad.ad.ad.aj.ad.aj.aj.ad.aj.aj.ad.aj.ad.aj.aj) (bO a 1 11 12 13) [(10,(bo (qn G N L4) 1 11 12)),(9,(bd (n0 G N L4) 1 11)),(8,(a6 (mf G N) 1))]:=⟨_,v4 an⟩
def xn(G:ao)(N:Nat)(L4:T2):Nat->ck
 |0=>fB
 |n+1=>Cm G N L4 (xn G N L4 n)
def ue(G:ao)(N:Nat)(L4:T2):gT 1 11 Tryz.f24 G N (·.ad.ad.ad.ad.ad.ad.aj.ad.aj.aj) (bd L4 1 11) [(8,(a6 (mf G N) 1))]:=⟨_,v2 (ak (ak ((n0 G N L4).2) (bh (ak (ak ((qn G N L4).2) (ak (bh (bH (λm=>(Cm G N L4 (xn G N L4 m)).2))) an)) an))) an)⟩
def rV(G:ao)(N:Nat):Nat->T2
 |0=>ns
 |n+1=>ue G N (rV G N n)
def ug(G:ao)(N:Nat):eP 1 Tryz.f24 G N (·.ad.ad.ad.ad.ad.ad) (a8 Tryz.f24) []:=⟨_,v1 (ak ((mf G N).2) (ak (bh (bH (λm=>(ue G N (rV G N m)).2))) an))⟩
def na(G:ao)(N:Nat)(L8:b8):ew 1 8 9 Tryz.f24 G N (·.ad.ad.ad.ad.ad.aj.ad.aj.aj) (bo L8 1 8 9) [(6,(a6 (ug G N) 1))]:=⟨λx1 x8 x9 H=>aU (bP P 27 x1 2) λau=>aU (aJ P H 24 au) λav=>eU P .len [24] [av] H λax=>aU (bx P .lss 3 I x9 ax) λaA=>eB (A aA) (aU (bP P 27 x1 2) λaC=>aU (aJ P H 24 aC) λaD=>aU (ct P 24 aD x9) λaE=>aU (aJ P H 49 aE) λaF=>fA H [D F 0,af.aq,C I,D F 0,D F 0,D F 0,af.aq] λx10 ah=>gG ah (cz P ah 49 x10 aF) λai=>aU (bP P 49 x10 4) λaG=>aU (aJ P ai 47 aG) λaH=>eU P .len [47] [aH] ai λaI=>aU (bx P .add 3 I x8 aI) λz=>aU (bP P 49 x10 1) λaK=>aU (aJ P ai 23 aK) λaL=>eU P .len [23] [aL] ai λaN=>aU (bx P .gtr 3 J aN (D F 4000)) λh=>b1 h I ai (cn (bP P 49 x10 0)) λaO ay=>b1 h I ay (qr (aJ P ay 3 aO)) λaP aM=>b1 h I aM (cn (bx P .lss 3 J aP (D F 0))) λaQ am=>aU (dA h (A (C J)) (A aQ)) λi=>b1 i I am (cn (bP P 49 x10 0)) λaR x=>b1 i I x (qr (aJ P x 3 aR)) λaS ap=>b1 i I ap (cn (bx P .gtr 3 J aS (D F 6))) λaT ar=>aU (dA i (A (C J)) (A aT)) λa=>b1 a I ar (cn (bP P 49 x10 0)) λaV y=>b1 a I y (qr (aJ P y 3 aV)) λaW K=>b1 a I K (cn (bP P 49 x10 1)) λaX m=>b1 a I m (qr (aJ P m 23 aX)) λB n=>b1 a I n (λq=>iZ (bD P .empty .len [23] [B]) (bD P n .len [23] [B]) q) λaZ L=>b1 a I L (cn (bx P .gtr 3 I aW aZ)) λa0 o=>aU (dA a (A (C J)) (A a0)) λb=>b1 b I o (qr (aJ P o 27 x1)) λa1 M=>b1 b I M (cn (bP P 49 x10 1)) λa2 p=>b1 b I p (qr (aJ P p 23 a2)) λa3 j=>b1 b I j (λq=>eh j (G 48 [a1,a3] j) q) λa4 O=>b1 b I O (cn (jX .not a4)) λa5 Q=>aU (dA b (A (C J)) (A a5)) λe=>b1 e I Q (cn (bP P 49 x10 4)) λa7 r=>b1 e I r (qr (aJ P r 47 a7)) λE s=>b1 e I s (λq=>iZ (bD P .empty .len [47] [E]) (bD P s .len [47] [E]) q) λa8 R=>b1 e I R (cn (bx P .lss 3 J a8 (D F 1))) λa9 S=>aU (dA e (A (C J)) (A a9)) λl=>b1 l I S (qv z) λa_ T=>b1 l I T (cn (bx P .gtr 3 J a_ (D F 2500))) λba g=>aU (dA l (A (C J)) (A ba)) λbb=>eB (A bb) (A ((C I),g)) (aU (bP P 49 x10 2) λbc=>aU (aJ P g 4 bc) λc=>b1 c J g (qr (aJ P g 27 x1)) λbd U=>b1 c J U (cn (bP P 49 x10 3)) λbe t=>b1 c J t (qr (aJ P t 46 be)) λbf k=>b1 c J k (λq=>eh k (G 49 [bd,bf] k) q) λbg V=>b1 c J V (cn (jX .not bg)) λbh W=>aU (dA c (A bh) (A (C I))) λd=>b1 d I W (cn (bP P 49 x10 2)) λbi u=>b1 d I u (qr (aJ P u 4 bi)) λbj Y=>b1 d I Y (cn (jX .not bj)) λbk aa=>b1 d I aa (qv bk) λf ab=>b1 f J ab (cn (bP P 49 x10 3)) λbl v=>b1 f J v (qr (aJ P v 46 bl)) λbm ae=>b1 f J ae (qv (.agg [D F 0,D F 0,D F 0])) λbn ak=>b1 f J ak (cn (bx P .neq 46 I bm bn)) λbp al=>b1 d I al (cn (dA f (A bp) (A (C I)))) λbq w=>aU (dA d (A (C J)) (A bq)) λbr=>eB (A br) (A ((C I),w)) (aU (bx P .add 3 J x9 (D F 1)) λaB=>L8 x1 z aB w))) (ug G N x1 H),cR an⟩
def rW(G:ao)(N:Nat):Nat->b8
 |0=>gQ
 |n+1=>na G N (rW G N n)
def xm(G:ao)(N:Nat):eP 1 Tryz.f24 G N (·.ad.ad.ad.ad) (a8 Tryz.f24) []:=⟨_,v1 (ak (ak ((ug G N).2) (ak (bh (bH (λm=>(na G N (rW G N m)).2))) an)) an)⟩
def qm(G:ao)(N:Nat)(L9:T2):gT 1 6 Tryz.f24 G N (·.ad.ad.ad.aj.ad.aj.aj) (bd L9 1 6) [(4,(a6 (xm G N) 1))]:=⟨_,v2 an⟩
def o4(G:ao)(N:Nat):Nat->T2
 |0=>ns
 |n+1=>qm G N (o4 G N n)
def rT(G:ao)(N:Nat):eP 1 Tryz.f24 G N (·.ad.ad.ad) (a8 Tryz.f24) []:=⟨_,v1 (ak ((xm G N).2) (ak (bh (bH (λm=>(qm G N (o4 G N m)).2))) an))⟩
def uf(G:ao)(N:Nat)(L10:T2):gT 1 3 Tryz.f24 G N (·.ad.ad.aj.ad.aj.aj.ad.ad) (bd L10 1 3) [(0,(a6 (rT G N) 1))]:=⟨_,v2 an⟩
def ud(G:ao)(N:Nat)(L10:T2)(a:ck):dO 1 3 4 5 Tryz.f24 G N (·.ad.ad.aj.ad.aj.aj.ad.aj.aj.ad.ad.ad.aj.aj) (bO a 1 3 4 5) [(2,(bd (uf G N L10) 1 3)),(1,(bd (uf G N L10) 1 3)),(0,(a6 (rT G N) 1))]:=⟨_,v4 an⟩
def rU(G:ao)(N:Nat)(L10:T2):Nat->ck
 |0=>fB
 |n+1=>ud G N L10 (rU G N L10 n)
def rS(G:ao)(N:Nat)(L10:T2):gT 1 3 Tryz.f24 G N (·.ad.ad.aj.ad.aj.aj) (bd L10 1 3) [(0,(a6 (rT G N) 1))]:=⟨_,v2 (ak (ak ((uf G N L10).2) (bh (ak (ak (ak (bh (bH (λm=>(ud G N L10 (rU G N L10 m)).2))) an) an) an))) an)⟩
def qo(G:ao)(N:Nat):Nat->T2
 |0=>ns
 |n+1=>rS G N (qo G N n)
def o3(G:ao)(N:Nat):f_ Tryz.f24 G N:=⟨_,t1 (ak (ak (ak ((rT G N).2) (ak (bh (bH (λm=>(rS G N (qo G N m)).2))) an)) an) an)⟩
def af2(N:Nat):=eo Tryz.func24 λG=>(o3 G N).2
def C1(G:ao)(N:Nat):hX Tryz.f48 G N (·.ad.ad) (a8 Tryz.f48) []:=⟨_,v0 an⟩
def C0(G:ao)(N:Nat)(L1:b8):ew 1 2 5 Tryz.f48 G N (·.ad.aj.ad.aj.aj) (bo L1 1 2 5) [(0,(bu (C1 G N)))]:=⟨_,v3 an⟩
def xS(G:ao)(N:Nat):Nat->b8
 |0=>gQ
 |n+1=>C0 G N (xS G N n)
def CZ(G:ao)(N:Nat):gn Tryz.f48 G N:=⟨_,t2 (ak (ak ((C1 G N).2) (ak (bh (bH (λm=>(C0 G N (xS G N m)).2))) an)) an)⟩
def agE(N:Nat):=c6 Tryz.func48 λG=>(CZ G N).2
def qu(G:ao):W0 Tryz.f49 G (·.ad.ad.ad) (a8 Tryz.f49) []:=⟨_,λN=>v0 an⟩
def C2(G:ao):oq 2 3 14 15 Tryz.f49 G (·.ad.ad.aj.ad.aj.ad) (bu (qu G)) [(0,(bu (qu G)))]:=⟨_,λN=>v4 an⟩
def xT(G:ao):eQ Tryz.f49 G:=⟨_,λN=>t2 (ak (ak (ak ((qu G).2 N) (ak (bh (ak ((C2 G).2 N) an)) an)) an) an)⟩
def agF(N:Nat):=c6 Tryz.func49 λG=>(xT G).2 N
def iX(G:ao):W0 Tryz.f51 G (·.ad.ad.ad.ad.ad.ad) (a8 Tryz.f51) []:=⟨_,λN=>v0 an⟩
def jH(G:ao):sz 3 5 8 9 317 Tryz.f51 G (·.ad.ad.ad.ad.ad.aj.ad.aj.ad.ad.ad.ad.ad.ad.ad.ad.ad.ad.ad.ad.ad.ad.ad.ad.ad.ad.ad.ad.ad.ad.ad.ad.ad.ad.ad.ad.ad.ad.ad.ad.ad.ad.ad) (bu (iX G)) [(0,(bu (iX G)))]:=⟨_,λN=>v5 an⟩
def jG(G:ao):sA 3 5 7 8 9 45 250 Tryz.f51 G (·.ad.ad.ad.ad.ad.aj.ad.aj.ad.ad.ad.ad.ad.ad.ad.ad.ad.ad.ad.ad.ad.ad.ad.ad.ad.ad.ad.ad.ad.ad.ad.ad.ad.ad.ad) (bu (iX G)) [(0,(bu (iX G)))]:=⟨λx3 x5 x7 x8 x9 x S H=>eB (A S) (eg H (G 104 [] H) λT ah=>aU (aJ P ah 46 x9) λB=>aU (bx P .eql 46 I B T) λU=>bif ((bG (aJ P H 46 x9) B&&bG (aJ P ah 46 x9) B)&&J)then(A (U,ah))else Z) (aU (bx P .eql 3 J x (D F 16)) λV=>eB (A V) (aU (bP P 89 x5 4) λW=>aU (aJ P H 3 W) λY=>aU (bx P .geq 3 J Y (D F 0)) λn=>b1 n J H (cn (bP P 89 x5 4)) λaa ah=>b1 n J ah (qr (aJ P ah 3 aa)) λab ai=>b1 n J ai (cn (bP P 49 x7 4)) λae ay=>b1 n J ay (qr (aJ P ay 47 ae)) λK aM=>b1 n J aM (λq=>iZ (bD P .empty .len [47] [K]) (bD P aM .len [47] [K]) q) λaf Q=>b1 n J Q (cn (bx P .lss 3 I ab af)) λal R=>aU (dA n (A al) (A (C I))) λam=>A (am,R)) (aU (bx P .eql 3 J x (D F 17)) λap=>eB (A ap) (eg H (G 105 [] H) λM ah=>aU (aJ P ah 46 x9) λL=>aU (bx P .eql 46 I L M) λt=>cb t J (cn (bP P 89 x5 4)) λa=>cb t J (qr (aJ P (a.heap ah) 3 a.val)) λc=>cb t J (cn (bx P .geq 3 J c.val (D F 0))) λd=>aU (dA t (A d.val) (A (C I))) λh=>cb h J (cn (bP P 89 x5 4)) λb=>cb h J (qr (aJ P (b.heap (d.heap (c.heap (a.heap ah)))) 3 b.val)) λg=>cb h J (cn (bP P 49 x7 4)) λe=>cb h J (qr (aJ P (e.heap (g.heap (b.heap (d.heap (c.heap (a.heap ah)))))) 47 e.val)) λf=>cb h J (λq=>iZ (bD P .empty .len [47] [f.val]) (bD P (f.heap (e.heap (g.heap (b.heap (d.heap (c.heap (a.heap ah))))))) .len [47] [f.val]) q) λl=>cb h J (cn (bx P .lss 3 I g.val l.val)) λm=>aU (dA h (A m.val) (A (C I))) λu=>cb u J (cn (bP P 89 x5 3)) λj=>cb u J (qr (aJ P (j.heap (m.heap (l.heap (f.heap (e.heap (g.heap (b.heap (d.heap (c.heap (a.heap ah)))))))))) 3 j.val)) λo=>cb u J (cn (bx P .geq 3 J o.val (D F 0))) λp=>aU (dA u (A p.val) (A (C I))) λi=>cb i J (cn (bP P 89 x5 3)) λk=>cb i J (qr (aJ P (k.heap (p.heap (o.heap (j.heap (m.heap (l.heap (f.heap (e.heap (g.heap (b.heap (d.heap (c.heap (a.heap ah))))))))))))) 3 k.val)) λv=>cb i J (cn (bP P 49 x7 4)) λr=>cb i J (qr (aJ P (r.heap (v.heap (k.heap (p.heap (o.heap (j.heap (m.heap (l.heap (f.heap (e.heap (g.heap (b.heap (d.heap (c.heap (a.heap ah))))))))))))))) 47 r.val)) λs=>cb i J (λq=>iZ (bD P .empty .len [47] [s.val]) (bD P (s.heap (r.heap (v.heap (k.heap (p.heap (o.heap (j.heap (m.heap (l.heap (f.heap (e.heap (g.heap (b.heap (d.heap (c.heap (a.heap ah)))))))))))))))) .len [47] [s.val]) q) λy=>cb i J (cn (bx P .lss 3 I v.val y.val)) λz=>aU (dA i (A z.val) (A (C I))) λE=>bif jv [0,0,3,7,15,31,63,127,255,511,1023,511,2559,6655,16383,32767,65535,131071,262143,524287,1048575,2097151,4194303,8388607,4194303,20971519,54525951,134217727,268435455,536870911] [1,2,3,4,5,6,7,8,9,10,11,12,13,14,15,16,17,18,19,20,21,22,23,24,25,26,27,28,29] [⟨1,.cV M ah,λH=>Z⟩,⟨0,.read L,λH=>aJ P H 46 x9⟩,⟨2,.pure t,λH=>Z⟩,⟨3,.pure t,λH=>Z⟩,⟨4,a,λH=>Z⟩,⟨5,c,λH=>aJ P H 3 a.val⟩,⟨6,d,λH=>Z⟩,⟨7,.pure h,λH=>Z⟩,⟨8,.pure h,λH=>Z⟩,⟨9,b,λH=>Z⟩,⟨10,g,λH=>aJ P H 3 b.val⟩,⟨11,e,λH=>Z⟩,⟨12,f,λH=>aJ P H 47 e.val⟩,⟨13,l,λH=>bD P H .len [47] [f.val]⟩,⟨14,m,λH=>Z⟩,⟨15,.pure u,λH=>Z⟩,⟨16,.pure u,λH=>Z⟩,⟨17,j,λH=>Z⟩,⟨18,o,λH=>aJ P H 3 j.val⟩,⟨19,p,λH=>Z⟩,⟨20,.pure i,λH=>Z⟩,⟨21,.pure i,λH=>Z⟩,⟨22,k,λH=>Z⟩,⟨23,v,λH=>aJ P H 3 k.val⟩,⟨24,r,λH=>Z⟩,⟨25,s,λH=>aJ P H 47 r.val⟩,⟨26,y,λH=>bD P H .len [47] [s.val]⟩,⟨27,z,λH=>Z⟩,⟨28,.pure E,λH=>Z⟩,⟨29,.pure E,λH=>Z⟩] H then(A (E,(z.heap (y.heap (s.heap (r.heap (v.heap (k.heap (p.heap (o.heap (j.heap (m.heap (l.heap (f.heap (e.heap (g.heap (b.heap (d.heap (c.heap (a.heap ah))))))))))))))))))))else Z) (aU (bx P .eql 3 J x (D F 18)) λar=>eB (A ar) (aU (bP P 49 x7 2) λau=>aU (aJ P H 4 au) λav=>aU (jX .not av) λax=>eB (A ax) (aU (bP P 89 x5 1) λaA=>aU (aJ P H 3 aA) λaB=>aU (bx P .eql 3 J aB (D F (-1))) λaC=>A (aC,H)) (aU (aJ P H 46 x9) λaD=>aU (aJ P H 46 x8) λaE=>aU (bx P .neq 46 I aD aE) λw=>b1 w J H (qr (aJ P H 46 x9)) λaF ah=>b1 w J ah (cn (bP P 49 x7 3)) λaG ai=>b1 w J ai (qr (aJ P ai 46 aG)) λaH ay=>b1 w J ay (cn (bx P .eql 46 I aF aH)) λaI aM=>aU (dA w (A aI) (A (C I))) λaK=>A (aK,aM))) (aU (bx P .eql 3 J x (D F 19)) λO=>eB (A O) (jH G x3 x5 x8 x9 O H) (aU (bx P .eql 3 J x (D F 20)) λaL=>jH G x3 x5 x8 x9 aL H))))),λN=>cR (c9 an (ak (c9 an (ak (c9 an (ak (c9 an (ak ((jH G).2 N) an)) an)) an)) an))⟩
def Sl(G:ao):jS Tryz.f51 G:=⟨λbz x1 x2 H=>fp H (fl (H).next bz) λx3 ah=>fp ah (fl (ah).next x2) λx5 ai=>aU (bx P .lss 3 J x1 (D F 0)) λM=>b1 M I ai (qv x1) λx15 ay=>b1 M I ay (cn (bP P 27 x3 2)) λx16 aM=>b1 M I aM (qr (aJ P aM 24 x16)) λx17 a3=>b1 M I a3 (λq=>iZ (bD P .empty .len [24] [x17]) (bD P a3 .len [24] [x17]) q) λbH bv=>b1 M I bv (cn (bx P .geq 3 I x15 bH)) λbI a4=>aU (dA M (A (C J)) (A bI)) λab=>b1 ab I a4 (qr (aJ P a4 89 x5)) λbV av=>b1 ab I av (λq=>eh av (G 102 [bV] av) q) λb4 bw=>b1 ab I bw (cn (jX .not b4)) λb5 Y=>aU (dA ab (A (C J)) (A b5)) λx25=>eB (A x25) (A ((C I),Y)) (aU (bP P 27 x3 2) λx26=>aU (aJ P Y 24 x26) λcc=>aU (ct P 24 cc x1) λcd=>aU (aJ P Y 49 cd) λce=>fA Y [D F 0,af.aq,C I,D F 0,D F 0,D F 0,af.aq] λx7 aS=>gG aS (cz P aS 49 x7 ce) λbn=>fA bn [D F 0,D F 0,D F 0] λx8 aT=>gG aT (cz P aT 46 x8 (.agg [D F 0,D F 0,D F 0])) λo=>aU (aJ P o 49 x7) λbg=>aU (bP P 89 x5 1) λbi=>aU (aJ P o 3 bi) λbj=>eg o (G 103 [bg,bj] o) λcf x=>aU (aJ P x 49 x7) λaL=>aU (bP P 89 x5 2) λaN=>aU (aJ P x 3 aN) λaO=>eg x (G 103 [aL,aO] x) λcg E=>aU (aJ P E 49 x7) λaj=>aU (bP P 89 x5 3) λal=>aU (aJ P E 3 al) λam=>eg E (G 103 [aj,am] E) λch bo=>fA bo [D F 0,D F 0,D F 0] λx9 bp=>fA bp [D F 0,D F 0,D F 0] λx10 bq=>fA bq [D F 0,D F 0,D F 0] λx11 aV=>gG aV (cz P aV 46 x9 cf) λaW=>gG aW (cz P aW 46 x10 cg) λaX=>gG aX (cz P aX 46 x11 ch) λa=>bif ((bG (aJ P o 49 x7) bg&&J)&&((bG (aJ P o 3 bi) bj&&J)&&((bG (aJ P o 49 x7) aL&&(bG (aJ P x 49 x7) aL&&J))&&((bG (aJ P o 3 aN) aO&&(bG (aJ P x 3 aN) aO&&J))&&((bG (aJ P o 49 x7) aj&&(bG (aJ P x 49 x7) aj&&(bG (aJ P E 49 x7) aj&&J)))&&((bG (aJ P o 3 al) am&&(bG (aJ P x 3 al) am&&(bG (aJ P E 3 al) am&&J)))&&J))))))then(aU (bP P 89 x5 0) λci=>aU (aJ P a 3 ci) λm=>aU (bx P .eql 3 J m (D F 1)) λcj=>eB (A cj) (eg a (G 104 [] a) λbl j=>aU (aJ P j 46 x9) λbk=>aU (bx P .eql 46 I bk bl) λx50=>cb x50 I (λq=>eh j (G 105 [] j) q) λb=>cb x50 I (qr (aJ P (b.heap j) 46 x9)) λd=>cb x50 I (cn (bx P .eql 46 I d.val b.val)) λc=>cb x50 I (qv c.val) λe=>cb e.val J (cn (bP P 89 x5 4)) λf=>cb e.val J (qr (aJ P (f.heap (e.heap (c.heap (d.heap (b.heap j))))) 3 f.val)) λg=>cb e.val J (cn (bx P .eql 3 J g.val (D F 0))) λh=>cb e.val J (qv h.val) λi=>cb i.val I (cn (bP P 89 x5 4)) λk=>cb i.val I (qr (aJ P (k.heap (i.heap (h.heap (g.heap (f.heap (e.heap (c.heap (d.heap (b.heap j))))))))) 3 k.val)) λl=>cb i.val I (cn (bx P .eql 3 J l.val (D F 1))) λn=>cb e.val J (cn (dA i.val (A (C J)) (A n.val))) λp=>cb x50 I (cn (dA e.val (A p.val) (A (C I)))) λr=>aU (dA x50 (A (C J)) (A r.val)) λaP=>bif jv [0,0,3,7,15,15,63,127,255,511,1023,2047,4095,8191,16383,32767,65535,131071,262143] [1,2,3,5,6,7,8,9,10,11,12,13,14,15,16,17,18] [⟨1,.cV bl j,λH=>Z⟩,⟨0,.read bk,λH=>aJ P H 46 x9⟩,⟨2,.pure x50,λH=>Z⟩,⟨3,.pure x50,λH=>Z⟩,⟨5,b,λH=>Z⟩,⟨4,d,λH=>aJ P H 46 x9⟩,⟨6,c,λH=>Z⟩,⟨7,e,λH=>Z⟩,⟨8,f,λH=>Z⟩,⟨9,g,λH=>aJ P H 3 f.val⟩,⟨10,h,λH=>Z⟩,⟨11,i,λH=>Z⟩,⟨12,k,λH=>Z⟩,⟨13,l,λH=>aJ P H 3 k.val⟩,⟨14,n,λH=>Z⟩,⟨15,p,λH=>Z⟩,⟨16,r,λH=>Z⟩,⟨17,.pure aP,λH=>Z⟩,⟨18,.pure aP,λH=>Z⟩] a then(A (aP,(r.heap (p.heap (n.heap (l.heap (k.heap (i.heap (h.heap (g.heap (f.heap (e.heap (c.heap (d.heap (b.heap j)))))))))))))))else Z) (aU (bx P .eql 3 J m (D F 2)) λck=>eB (A ck) (aU (aJ P a 46 x9) λcl=>aU (aJ P a 46 x8) λcm=>aU (bx P .neq 46 I cl cm) λaQ=>b1 aQ J a (qr (aJ P a 46 x9)) λco j=>b1 aQ J j (λq=>eh j (G 50 [co] j) q) λcp W=>aU (dA aQ (A cp) (A (C I))) λcq=>A (cq,W)) (aU (bx P .eql 3 J m (D F 3)) λcr=>eB (A cr) (aU (aJ P a 46 x9) λcs=>aU (aJ P a 46 x8) λcu=>aU (bx P .neq 46 I cs cu) λap=>b1 ap J a (qr (aJ P a 46 x9)) λcw j=>b1 ap J j (qr (aJ P j 46 x10)) λcx W=>b1 ap J W (cn (bx P .eql 46 I cw cx)) λcy ar=>aU (dA ap (A cy) (A (C I))) λcA=>A (cA,ar)) (aU (bx P .eql 3 J m (D F 4)) λcB=>eB (A cB) (aU (bP P 89 x5 4) λx87=>aU (aJ P a 3 x87) λx88=>aU (aJ P a 46 x9) λx89=>aU (aJ P a 46 x10) λcC=>aU (aJ P a 46 x11) λcD=>eg a (G 106 [x88,x89,cC,cD] a) λcE j=>A (cE,j)) (aU (bx P .eql 3 J m (D F 5)) λcF=>eB (A cF) (aU (bP P 89 x5 4) λaR=>aU (aJ P a 3 aR) λbm=>aU (bx P .eql 3 J bm (D F 12)) λV=>cb V J (λq=>eh a (G 104 [] a) q) λb=>cb V J (qr (aJ P (b.heap a) 46 x9)) λd=>cb V J (cn (bx P .eql 46 I d.val b.val)) λc=>aU (dA V (A c.val) (A (C I))) λL=>cb L J (λq=>eh (c.heap (d.heap (b.heap a))) (G 104 [] (c.heap (d.heap (b.heap a)))) q) λe=>cb L J (qr (aJ P (e.heap (c.heap (d.heap (b.heap a)))) 46 x10)) λf=>cb L J (cn (bx P .eql 46 I f.val e.val)) λg=>aU (dA L (A g.val) (A (C I))) λs=>cb s I (cn (bP P 89 x5 4)) λh=>cb s I (qr (aJ P (h.heap (g.heap (f.heap (e.heap (c.heap (d.heap (b.heap a))))))) 3 h.val)) λi=>cb s I (cn (bx P .eql 3 J i.val (D F 13))) λk=>cb s I (qv k.val) λl=>cb l.val J (λq=>eh (l.heap (k.heap (i.heap (h.heap (g.heap (f.heap (e.heap (c.heap (d.heap (b.heap a)))))))))) (G 105 [] (l.heap (k.heap (i.heap (h.heap (g.heap (f.heap (e.heap (c.heap (d.heap (b.heap a))))))))))) q) λn=>cb l.val J (qr (aJ P (n.heap (l.heap (k.heap (i.heap (h.heap (g.heap (f.heap (e.heap (c.heap (d.heap (b.heap a))))))))))) 46 x9)) λp=>cb l.val J (cn (bx P .eql 46 I p.val n.val)) λr=>cb s I (cn (dA l.val (A r.val) (A (C I)))) λK=>cb s I (qv K.val) λv=>cb v.val J (λq=>eh (v.heap (K.heap (r.heap (p.heap (n.heap (l.heap (k.heap (i.heap (h.heap (g.heap (f.heap (e.heap (c.heap (d.heap (b.heap a))))))))))))))) (G 105 [] (v.heap (K.heap (r.heap (p.heap (n.heap (l.heap (k.heap (i.heap (h.heap (g.heap (f.heap (e.heap (c.heap (d.heap (b.heap a)))))))))))))))) q) λaa=>cb v.val J (qr (aJ P (aa.heap (v.heap (K.heap (r.heap (p.heap (n.heap (l.heap (k.heap (i.heap (h.heap (g.heap (f.heap (e.heap (c.heap (d.heap (b.heap a)))))))))))))))) 46 x10)) λax=>cb v.val J (cn (bx P .eql 46 I ax.val aa.val)) λaA=>cb s I (cn (dA v.val (A aA.val) (A (C I)))) λaB=>aU (dA s (A (C J)) (A aB.val)) λaC=>bif jv [0,1,3,7,15,15,63,127,255,511,511,2047,4095,8191,16383,32767,65535,131071,262143,262143,1048575,2097151,4194303,8388607,8388607,33554431,67108863,134217727,268435455] [0,1,2,3,5,6,7,8,10,11,12,13,14,15,16,17,19,20,21,22,24,25,26,27,28] [⟨0,.pure aR,λH=>Z⟩,⟨1,.read bm,λH=>aJ P H 3 aR⟩,⟨2,.pure V,λH=>Z⟩,⟨3,.pure V,λH=>Z⟩,⟨5,b,λH=>Z⟩,⟨4,d,λH=>aJ P H 46 x9⟩,⟨6,c,λH=>Z⟩,⟨7,.pure L,λH=>Z⟩,⟨8,.pure L,λH=>Z⟩,⟨10,e,λH=>Z⟩,⟨9,f,λH=>aJ P H 46 x10⟩,⟨11,g,λH=>Z⟩,⟨12,.pure s,λH=>Z⟩,⟨13,.pure s,λH=>Z⟩,⟨14,h,λH=>Z⟩,⟨15,i,λH=>aJ P H 3 h.val⟩,⟨16,k,λH=>Z⟩,⟨17,l,λH=>Z⟩,⟨19,n,λH=>Z⟩,⟨18,p,λH=>aJ P H 46 x9⟩,⟨20,r,λH=>Z⟩,⟨21,K,λH=>Z⟩,⟨22,v,λH=>Z⟩,⟨24,aa,λH=>Z⟩,⟨23,ax,λH=>aJ P H 46 x10⟩,⟨25,aA,λH=>Z⟩,⟨26,aB,λH=>Z⟩,⟨27,.pure aC,λH=>Z⟩,⟨28,.pure aC,λH=>Z⟩] a then(A (aC,(aB.heap (aA.heap (ax.heap (aa.heap (v.heap (K.heap (r.heap (p.heap (n.heap (l.heap (k.heap (i.heap (h.heap (g.heap (f.heap (e.heap (c.heap (d.heap (b.heap a)))))))))))))))))))))else Z) (aU (bx P .eql 3 J m (D F 6)) λbA=>eB (A bA) (aU (aJ P a 46 x9) λa5=>aU (aJ P a 46 x8) λa6=>aU (bx P .neq 46 I a5 a6) λt=>cb t J (qr (aJ P a 27 x3)) λb=>cb t J (qr (aJ P (b.heap a) 46 x10)) λd=>cb t J (cn (bP P 89 x5 3)) λc=>cb t J (qr (aJ P (c.heap (d.heap (b.heap a))) 3 c.val)) λe=>cb t J (λq=>eh (e.heap (c.heap (d.heap (b.heap a)))) (G 107 [b.val,d.val,e.val] (e.heap (c.heap (d.heap (b.heap a))))) q) λf=>cb t J (qr (aJ P (f.heap (e.heap (c.heap (d.heap (b.heap a))))) 46 x9)) λg=>cb t J (cn (bx P .eql 46 I g.val f.val)) λh=>aU (dA t (A h.val) (A (C I))) λaD=>bif jv [0,0,3,7,15,15,15,15,143,495,1023,2047,4095] [0,1,2,3,5,6,7,8,9,10,11,12] [⟨0,.read a5,λH=>aJ P H 46 x9⟩,⟨1,.read a6,λH=>aJ P H 46 x8⟩,⟨2,.pure t,λH=>Z⟩,⟨3,.pure t,λH=>Z⟩,⟨5,b,λH=>aJ P H 27 x3⟩,⟨6,d,λH=>aJ P H 46 x10⟩,⟨7,c,λH=>Z⟩,⟨8,e,λH=>aJ P H 3 c.val⟩,⟨9,f,λH=>Z⟩,⟨4,g,λH=>aJ P H 46 x9⟩,⟨10,h,λH=>Z⟩,⟨11,.pure aD,λH=>Z⟩,⟨12,.pure aD,λH=>Z⟩] a then(A (aD,(h.heap (g.heap (f.heap (e.heap (c.heap (d.heap (b.heap a)))))))))else Z) (aU (bx P .eql 3 J m (D F 7)) λbC=>eB (A bC) (aU (aJ P a 46 x10) λa7=>aU (aJ P a 46 x8) λa8=>aU (bx P .neq 46 I a7 a8) λu=>cb u J (qr (aJ P a 27 x3)) λb=>cb u J (qr (aJ P (b.heap a) 46 x9)) λd=>cb u J (cn (bP P 89 x5 3)) λc=>cb u J (qr (aJ P (c.heap (d.heap (b.heap a))) 3 c.val)) λe=>cb u J (λq=>eh (e.heap (c.heap (d.heap (b.heap a)))) (G 107 [b.val,d.val,e.val] (e.heap (c.heap (d.heap (b.heap a))))) q) λf=>cb u J (qr (aJ P (f.heap (e.heap (c.heap (d.heap (b.heap a))))) 46 x10)) λg=>cb u J (cn (bx P .eql 46 I g.val f.val)) λh=>aU (dA u (A h.val) (A (C I))) λaE=>bif jv [0,0,3,7,15,15,15,15,143,495,1023,2047,4095] [0,1,2,3,5,6,7,8,9,10,11,12] [⟨0,.read a7,λH=>aJ P H 46 x10⟩,⟨1,.read a8,λH=>aJ P H 46 x8⟩,⟨2,.pure u,λH=>Z⟩,⟨3,.pure u,λH=>Z⟩,⟨5,b,λH=>aJ P H 27 x3⟩,⟨6,d,λH=>aJ P H 46 x9⟩,⟨7,c,λH=>Z⟩,⟨8,e,λH=>aJ P H 3 c.val⟩,⟨9,f,λH=>Z⟩,⟨4,g,λH=>aJ P H 46 x10⟩,⟨10,h,λH=>Z⟩,⟨11,.pure aE,λH=>Z⟩,⟨12,.pure aE,λH=>Z⟩] a then(A (aE,(h.heap (g.heap (f.heap (e.heap (c.heap (d.heap (b.heap a)))))))))else Z) (aU (bx P .eql 3 J m (D F 8)) λbE=>eB (A bE) (aU (aJ P a 46 x9) λa9=>aU (aJ P a 46 x8) λa_=>aU (bx P .neq 46 I a9 a_) λO=>cb O J (cn (bP P 46 x10 2)) λb=>cb O J (qr (aJ P (b.heap a) 3 b.val)) λd=>cb O J (cn (bx P .gtr 3 J d.val (D F 0))) λc=>aU (dA O (A c.val) (A (C I))) λQ=>cb Q J (λq=>eh (c.heap (d.heap (b.heap a))) (G 104 [] (c.heap (d.heap (b.heap a)))) q) λe=>cb Q J (qr (aJ P (e.heap (c.heap (d.heap (b.heap a)))) 46 x11)) λf=>cb Q J (cn (bx P .eql 46 I f.val e.val)) λg=>aU (dA Q (A g.val) (A (C I))) λy=>cb y J (qr (aJ P (g.heap (f.heap (e.heap (c.heap (d.heap (b.heap a)))))) 46 x10)) λh=>cb y J (λq=>eh (h.heap (g.heap (f.heap (e.heap (c.heap (d.heap (b.heap a))))))) (G 108 [h.val] (h.heap (g.heap (f.heap (e.heap (c.heap (d.heap (b.heap a)))))))) q) λi=>cb y J (qr (aJ P (i.heap (h.heap (g.heap (f.heap (e.heap (c.heap (d.heap (b.heap a)))))))) 46 x9)) λk=>cb y J (cn (bx P .eql 46 I k.val i.val)) λl=>aU (dA y (A l.val) (A (C I))) λaF=>bif jv [0,0,3,7,15,31,63,127,255,511,511,2047,4095,8191,16383,16383,49151,131071,262143,524287] [0,1,2,3,4,5,6,7,8,10,11,12,13,15,16,17,18,19] [⟨0,.read a9,λH=>aJ P H 46 x9⟩,⟨1,.read a_,λH=>aJ P H 46 x8⟩,⟨2,.pure O,λH=>Z⟩,⟨3,.pure O,λH=>Z⟩,⟨4,b,λH=>Z⟩,⟨5,d,λH=>aJ P H 3 b.val⟩,⟨6,c,λH=>Z⟩,⟨7,.pure Q,λH=>Z⟩,⟨8,.pure Q,λH=>Z⟩,⟨10,e,λH=>Z⟩,⟨9,f,λH=>aJ P H 46 x11⟩,⟨11,g,λH=>Z⟩,⟨12,.pure y,λH=>Z⟩,⟨13,.pure y,λH=>Z⟩,⟨15,h,λH=>aJ P H 46 x10⟩,⟨16,i,λH=>Z⟩,⟨14,k,λH=>aJ P H 46 x9⟩,⟨17,l,λH=>Z⟩,⟨18,.pure aF,λH=>Z⟩,⟨19,.pure aF,λH=>Z⟩] a then(A (aF,(l.heap (k.heap (i.heap (h.heap (g.heap (f.heap (e.heap (c.heap (d.heap (b.heap a))))))))))))else Z) (aU (bx P .eql 3 J m (D F 9)) λbF=>eB (A bF) (aU (aJ P a 46 x11) λba=>aU (aJ P a 46 x8) λbb=>aU (bx P .neq 46 I ba bb) λR=>cb R J (cn (bP P 46 x9 2)) λb=>cb R J (qr (aJ P (b.heap a) 3 b.val)) λd=>cb R J (cn (bx P .gtr 3 J d.val (D F 0))) λc=>aU (dA R (A c.val) (A (C I))) λS=>cb S J (λq=>eh (c.heap (d.heap (b.heap a))) (G 104 [] (c.heap (d.heap (b.heap a)))) q) λe=>cb S J (qr (aJ P (e.heap (c.heap (d.heap (b.heap a)))) 46 x10)) λf=>cb S J (cn (bx P .eql 46 I f.val e.val)) λg=>aU (dA S (A g.val) (A (C I))) λz=>cb z J (qr (aJ P (g.heap (f.heap (e.heap (c.heap (d.heap (b.heap a)))))) 46 x9)) λh=>cb z J (λq=>eh (h.heap (g.heap (f.heap (e.heap (c.heap (d.heap (b.heap a))))))) (G 108 [h.val] (h.heap (g.heap (f.heap (e.heap (c.heap (d.heap (b.heap a)))))))) q) λi=>cb z J (qr (aJ P (i.heap (h.heap (g.heap (f.heap (e.heap (c.heap (d.heap (b.heap a)))))))) 46 x11)) λk=>cb z J (cn (bx P .eql 46 I k.val i.val)) λl=>aU (dA z (A l.val) (A (C I))) λaG=>bif jv [0,0,3,7,15,31,63,127,255,511,511,2047,4095,8191,16383,16383,49151,131071,262143,524287] [0,1,2,3,4,5,6,7,8,10,11,12,13,15,16,17,18,19] [⟨0,.read ba,λH=>aJ P H 46 x11⟩,⟨1,.read bb,λH=>aJ P H 46 x8⟩,⟨2,.pure R,λH=>Z⟩,⟨3,.pure R,λH=>Z⟩,⟨4,b,λH=>Z⟩,⟨5,d,λH=>aJ P H 3 b.val⟩,⟨6,c,λH=>Z⟩,⟨7,.pure S,λH=>Z⟩,⟨8,.pure S,λH=>Z⟩,⟨10,e,λH=>Z⟩,⟨9,f,λH=>aJ P H 46 x10⟩,⟨11,g,λH=>Z⟩,⟨12,.pure z,λH=>Z⟩,⟨13,.pure z,λH=>Z⟩,⟨15,h,λH=>aJ P H 46 x9⟩,⟨16,i,λH=>Z⟩,⟨14,k,λH=>aJ P H 46 x11⟩,⟨17,l,λH=>Z⟩,⟨18,.pure aG,λH=>Z⟩,⟨19,.pure aG,λH=>Z⟩] a then(A (aG,(l.heap (k.heap (i.heap (h.heap (g.heap (f.heap (e.heap (c.heap (d.heap (b.heap a))))))))))))else Z) (aU (bx P .eql 3 J m (D F 10)) λbJ=>eB (A bJ) (eg a (G 104 [] a) λbd j=>aU (aJ P j 46 x9) λbc=>aU (bx P .eql 46 I bc bd) λT=>cb T J (cn (bP P 46 x10 2)) λb=>cb T J (qr (aJ P (b.heap j) 3 b.val)) λd=>cb T J (cn (bx P .gtr 3 J d.val (D F 0))) λc=>aU (dA T (A c.val) (A (C I))) λaH=>bif jv [0,0,3,7,15,31,63,127,255] [1,2,3,4,5,6,7,8] [⟨1,.cV bd j,λH=>Z⟩,⟨0,.read bc,λH=>aJ P H 46 x9⟩,⟨2,.pure T,λH=>Z⟩,⟨3,.pure T,λH=>Z⟩,⟨4,b,λH=>Z⟩,⟨5,d,λH=>aJ P H 3 b.val⟩,⟨6,c,λH=>Z⟩,⟨7,.pure aH,λH=>Z⟩,⟨8,.pure aH,λH=>Z⟩] a then(A (aH,(c.heap (d.heap (b.heap j)))))else Z) (aU (bx P .eql 3 J m (D F 11)) λbK=>eB (A bK) (aU (aJ P a 46 x9) λbL=>aU (aJ P a 46 x8) λbM=>aU (bx P .neq 46 I bL bM) λad=>b1 ad J a (cn (bP P 46 x9 0)) λbN j=>b1 ad J j (qr (aJ P j 3 bN)) λbO W=>b1 ad J W (cn (bx P .eql 3 J bO (D F 3))) λbQ ar=>aU (dA ad (A bQ) (A (C I))) λae=>b1 ae J ar (cn (bP P 46 x9 2)) λbR aZ=>b1 ae J aZ (qr (aJ P aZ 3 bR)) λbS br=>b1 ae J br (cn (bx P .eql 3 J bS (D F 0))) λbT a0=>aU (dA ae (A bT) (A (C I))) λB=>b1 B J a0 (qr (aJ P a0 27 x3)) λbU bs=>b1 B J bs (qv x1) λbW bt=>b1 B J bt (cn (bP P 89 x5 4)) λbX a1=>b1 B J a1 (qr (aJ P a1 3 bX)) λbY a2=>b1 B J a2 (qr (aJ P a2 46 x9)) λbZ au=>b1 B J au (λq=>eh au (G 109 [bU,bW,bY,bZ] au) q) λb0 bu=>aU (dA B (A b0) (A (C I))) λb2=>A (b2,bu)) (aU (bx P .eql 3 J m (D F 12)) λb3=>eB (A b3) (aU (bP P 46 x9 2) λaI=>aU (aJ P a 3 aI) λbe=>aU (bx P .gtr 3 J be (D F 0)) λU=>cb U J (λq=>eh a (G 104 [] a) q) λb=>cb U J (qr (aJ P (b.heap a) 46 x10)) λd=>cb U J (cn (bx P .eql 46 I d.val b.val)) λc=>aU (dA U (A c.val) (A (C I))) λw=>cb w J (qr (aJ P (c.heap (d.heap (b.heap a))) 27 x3)) λe=>cb w J (qv x1) λf=>cb w J (cn (bP P 89 x5 4)) λg=>cb w J (qr (aJ P (g.heap (f.heap (e.heap (c.heap (d.heap (b.heap a)))))) 3 g.val)) λh=>cb w J (qr (aJ P (h.heap (g.heap (f.heap (e.heap (c.heap (d.heap (b.heap a))))))) 46 x9)) λi=>cb w J (λq=>eh (i.heap (h.heap (g.heap (f.heap (e.heap (c.heap (d.heap (b.heap a)))))))) (G 109 [e.val,f.val,h.val,i.val] (i.heap (h.heap (g.heap (f.heap (e.heap (c.heap (d.heap (b.heap a))))))))) q) λk=>aU (dA w (A k.val) (A (C I))) λaK=>bif jv [0,1,3,7,15,15,63,127,255,511,511,511,2559,511,16383,32767,65535] [0,1,2,3,5,6,7,8,9,10,11,12,13,14,15,16] [⟨0,.pure aI,λH=>Z⟩,⟨1,.read be,λH=>aJ P H 3 aI⟩,⟨2,.pure U,λH=>Z⟩,⟨3,.pure U,λH=>Z⟩,⟨5,b,λH=>Z⟩,⟨4,d,λH=>aJ P H 46 x10⟩,⟨6,c,λH=>Z⟩,⟨7,.pure w,λH=>Z⟩,⟨8,.pure w,λH=>Z⟩,⟨9,e,λH=>aJ P H 27 x3⟩,⟨10,f,λH=>Z⟩,⟨11,g,λH=>Z⟩,⟨12,h,λH=>aJ P H 3 g.val⟩,⟨13,i,λH=>aJ P H 46 x9⟩,⟨14,k,λH=>Z⟩,⟨15,.pure aK,λH=>Z⟩,⟨16,.pure aK,λH=>Z⟩] a then(A (aK,(k.heap (i.heap (h.heap (g.heap (f.heap (e.heap (c.heap (d.heap (b.heap a)))))))))))else Z) (aU (bx P .eql 3 J m (D F 13)) λb6=>eB (A b6) (aU (aJ P a 27 x3) λb7=>aU (aJ P a 49 x7) λb8=>aU (aJ P a 89 x5) λb9=>eg a (G 110 [b7,b8,b9] a) λb_ j=>A (b_,j)) (aU (bx P .eql 3 J m (D F 14)) λbf=>eB (A bf) (jG G x3 x5 x7 x8 x9 m bf a) (aU (bx P .eql 3 J m (D F 15)) λca=>jG G x3 x5 x7 x8 x9 m ca a)))))))))))))))else Z),λN=>N_ (ak (ak (ak (ak (ak (ak ((iX G).2 N) (ak (bh (ak (c9 an (ak (c9 an (ak (c9 an (ak (c9 an (ak (c9 an (ak (c9 an (ak (c9 an (ak (c9 an (ak (c9 an (ak (c9 an (ak (c9 an (ak (c9 an (ak (c9 an (ak ((jG G).2 N) an)) an)) an)) an)) an)) an)) an)) an)) an)) an)) an)) an)) an)) an)) an)) an) an) an) an) an)⟩
def agH(N:Nat):=hp Tryz.func51 λG=>(Sl G).2 N
def m9(G:ao):sz 1 3 4 5 6 Tryz.f102 G (·.ad.ad.ad) (a8 Tryz.f102) []:=⟨_,λN=>v5 an⟩
def A9(G:ao):sA 1 3 4 5 6 8 22 Tryz.f102 G (·.ad.ad.aj.ad.aj.ad.ad.ad.ad.ad.ad.ad.ad.ad) (b3 (m9 G) 1 3 4 5 6) [(0,(b3 (m9 G) 1 3 4 5 6))]:=⟨_,λN=>hf an⟩
def A8(G:ao):sA 1 3 4 5 6 8 19 Tryz.f102 G (·.ad.ad.aj.ad.aj.ad.ad.ad.ad.ad.ad.ad) (b3 (m9 G) 1 3 4 5 6) [(0,(b3 (m9 G) 1 3 4 5 6))]:=⟨_,λN=>hf (c9 an (ak ((A9 G).2 N) an))⟩
def A7(G:ao):sA 1 3 4 5 6 8 14 Tryz.f102 G (·.ad.ad.aj.ad.aj.ad.ad.ad) (b3 (m9 G) 1 3 4 5 6) [(0,(b3 (m9 G) 1 3 4 5 6))]:=⟨_,λN=>hf (c9 an (ak (c9 an (ak ((A8 G).2 N) an)) an))⟩
def A6(G:ao):sA 1 3 4 5 6 8 9 Tryz.f102 G (·.ad.ad.aj.ad.aj.ad) (b3 (m9 G) 1 3 4 5 6) [(0,(b3 (m9 G) 1 3 4 5 6))]:=⟨_,λN=>hf (c9 an (ak ((A7 G).2 N) an))⟩
def v_(G:ao):hr Tryz.f102 G:=⟨_,λN=>t1 (ak (ak (ak ((m9 G).2 N) (ak (bh (ak ((A6 G).2 N) an)) an)) an) an)⟩
def aeP(N:Nat):=eo Tryz.func102 λG=>(v_ G).2 N
def A_(G:ao):eQ Tryz.f103 G:=⟨_,λN=>t2 an⟩
def aeQ(N:Nat):=c6 Tryz.func103 λG=>(A_ G).2 N
def RA(G:ao):uT Tryz.f104 G:=⟨_,λN=>t0 an⟩
def aeR(N:Nat):=G2 Tryz.func104 λG=>(RA G).2 N
def RB(G:ao):uT Tryz.f105 G:=⟨_,λN=>t0 an⟩
def aeS(N:Nat):=G2 Tryz.func105 λG=>(RB G).2 N
def nV(G:ao):W0 Tryz.f106 G (·.ad.ad) (a8 Tryz.f106) []:=⟨_,λN=>v0 an⟩
def Ba(G:ao):oq 5 6 7 61 Tryz.f106 G (·.ad.aj.ad.aj.ad.ad.ad.ad.ad.ad.ad) (bu (nV G)) [(0,(bu (nV G)))]:=⟨_,λN=>l6 an (x:=trivial)⟩
def tC(G:ao):sz 5 6 7 9 45 Tryz.f106 G (·.ad.aj.ad.aj.ad.ad.ad.ad.ad) (bu (nV G)) [(0,(bu (nV G)))]:=⟨_,λN=>nF (c9 an (ak ((Ba G).2 N) an)) (x:=trivial)⟩
def qe(G:ao):sz 5 6 7 9 29 Tryz.f106 G (·.ad.aj.ad.aj.ad.ad.ad) (bu (nV G)) [(0,(bu (nV G)))]:=⟨_,λN=>nF (c9 an (ak ((tC G).2 N) an)) (x:=trivial)⟩
def nW(G:ao):sz 5 6 7 9 10 Tryz.f106 G (·.ad.aj.ad.aj.ad) (bu (nV G)) [(0,(bu (nV G)))]:=⟨_,λN=>nF (c9 an (ak ((qe G).2 N) an)) (x:=trivial)⟩
def RC(G:ao):sC Tryz.f106 G:=⟨_,λN=>t4 (ak (ak ((nV G).2 N) (ak (bh (ak ((nW G).2 N) an)) an)) an)⟩
def aeT(N:Nat):=oW Tryz.func106 λG=>(RC G).2 N
def qf(G:ao):jS Tryz.f107 G:=⟨_,λN=>t3 an⟩
def aeU(N:Nat):=hp Tryz.func107 λG=>(qf G).2 N
def RD(G:ao):hr Tryz.f108 G:=⟨_,λN=>t1 an⟩
def aeV(N:Nat):=eo Tryz.func108 λG=>(RD G).2 N
def wa(G:ao):sC Tryz.f109 G:=⟨_,λN=>t4 an⟩
def aeW(N:Nat):=oW Tryz.func109 λG=>(wa G).2 N
def wb(G:ao)(N:Nat):ew 4 5 7 Tryz.f110 G N (·.ad.ad.ad.ad.ad) (a8 Tryz.f110) []:=⟨_,oE an⟩
def tD(G:ao)(N:Nat)(L1:ck):dO 4 5 7 8 Tryz.f110 G N (·.ad.ad.ad.ad.aj.ad.aj.aj) (bO L1 4 5 7 8) [(0,(bo (wb G N) 4 5 7))]:=⟨_,l6 an⟩
def rI(G:ao)(N:Nat):Nat->ck
 |0=>fB
 |n+1=>tD G N (rI G N n)
def m_(G:ao)(N:Nat):nA Tryz.f110 G N:=⟨_,t3 (ak (ak (ak (ak (ak ((wb G N).2) (ak (bh (bH (λm=>(tD G N (rI G N m)).2))) an)) an) an) an) an)⟩
def aeX(N:Nat):=hp Tryz.func110 λG=>(m_ G N).2
def Sk(G:ao):hr Tryz.f50 G:=⟨_,λN=>t1 an⟩
def agG(N:Nat):=eo Tryz.func50 λG=>(Sk G).2 N
end
end
section
open Go.a2
set_option maxRecDepth 2000
section
variable {H:ae}{ok:Nat->Prop}
def kk(t:cS)(l:Nat):fl l (c8 t)=A (.ptr l 0 0,.row I 3 [cj t]):=mH l _ rfl
def k2:W (aK P aD 104 [] H) λr H'=>r=c8 di/\aw H H':=by
 refine aeR 0 ?_;refine qC @RA.eq_1 ?_;exact aE.2 ⟨rfl,(aw.refl _).eO _⟩
def pb:W (aK P aD 105 [] H) λr H'=>r=c8 eG/\aw H H':=by
 refine aeS 0 ?_;refine qC @RB.eq_1 ?_;exact aE.2 ⟨rfl,(aw.refl _).eO _⟩
def GU(t:cS):W (aK P aD 50 [c8 t] H) λr H'=>r= C (kZ t)/\aw H H':=by
 refine agG 0 ?_;refine o7 @Sk.eq_1 @kk @cj.eq_1 ?_;cases a:(t.b==3)with
 |true=>
  refine nh ?_;exact aE.2 ⟨by simp[kZ,a],(aw.refl _).eO _⟩
 |false=>
  refine nh ?_;exact aE.2 ⟨by simp[kZ,a],(aw.refl _).eO _⟩
def OD(t:cS)(a:0<t.d)(ah:t.d<=1000):W (aK P aD 108 [c8 t] H) λr H'=>r=c8 (less t)/\aw H H':=by
 refine aeV 0 ?_;refine yW @RD.eq_1 @kk @cj.eq_1 (wrap_i64 (show 0<=t.d-1 by omega) aa) ?_;exact aE.2 ⟨rfl,((aw.refl _).eO _).eO _⟩
theorem dQ{x:bq}{a b c d:af}(ah:aI nw H ok x.ca a)(ai:aI fc H ok x.globals b)(ay:aI fO H ok x.ax c)(aM:aI nx H ok x.sites d)(m:Int)(l:Nat):fl l (.agg [a,b,c,d,D F m])=A (.ptr l 0 0,.row I 5 [[a,b,c,d,D F m]]):=
 mH l _ (by have e:=ah.one;have f:=ai.one;have g:=ay.one;have h:=aM.one;simp[e,f,g,h];rfl)
def E2{c:bQ}{v w:af}(ah:aI fc H ok c.vars v)(ai:aI fJ H ok c.ins w)(p b r d:Int)(z:Bool)(l:Nat):fl l (.agg [D F p,v,C z,D F b,D F r,D F d,w])=A (.ptr l 0 0,.row I 7 [[D F p,v,C z,D F b,D F r,D F d,w]]):=
 mH l _ (by have a:=ah.one;have e:=ai.one;simp[a,e];exact⟨rfl,rfl,rfl,rfl,rfl⟩)
theorem Ax{x:bq}{v:af}(aF:cE H ok x v)(t:cS):W (aK P aD 49 [v,c8 t] H) λr H'=>r= C (eK x.ca.length t)/\aw H H':=by
 obtain⟨_,rfl,a,b,c,d,rfl,ah,ai,ay,aM⟩:=aF;refine agF 0 ?_;have k:aw H ((H.push (.row I 5 [[a,b,c,d,D F x.main]])).push (.row I 3 [[D F t.b,D F t.r,D F t.d]])):=((aw.refl _).eO _).eO _;simp-implicitDefEqProofs(disch:=try exact aY)only[qu,xT,kk,cj,dQ ah ai ay aM,reduceAdd,reduceLeDiff,reduceIte,e3];unfold eK;by_cases e:t.d<0
 ·refine qC e ?_;grind[aE]
 ·by_cases f:3<t.d
  ·refine Jr e f ?_;grind[aE]
  ·refine Jr e f ?_;have g:decide (0<=t.d/\t.d<=3)=true:=al;rw[g];cases h:(t.b==1)with
   |true=>
    refine o7 @qu.eq_1 @C2.eq_1 @xT.eq_1 ?_;grind[aE]
   |false=>
    refine nh ?_;cases i:(t.b==2)with
    |true=>
     refine o7 @qu.eq_1 @C2.eq_1 @xT.eq_1 ?_;grind[aE]
    |false=>
     refine o7 @qu.eq_1 @C2.eq_1 @xT.eq_1 ?_;cases j:(t.b==3)with
     |true=>
      by_cases au:0<=t.r
      ·refine ahs au @decide_true (ah.bf fx) ?_;grind[aE]
      ·refine Jl au @decide_false ?_;grind[aE]
     |false=>
      refine qC @qu.eq_1 ?_;grind[aE]
theorem TO{x:bq}{l:List cS}{v:af}{cs:List af}{L:Nat}(f:l.length<=1000000000){N:Nat}:∀(j k m:Nat) (H:ae),k+j=l.length->j<m->aI fc H ok l v->H.get L=A (.row I 5 [cs])->uQ H ok x cs->W (xS (aK P aD) N m v (.ptr L 0 0) (D F k) H) λr H'=>r= C ((l.drop k).all (eK x.ca.length))/\aw H H'
 |_,_,0,_,_,hm,_,_,_=>aa
 |0,k,m+1,H,g,_,ar,aR,aF=>by
  have y:¬(k:Int)<(l.length:Int):=aa;refine yX @C1.eq_1 @C0.eq_1 @xS.eq_2 @CZ.eq_1 (ar.bf cW) ?_;grind[aE,aw.refl]
 |j+1,k,m+1,H,g,hm,ar,aR,aF=>by
  have h:k<l.length:=aa;obtain⟨p,w,q,s,rfl⟩:=ar.agg (K:=fc) cW uG (j:=(k:Int)) (a:=l[k]) aa al;have t:aJ P H 27 (.ptr L 0 0)=A (.agg cs):=by
   obtain⟨a,b,c,d,rfl,_⟩:=aF;exact hA (n:=5) (i:=0) (c:=0) aG aG aR rfl b0
  refine bb @C1.eq_1 @C0.eq_1 @xS.eq_2 @CZ.eq_1 @eU.eq_1 (ag (ar.bf cW) (ag q (ag s t))) ?_;refine bz (Ax ⟨cs,rfl,aF⟩ l[k]) λH' e=> ?_
  rw[List.drop_eq_getElem_cons h,List.all_cons];cases z:eK x.ca.length l[k]with
  |false=>
   refine bM ?_;grind[aE]
  |true=>
   refine bM ?_;refine(TO f j (k+1) m H' aa aa (ar.aC e) (e.get aR) (aF.keep (.aC e))).mono ?_;rintro r u ⟨rfl,o⟩;exact⟨aW,e.trans o⟩
theorem TP{x:bq}{l:List cS}{v w:af}(aF:cE H ok x v)(ar:aI fc H ok l w)(f:l.length<=1000000000):W (aK P aD 48 [v,w] H) λr H'=>r= C (l.all (eK x.ca.length))/\aw H H':=by
 obtain⟨cs,rfl,aF⟩:=aF;refine agE (l.length+1) ?_;have g:∀n,fl n (.agg cs)=A (.ptr n 0 0,.row I 5 [cs]):=λn=>by
  obtain⟨a,b,c,d,rfl,ah,ai,ay,aM⟩:=aF;grind[dQ]
 refine bF @CZ.eq_1 g ?_;have e:=aw.push H (.row I 5 [cs]);refine(TO f l.length 0 (l.length+1) _ aa aa (ar.aC e) (ae.a1 _ _) (aF.keep (.aC e))).mono ?_;rintro r i ⟨rfl,h⟩;exact⟨aW,e.trans h⟩
end
end
section
open Go.a2
set_option maxRecDepth 2000
section
variable {H:ae}{ok:Nat->Prop}
def D1{H:ae}{t u:cS}{L:Nat}(h:H.get L=A (.row I 3 [cj t])):cz P H 46 (.ptr L 0 0) (c8 u)=A (H.set L (.row I 3 [cj u])):=by
 rw[fb (n:=3) aG h rfl rfl rfl b0];rfl
theorem vG{c:bQ}{v:af}(aA:J0 H ok c v)(i:Int)(t:c.vars.length<=1000000000):W (aK P aD 103 [v,D F i] H) λr H'=>r=c8 (a7 c i)/\aw H H':=by
 obtain⟨_,rfl,p,w,rfl,ah,ai⟩:=aA;refine aeQ 0 ?_;have h:=E2 ah ai c.params c.res.b c.res.r c.res.d c.has;have l:=((aw.refl H).eO (.row I 7 [[D F c.params,p,C c.has,D F c.res.b,D F c.res.r,D F c.res.d,w]])).eO (.row I 3 [cj bw]);by_cases f:i<0
 ·refine o7 @A_.eq_1 h f ?_;refine aE.2 ⟨?_,l⟩;rw[a7,gz.2 (.inl f)];rfl
 ·by_cases ar:(c.vars.length:Int)<=i
  ·refine yX @A_.eq_1 h f ar (ah.bf cW) ?_;refine aE.2 ⟨?_,l⟩;rw[a7,gz.2 (.inr ar)];rfl
  ·have n:i.toNat<c.vars.length:=aa;obtain⟨L,k,ro,els,q,o,_,g,e,rfl⟩:=ah.at_ (K:=fc) cW (j:=i) (a:=c.vars[i.toNat]) aa al;have s:=ae.bm g;have m:H.get L=A (.row ro 3 els):=g;rw[cj]at e;refine gE @A_.eq_1 h f ar (ah.bf cW) (ag o (ag m e)) ?_;refine aE.2 ⟨?_,((aw.refl H).eO _).eO _⟩;rw[a7,jW aa,List.getElem?_eq_getElem n];rfl
theorem MG{x:bq}{v:af}(aF:cE H ok x v)(t:cS)(k:Int):W (aK P aD 107 [v,c8 t,D F k] H) λr H'=>r=c8 (fh x t k)/\aw H H':=by
 obtain⟨_,rfl,a,b,c,d,rfl,ah,ai,ay,aM⟩:=aF;refine aeU 0 ?_;have l:=dQ ah ai ay aM x.main;have i:=kk t;rw[cj]at i;have p:=(((aw.refl H).eO (.row I 5 [[a,b,c,d,D F x.main]])).eO (.row I 3 [[D F t.b,D F t.r,D F t.d]])).eO (.row I 3 [cj bw]);have aL:∀(o:Option cS),o=Z->(o.getD bw)=bw:=λo h=>al
 cases ab:(t.b==3)with
 |false=>
  have f:(t.b != 3)=true:=al;refine yW @qf.eq_1 l i f ?_;refine aE.2 ⟨?_,p⟩;have:¬t.b=3:=al;rw[fh,m5,if_neg aa];rfl
 |true=>
  have f:(t.b != 3)=false:=al;cases ad:(t.d==0)with
  |false=>
   have m:(t.d != 0)=true:=al;refine yX @qf.eq_1 l i f m ?_;refine aE.2 ⟨?_,p⟩;have:¬t.d=0:=al;rw[fh,m5,if_neg aa];rfl
  |true=>
   have m:(t.d != 0)=false:=al;have u:m5 x t=eR x.ca t.r:=by grind[m5]
   by_cases q:t.r<0
   ·refine gE @qf.eq_1 l i f m q ?_;refine aE.2 ⟨?_,p⟩;rw[fh,u,gz.2 (.inl q)];rfl
   ·by_cases w:(x.ca.length:Int)<=t.r
    ·refine gE @qf.eq_1 l i f m (ag q (ag w (ah.bf fx))) ?_;refine aE.2 ⟨?_,p⟩;rw[fh,u,gz.2 (.inr w)];rfl
    ·have ak:t.r.toNat<x.ca.length:=aa;have z:eR x.ca t.r=A x.ca[t.r.toNat]:=by grind[jW]
     obtain⟨L,n,ro,els,T,M,_,g,e,s,fv,rfl,aB⟩:=ah.at_ (K:=nw) fx (j:=t.r) (a:=x.ca[t.r.toNat]) aa al;have V:=ae.bm g;have E:H.get L=A (.row ro 2 els):=g;by_cases y:k<0
     ·refine gE @qf.eq_1 l i f m (ag q (ag w (ag (ah.bf fx) y))) ?_;refine aE.2 ⟨?_,p⟩;rw[fh,u,z,Option.bind_some,gz.2 (.inl y)];rfl
     ·by_cases bS:(x.ca[t.r.toNat].length:Int)<=k
      ·refine gE @qf.eq_1 l i f m (ag q (ag w (ag (ah.bf fx) (ag y (ag bS (ag M (ag E (ag e (aB.bf jz))))))))) ?_;refine aE.2 ⟨?_,p⟩;rw[fh,u,z,Option.bind_some,gz.2 (.inr bS)];rfl
      ·have Q:k.toNat<x.ca[t.r.toNat].length:=aa;obtain⟨L',aj,S,N,U,R,_,G,B,s2,rfl⟩:=aB.at_ (K:=mv) jz (j:=k) (a:=x.ca[t.r.toNat][k.toNat]) aa al;have Y:=ae.bm G;have O:H.get L'=A (.row S 4 N):=G;rw[cj]at B;refine gE @qf.eq_1 l i f m (ag q (ag w (ag (ah.bf fx) (ag y (ag bS (ag M (ag E (ag e (ag (aB.bf jz) (ag R (ag O B))))))))))) ?_;refine aE.2 ⟨?_,(((aw.refl H).eO _).eO _).eO _⟩;rw[fh,u,z,Option.bind_some,jW aa,List.getElem?_eq_getElem Q];rfl
end
end
section
open Go.a2
set_option maxRecDepth 2000
section
variable {H:ae}{ok:Nat->Prop}
theorem Ks{x:bq}{v:af}(aF:cE H ok x v)(f:Nat)(s:Int)(t:cS):W (aK P aD 109 [v,D F f,D F s,c8 t] H) λr H'=>r= C (je x f s t)/\aw H H':=by
 obtain⟨_,rfl,a,b,c,d,rfl,ah,ai,ay,aM⟩:=aF;refine aeW 0 ?_;have i:=dQ ah ai ay aM x.main;have h:=kk t;rw[cj]at h;have w:=(((aw.refl H).eO (.row I 5 [[a,b,c,d,D F x.main]])).eO (.row I 3 [[D F t.b,D F t.r,D F t.d]]));by_cases k:0<=s
 ·by_cases l:s<(x.sites.length:Int)
  ·have u:s.toNat<x.sites.length:=aa;have y:eR x.sites s=A x.sites[s.toNat]:=by grind[jW]
   obtain⟨L,n,ro,els,p,o,_,g,e,rfl⟩:=aM.at_ (K:=nx) fV (j:=s) (a:=x.sites[s.toNat]) aa al;have q:=ae.bm g;have m:H.get L=A (.row ro 4 els):=g;rw[cj]at e;have he:∀z,bx P .eql 46 z (.agg [D F x.sites[s.toNat].ty.b,D F x.sites[s.toNat].ty.r,D F x.sites[s.toNat].ty.d]) (.agg [D F t.b,D F t.r,D F t.d])=A (C (decide (x.sites[s.toNat].ty=t))):=dC _ t;cases aB:(x.sites[s.toNat].f==(f:Int))with
   |true=>
    refine gE @wa.eq_1 i h k l (ag (aM.bf fV) (ag o (ag m (ag e (ag aB he))))) ?_;grind[aE,je]
   |false=>
    refine gE @wa.eq_1 i h k l (ag (aM.bf fV) (ag o (ag m (ag e aB)))) ?_;grind[aE,je]
  ·refine gE @wa.eq_1 i h k l (aM.bf fV) ?_;grind[aE,je,gz]
 ·refine yW @wa.eq_1 i h k ?_;grind[aE,je,gz]
def zB{i:In}{v:af}(h:aI aN H ok i.args v)(a b c d e:Int)(l:Nat):fl l (.agg [D F a,D F b,D F c,D F d,D F e,v])=A (.ptr l 0 0,.row I 6 [[D F a,D F b,D F c,D F d,D F e,v]]):=
 mH l _ (by have f:=h.one;simp[f];exact⟨rfl,rfl,rfl,rfl,rfl⟩)
def Up(i:In)(b c n g:Bool):Bool:=(b||i.b==0)&&((c||i.c==0)&&((n||i.n==0)&&(g||i.args.length==0)))
theorem D8(a b:Bool):a=J\/(a=I/\b=J)\/(a=I/\b=I):=al
theorem acX{i:In}{v:af}{L:Nat}(d:aI aN H ok i.args v)(g:H.get L=A (.row I 6 [[D F i.op,D F i.a,D F i.b,D F i.c,D F i.n,v]]))(b c n a:Bool):
  m9 (aK P aD) (.ptr L 0 0) (C b) (C c) (C n) (C a) H=A (C (Up i b c n a),H):=by
 have ar:(i.args.length==0)=((i.args.length:Int)==0):=by
  grind
 have e:=λH0=>d.len bV (H0:=H0)
 unfold Up;rw[ar];clear ar d;rcases D8 b (i.b==0)with rfl|⟨rfl,ah⟩|⟨rfl,ah⟩<;>rcases D8 c (i.c==0)with rfl|⟨rfl,ai⟩|⟨rfl,ai⟩<;>rcases D8 n (i.n==0)with rfl|⟨rfl,ay⟩|⟨rfl,ay⟩<;>rcases D8 a ((i.args.length:Int)==0)with rfl|⟨rfl,aM⟩|⟨rfl,aM⟩<;>
  simp-implicitDefEqProofs(disch:=try exact aY)only[m9,v_,reduceAdd,reduceLeDiff,reduceIte,e3, *]<;>rfl
theorem acY{i:In}{v:af}(aP:zb H ok i v):W (aK P aD 102 [v] H) λr H'=>r= C (named i)/\aw H H':=by
 obtain⟨_,rfl,w,rfl,e⟩:=aP;refine aeP 0 ?_;have d:=zB e;have h:=aw.push H (.row I 6 [[D F i.op,D F i.a,D F i.b,D F i.c,D F i.n,w]]);have f:=λb c n a=>acX (e.aC h) (ae.a1 H (.row I 6 [[D F i.op,D F i.a,D F i.b,D F i.c,D F i.n,w]])) b c n a
 have g:=λH0=>e.len bV (H0:=H0)
 have fin:∀{a b:Bool},a=b->W (A (af.bool a,H.push (.row I 6 [[D F i.op,D F i.a,D F i.b,D F i.c,D F i.n,w]]))) λr H'=>r= C b/\aw H H':=(by grind[aE])
 unfold named;simp only[];split
 case h_16 heq=>
  have t:∀j:Int,(i.op==j)=((16:Int)==j):=λj=>al
  have ar:(i.args.length==0)=((i.args.length:Int)==0):=by
   grind
  rw[ar];rcases Bool.eq_false_or_eq_true (i.a==0)with ah|ah<;>rcases Bool.eq_false_or_eq_true (i.b==0)with ai|ai<;>rcases Bool.eq_false_or_eq_true (i.c==0)with ay|ay<;>rcases Bool.eq_false_or_eq_true ((i.args.length:Int)==0)with aM|aM<;>
   simp-implicitDefEqProofs(disch:=try exact aY)only[A9,A8,A7,A6,v_,reduceAdd,reduceLeDiff,reduceIte,e3,d,g,t,Int.reduceBEq,ah,ai,ay,aM]<;>exact fin rfl
 case h_17 x1 x2 x3 x4 x5 x6 x7 x8 x9 x10 x11 x12 k l x15 x16=>
  have m:(i.op==1)=false:=beq_eq_false_iff_ne.2 x1;have z:(i.op==11)=false:=beq_eq_false_iff_ne.2 x2;have B:(i.op==19)=false:=beq_eq_false_iff_ne.2 x3;have E:(i.op==20)=false:=beq_eq_false_iff_ne.2 x4;have G:(i.op==3)=false:=beq_eq_false_iff_ne.2 x5;have K:(i.op==10)=false:=beq_eq_false_iff_ne.2 x6;have L:(i.op==4)=false:=beq_eq_false_iff_ne.2 x7;have M:(i.op==5)=false:=beq_eq_false_iff_ne.2 x8;have N:(i.op==12)=false:=beq_eq_false_iff_ne.2 x9;have o:(i.op==6)=false:=beq_eq_false_iff_ne.2 x10;have p:(i.op==7)=false:=beq_eq_false_iff_ne.2 x11;have q:(i.op==8)=false:=beq_eq_false_iff_ne.2 x12;have s:(i.op==9)=false:=beq_eq_false_iff_ne.2 k
  have u:(i.op==13)=false:=beq_eq_false_iff_ne.2 l;have x:(i.op==17)=false:=beq_eq_false_iff_ne.2 x15;have y:(i.op==16)=false:=beq_eq_false_iff_ne.2 x16;simp-implicitDefEqProofs(disch:=try exact aY)only[A9,A8,A7,A6,v_,reduceAdd,reduceLeDiff,reduceIte,e3,d,f,m,z,B,E,G,K,L,M,N,o,p,q,s,u,x,y];exact fin rfl
 all_goals
  rename_i heq;have t:∀j:Int,(i.op==j)=(_==j):=λj=>by rw[heq]
  simp-implicitDefEqProofs(disch:=try exact aY)only[A9,A8,A7,A6,v_,reduceAdd,reduceLeDiff,reduceIte,e3,d,f,t,Int.reduceBEq];exact fin rfl
def R{H:ae}{t:cS}{L:Nat}(h:H.get L=A (.row I 3 [cj t])):aJ P H 46 (.ptr L 0 0)=A (c8 t):=
 hA (n:=3) (i:=0) (c:=0) aG aG h rfl b0
def eY(t:cS):bG (A (c8 t)) (c8 t)=true:=by simp[bG,c8,cj,af.beq,e9.beq]
theorem mq{cT:List Nat}{T:List fD}{H:ae}:∀{S:List fD},(∀H'∈ia T H,aw H H')->(∀t∈S,∀v,t.k= .read v->∀H',aw H H'->bG (t.rd H') v=J)->uI cT T H S
 |[],_,_=>trivial
 |t::ts,ah,ai=>⟨al,mq ah al⟩
theorem u4{zA B zD:Nat}{a b d:cS}(c:H.get zA=A (.row I 3 [cj a]))(e:H.get B=A (.row I 3 [cj b]))(j:H.get zD=A (.row I 3 [cj d]))(op:Int):
  W (nW (aK P aD) (.ptr zA 0 0) (.ptr B 0 0) (.ptr zD 0 0) (D F op) (C J) H) λr H'=>r= C (decide (a=di/\b=di/\d=di))/\aw H H':=by
 refine bK @nW.eq_1 ?_;refine bz k2 λah f=> ?_
 by_cases h:a=di
 ·subst h;refine bF (R (f.get c)) @dC ?_;refine cY k2 λai l=> ?_
  have g:=f.trans l;by_cases i:b=di
  ·subst i;refine bF (R (g.get e)) @dC ?_;refine cY k2 λay m=> ?_
   have k:=g.trans m;refine bF (R (k.get j)) @dC ?_;refine dy (λH' p=>(ag (R (p.get c)) (ag eY (ag (R (p.get e)) (R (p.get j)))))) (aE.2 ⟨aW,k⟩)
  ·refine bT (R (g.get e)) @dC i ?_;refine dy (λH' p=>(ag (R (p.get c)) (ag eY (R (p.get e))))) (aE.2 ⟨al,g⟩)
 ·refine bT (R (f.get c)) @dC h ?_;refine dy (λH' p=>(ag (R (p.get c)) eY)) (aE.2 ⟨al,f⟩)
theorem K4{zA B zD:Nat}{a b d:cS}(c:H.get zA=A (.row I 3 [cj a]))(e:H.get B=A (.row I 3 [cj b]))(j:H.get zD=A (.row I 3 [cj d]))(op:Int):
  W (qe (aK P aD) (.ptr zA 0 0) (.ptr B 0 0) (.ptr zD 0 0) (D F op) (C J) H) λr H'=>r= C (decide (a=eG/\b=di/\d=di))/\aw H H':=by
 refine bK @qe.eq_1 ?_;refine bz pb λah f=> ?_
 by_cases h:a=eG
 ·subst h;refine bF (R (f.get c)) @dC ?_;refine cY k2 λai l=> ?_
  have g:=f.trans l;by_cases i:b=di
  ·subst i;refine bF (R (g.get e)) @dC ?_;refine cY k2 λay m=> ?_
   have k:=g.trans m;refine bF (R (k.get j)) @dC ?_;refine dy (λH' p=>(ag (R (p.get c)) (ag eY (ag (R (p.get e)) (R (p.get j)))))) (aE.2 ⟨aW,k⟩)
  ·refine bT (R (g.get e)) @dC i ?_;refine dy (λH' p=>(ag (R (p.get c)) (ag eY (R (p.get e))))) (aE.2 ⟨al,g⟩)
 ·refine bT (R (f.get c)) @dC h ?_;refine dy (λH' p=>(ag (R (p.get c)) eY)) (aE.2 ⟨al,f⟩)
theorem K6{zA B zD:Nat}{a b d:cS}(c:H.get zA=A (.row I 3 [cj a]))(e:H.get B=A (.row I 3 [cj b]))(j:H.get zD=A (.row I 3 [cj d])):
  W (Ba (aK P aD) (.ptr zA 0 0) (.ptr B 0 0) (.ptr zD 0 0) (C J) H) λr H'=>r= C (decide (a=eG/\b=eG/\d=eG))/\aw H H':=by
 refine bK @Ba.eq_1 ?_;refine bz pb λah f=> ?_
 by_cases h:a=eG
 ·subst h;refine bF (R (f.get c)) @dC ?_;refine cY pb λai l=> ?_
  have g:=f.trans l;by_cases i:b=eG
  ·subst i;refine bF (R (g.get e)) @dC ?_;refine cY pb λay m=> ?_
   have k:=g.trans m;refine bF (R (k.get j)) @dC ?_;refine dy (λH' p=>(ag (R (p.get c)) (ag eY (ag (R (p.get e)) (R (p.get j)))))) (aE.2 ⟨aW,k⟩)
  ·refine bT (R (g.get e)) @dC i ?_;refine dy (λH' p=>(ag (R (p.get c)) (ag eY (R (p.get e))))) (aE.2 ⟨al,g⟩)
 ·refine bT (R (f.get c)) @dC h ?_;refine dy (λH' p=>(ag (R (p.get c)) eY)) (aE.2 ⟨al,f⟩)
theorem K5{zA B zD:Nat}{a b d:cS}(e:H.get zA=A (.row I 3 [cj a]))(f:H.get B=A (.row I 3 [cj b]))(g:H.get zD=A (.row I 3 [cj d]))(op:Int):
  W (tC (aK P aD) (.ptr zA 0 0) (.ptr B 0 0) (.ptr zD 0 0) (D F op) (C J) H) λr H'=>r= C (decide (a=eG/\b≠bw/\b=d))/\aw H H':=by
 refine bK @tC.eq_1 ?_;refine bz pb λah c=> ?_
 have aL:(.agg [D F 0,D F 0,D F 0]:af)=c8 bw:=rfl;by_cases h:a=eG
 ·subst h;by_cases i:b=bw
  ·subst i;refine bb EW aL (R (c.get e)) (R (c.get f)) @dC (ag @iW (ag @ne_eq.{1} @not_true_eq_false)) ?_;refine dy (λH' p=>(ag (R (p.get e)) (ag eY (ag (R (p.get f)) (R (p.get g)))))) (aE.2 ⟨aW,c⟩)
  ·refine bb EW aL (R (c.get e)) (R (c.get f)) (R (c.get g)) (ag @dC (ag @iW (ag i (ag @ne_eq.{1} @not_false_eq_true)))) ?_;refine dy (λH' p=>(ag (R (p.get e)) (ag eY (ag (R (p.get f)) (R (p.get g)))))) (aE.2 ⟨al,c⟩)
 ·refine bT (R (c.get e)) @dC h ?_;refine dy (λH' p=>(ag (R (p.get e)) (ag eY (ag (R (p.get f)) (R (p.get g)))))) (aE.2 ⟨al,c⟩)
theorem V3(n:Int)(a b d:cS):W (aK P aD 106 [D F n,c8 a,c8 b,c8 d] H) λr H'=>r= C (hs n a b d)/\aw H H':=by
 refine aeT 0 ?_;simp-implicitDefEqProofs(disch:=try exact aY)only[RC,kk,ez,c0,rb];have y:=(((aw.refl H).eO (.row I 3 [cj a])).eO (.row I 3 [cj b])).eO (.row I 3 [cj d]);have c:(((H.push (.row I 3 [cj a])).push (.row I 3 [cj b])).push (.row I 3 [cj d])).get H.next=A (.row I 3 [cj a]):=by simp[ae.j2];omega
 have f:(((H.push (.row I 3 [cj a])).push (.row I 3 [cj b])).push (.row I 3 [cj d])).get (H.next+1)=A (.row I 3 [cj b]):=by simp[ae.j2]
 have g:(((H.push (.row I 3 [cj a])).push (.row I 3 [cj b])).push (.row I 3 [cj d])).get (H.next+1+1)=A (.row I 3 [cj d]):=by simp[ae.j2]
 have m:∀{e:Bool} {r:O},W r (λv H'=>v= C e/\aw (((H.push (.row I 3 [cj a])).push (.row I 3 [cj b])).push (.row I 3 [cj d])) H')->hs n a b d=e->W r λv H'=>v= C (hs n a b d)/\aw H H':=by
  intro e r h he;refine h.mono ?_;rintro _ H' ⟨rfl,p⟩;exact⟨by rw[he],y.trans p⟩
 by_cases i:n=14
 ·subst i;simp-implicitDefEqProofs(disch:=try exact aY)only[ez,c0,Int.reduceBEq];exact m (u4 c f g _) rfl
 have z:(n==14)=false:=beq_eq_false_iff_ne.2 i;by_cases j:n=15
 ·subst j;simp-implicitDefEqProofs(disch:=try exact aY)only[ez,c0,Int.reduceBEq];exact m (u4 c f g _) rfl
 have B:(n==15)=false:=beq_eq_false_iff_ne.2 j;by_cases k:n=16
 ·subst k;simp-implicitDefEqProofs(disch:=try exact aY)only[ez,c0,Int.reduceBEq];exact m (u4 c f g _) rfl
 have E:(n==16)=false:=beq_eq_false_iff_ne.2 k;by_cases l:n=17
 ·subst l;simp-implicitDefEqProofs(disch:=try exact aY)only[ez,c0,Int.reduceBEq];exact m (u4 c f g _) rfl
 have G:(n==17)=false:=beq_eq_false_iff_ne.2 l;by_cases o:n=18
 ·subst o;simp-implicitDefEqProofs(disch:=try exact aY)only[ez,c0,Int.reduceBEq];exact m (u4 c f g _) rfl
 have K:(n==18)=false:=beq_eq_false_iff_ne.2 o;by_cases q:n=19
 ·subst q;simp-implicitDefEqProofs(disch:=try exact aY)only[ez,c0,nW,Int.reduceBEq];exact m (K4 c f g _) rfl
 have L:(n==19)=false:=beq_eq_false_iff_ne.2 q;by_cases s:n=20
 ·subst s;simp-implicitDefEqProofs(disch:=try exact aY)only[ez,c0,nW,Int.reduceBEq];exact m (K4 c f g _) rfl
 have M:(n==20)=false:=beq_eq_false_iff_ne.2 s;by_cases t:n=21
 ·subst t;simp-implicitDefEqProofs(disch:=try exact aY)only[ez,c0,nW,qe,Int.reduceBEq];exact m (K5 c f g _) rfl
 have N:(n==21)=false:=beq_eq_false_iff_ne.2 t;by_cases u:n=22
 ·subst u;simp-implicitDefEqProofs(disch:=try exact aY)only[ez,c0,nW,qe,Int.reduceBEq];exact m (K5 c f g _) rfl
 have Q:(n==22)=false:=beq_eq_false_iff_ne.2 u;by_cases w:n=23
 ·subst w;simp-implicitDefEqProofs(disch:=try exact aY)only[ez,c0,nW,qe,tC,Int.reduceBEq];exact m (K6 c f g) rfl
 have R:(n==23)=false:=beq_eq_false_iff_ne.2 w;by_cases x:n=24
 ·subst x;simp-implicitDefEqProofs(disch:=try exact aY)only[ez,c0,nW,qe,tC,Int.reduceBEq];exact m (K6 c f g) rfl
 have S:(n==24)=false:=beq_eq_false_iff_ne.2 x;refine bb @nW.eq_1 @qe.eq_1 @tC.eq_1 @Ba.eq_1 @nV.eq_1 (ag z (ag B (ag E (ag G (ag K (ag L (ag M (ag N (ag Q (ag R S)))))))))) ?_;grind[aE,hs]
