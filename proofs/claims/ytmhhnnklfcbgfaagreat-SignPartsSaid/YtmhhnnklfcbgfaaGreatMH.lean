/-
  Texts of one proof, laid together: SgC SgD SgE Na ShC Nb Nc.
-/
import Derived.Test.YtmhhnnklfcbgfaaGreatMG
set_option linter.unusedVariables false
set_option linter.unusedSimpArgs false
set_option linter.defProp false
open Option renaming some→D,none→I
open Bool renaming true→C,false→Z
open Go.bz.ae renaming int→J,str→F,bool→A
open Go.IntKind renaming i64→X
namespace Go.a2
open Go.bz
section
open Classical
noncomputable def kc(R:Nat->Nat->Prop)(m:Nat):List Nat:=cY m λs=>dC R s=s
noncomputable def gn(R:Nat->Nat->Prop)(s:Nat):Nat:=(kc R (dC R s)).length
structure cB where
 count:Nat
 of:List Nat
 nodes:List Int
 fields:List (List Int)
noncomputable def rL(R:Nat->Nat->Prop):List Nat->Int
 |[]=> -1
 |a::_=>gn R a
noncomputable def qb(p:dq)(R:Nat->Nat->Prop)(m r k:Nat):List Nat:=(cY m (R r)).flatMap λt=>p.gq t k
noncomputable def nK(p:dq)(R:Nat->Nat->Prop)(m:Nat):cB:=
 ⟨(kc R m).length,(List.range m).map (gn R),p.nodes.map (rL R),(kc R m).map λr=>(List.range 8).map λk=>rL R (qb p R m r k)⟩
noncomputable def merge(p:dq)(m:Nat):cB:=nK p (ds p) m
def Wr{m e5:Nat}{p:Nat->Prop}(h:m<=e5):cY m p <+: cY e5 p:=by
 unfold cY;obtain⟨k,rfl⟩:∃k,e5=m+k:=⟨e5-m,by omega⟩;rw[List.range_add,List.filter_append];exact List.prefix_append _ _
def nS{m:Nat}{p:Nat->Prop}:cY (m+1) p=cY m p++(if p m then[m]else[]):=by
 unfold cY;rw[List.range_succ,List.filter_append];by_cases h:p m<;>simp[h]
def JR{m s:Nat}{p:Nat->Prop}(a:s<m)(h:p s):(cY m p)[(cY s p).length]? =D s:=by
 obtain⟨t,a1⟩:=Wr (p:=p) (show s+1<=m by omega);rw[<-a1,nS,if_pos h];simp
def vb{R:Nat->Nat->Prop}(he:gi R){m s:Nat}(a:s<m):(kc R m)[gn R s]? =D (dC R s):=
 JR (by have:=(jn he s).2.1;omega) (Iy he s)
def PL{R:Nat->Nat->Prop}(he:gi R){m s:Nat}(a:s<m):gn R s<(kc R m).length:=(List.getElem?_eq_some_iff.1 (vb he a)).1
def F4{R:Nat->Nat->Prop}(he:gi R){s t:Nat}:gn R s=gn R t↔R s t:=by
 rw[<-qk he];constructor
 ·intro h;have af:=vb he (m:=s+t+1) (s:=s) (by omega);have ah:=vb he (m:=s+t+1) (s:=t) (by omega);rw[h]at af;exact Option.some.inj (af.symm.trans ah)
 ·intro h;unfold gn;rw[h]
def Ke(R:Nat->Nat->Prop)(m:Nat):(kc R m).length<=m:=by
 unfold kc cY;exact Nat.le_trans (List.length_filter_le _ _) (by simp)
noncomputable def h7(R:Nat->Nat->Prop)(m:Nat):List bB:=(List.range m).map λs=>bB.same s (dC R s)
def oZ{R:Nat->Nat->Prop}{m:Nat}{c:bB}:c∈h7 R m↔∃s,s<m/\c= .same s (dC R s):=by
 simp only[h7,List.mem_map,List.mem_range];constructor
 ·rintro⟨s,h,rfl⟩;exact⟨s,h,rfl⟩
 ·rintro⟨s,h,rfl⟩;exact⟨s,h,rfl⟩
def acS{R:Nat->Nat->Prop}(he:gi R)(n m:Nat):gE n m (h7 R m):=by
 intro c aq;obtain⟨s,h,rfl⟩:=oZ.1 aq;exact⟨h,by have:=(jn he s).2.1;omega⟩
def acT{n m:Nat}{l a:List bB}(h:gE n m l)(bY:gE n m a):gE n m (l++a):=λc aq=>(List.mem_append.1 aq).elim (h c) (bY c)
def dG.NG{n m:Nat}{l:List bB}{R S:Nat->Nat->Prop}(j:gi R)(k:gi S)(h:∀a b,R a b->S a b){v s:Nat}(p:dG n (l++h7 R m) v s):dG n (l++h7 S m) v s:=by
 have key:∀{a b:Nat},bB.same a b∈h7 R m->a<m/\b<m/\dC S a=dC S b:=by
  intro a b aq;obtain⟨s,o,e⟩:=oZ.1 aq;injection e with g i
  subst g;subst i;have:=jn j a;exact⟨o,by omega,(qk k).2 (h _ _ this.1)⟩
 have mk:∀{a},a<m->bB.same a (dC S a)∈l++h7 S m:=λc=>List.mem_append.2 (.inr (oZ.2 ⟨_,c,rfl⟩))
 refine p.least ⟨?_,?_,?_,?_,?_,?_⟩
 ·intro a b aq;rcases List.mem_append.1 aq with aq|aq
  ·exact .base (List.mem_append.2 (.inl aq))
  ·obtain⟨_,_,e⟩:=oZ.1 aq;cases e
 ·intro a b s aq;rcases List.mem_append.1 aq with aq|aq
  ·exact .copy (List.mem_append.2 (.inl aq))
  ·obtain⟨_,_,e⟩:=oZ.1 aq;cases e
 ·intro a b f t s aq;rcases List.mem_append.1 aq with aq|aq
  ·exact .load (List.mem_append.2 (.inl aq))
  ·obtain⟨_,_,e⟩:=oZ.1 aq;cases e
 ·intro a b f t s aq;rcases List.mem_append.1 aq with aq|aq
  ·exact .store (List.mem_append.2 (.inl aq))
  ·obtain⟨_,_,e⟩:=oZ.1 aq;cases e
 ·intro a b f s aq az af;rcases List.mem_append.1 aq with aq|aq
  ·exact .same (List.mem_append.2 (.inl aq)) az af
  ·obtain⟨c,d,e⟩:=key aq;have ah:=dG.same (mk c) az af;rw[e]at ah;exact .m3 (mk d) az ah
 ·intro a b f s aq az af;rcases List.mem_append.1 aq with aq|aq
  ·exact .m3 (List.mem_append.2 (.inl aq)) az af
  ·obtain⟨c,d,e⟩:=key aq;have ah:=dG.same (mk d) az af;rw[<-e]at ah;exact .m3 (mk c) az ah
def G6{n m:Nat}{R:Nat->Nat->Prop}{t k a:Nat}:a∈(hZ n m R).gq t k↔t<m/\k<8/\a<m/\R (n+t*8+k) a:=by
 unfold dq.gq hZ;simp only[List.getElem?_map];by_cases a1:t<m
 ·rw[List.getElem?_range a1];simp only[Option.map_some,Option.bind_some,List.getElem?_map];by_cases b:k<8
  ·rw[List.getElem?_range b];simp[fB,a1,b]
  ·rw[List.getElem?_eq_none (by simpa using b)];simp[b]
 ·rw[List.getElem?_eq_none (by simpa using a1)];simp[a1]
def ds.I3{n m:Nat}{R S:Nat->Nat->Prop}(h:∀v s,R v s->S v s){a b:Nat}(t:ds (hZ n m R) a b):ds (hZ n m S) a b:=by
 refine t.least ⟨.refl,.symm,.trans,?_,?_⟩
 ·intro L a b e c d;simp only[hZ,List.mem_map,List.mem_range]at e;obtain⟨v,g,rfl⟩:=e;refine .node (L:=cY m (S v)) ?_ ?_ ?_
  ·simp only[hZ,List.mem_map,List.mem_range];exact⟨v,g,rfl⟩
  ·rw[fB]at c ⊢;exact⟨c.1,h _ _ c.2⟩
  ·rw[fB]at d ⊢;exact⟨d.1,h _ _ d.2⟩
 ·intro s t k a b f c d;refine .field (s:=s) (t:=t) (k:=k) f ?_ ?_
  ·rw[G6]at c ⊢;exact⟨c.1,c.2.1,c.2.2.1,h _ _ c.2.2.2⟩
  ·rw[G6]at d ⊢;exact⟨d.1,d.2.1,d.2.2.1,h _ _ d.2.2.2⟩
noncomputable def VG(n m:Nat)(l:List bB)(R:Nat->Nat->Prop):Nat->Nat->Prop:=ds (gJ n m (l++h7 R m))
noncomputable def me(n m:Nat)(l:List bB):Nat->Nat->Nat->Prop
 |0=>ds (gJ n m l)
 |k+1=>VG n m l (me n m l k)
def sD(n m:Nat)(l:List bB):∀k,gi (me n m l k)
 |0=>(ds.cl _).eqv
 |_+1=>(ds.cl _).eqv
def Kq(n m:Nat)(l:List bB):∀k a b,me n m l k a b->me n m l (k+1) a b
 |0,a,b,h=>ds.I3 (λv s p=>p.mono λc aq=>List.mem_append.2 (.inl aq)) h
 |k+1,a,b,h=>ds.I3 (λv s p=>p.NG (sD n m l k) (sD n m l (k+1)) (Kq n m l k)) h
noncomputable def eh(n m:Nat)(l:List bB):Nat->cB
 |0=>merge (gJ n m l) m
 |k+1=>merge (gJ n m (l++h7 (me n m l k) m)) m
def u_(n m:Nat)(l:List bB)(k:Nat):(eh n m l k).of=(List.range m).map (gn (me n m l k)):=by cases k<;>rfl
def zU(n m:Nat)(l:List bB)(k:Nat):(eh n m l k).count=(kc (me n m l k) m).length:=by cases k<;>rfl
def WW{R S:Nat->Nat->Prop}(c:gi R)(d:gi S)(h:∀a b,R a b->S a b){s:Nat}(e:dC S s=s):dC R s=s:=by
 have af:=jn c s;have ah:=(jn d s).2.2 _ (h _ _ af.1);omega
def Wq{m:Nat}{p q:Nat->Prop}(h:∀s,p s->q s):(cY m p).length<=(cY m q).length:=by
 induction m with
 |zero=>simp[cY]
 |succ m b=>
  rw[nS,nS,List.length_append,List.length_append];by_cases a:p m
  ·rw[if_pos a,if_pos (h m a)];simp only[List.length_cons,List.length_nil];omega
  ·rw[if_neg a];simp only[List.length_nil];omega
def JT{m:Nat}{p q:Nat->Prop}(h:∀s,p s->q s)(e:(cY m q).length<=(cY m p).length):∀s,s<m->q s->p s:=by
 induction m with
 |zero=>intro s c;omega
 |succ m d=>
  rw[nS,nS,List.length_append,List.length_append]at e;have hle:=Wq (m:=m) h;intro s c aN;by_cases a:p m
  ·rw[if_pos a,if_pos (h m a)]at e;simp only[List.length_cons,List.length_nil]at e;rcases Nat.lt_or_eq_of_le (Nat.le_of_lt_succ c)with af|rfl
   ·exact d (by omega) s af aN
   ·exact a
  ·rw[if_neg a]at e;by_cases b:q m
   ·rw[if_pos b]at e;simp only[List.length_cons,List.length_nil]at e;omega
   ·rw[if_neg b]at e;simp only[List.length_nil]at e;rcases Nat.lt_or_eq_of_le (Nat.le_of_lt_succ c)with af|rfl
    ·exact d (by omega) s af aN
    ·exact absurd aN b
def PM{R S:Nat->Nat->Prop}{m:Nat}(h:∀a b,a<m->b<m->(R a b↔S a b))(d:gi R)(e:gi S):∀s,s<m->dC R s=dC S s:=by
 intro s c;have af:=jn d s;have ah:=jn e s;exact Nat.le_antisymm (af.2.2 _ ((h _ _ c (by omega)).2 ah.1)) (ah.2.2 _ ((h _ _ c (by omega)).1 af.1))
def ZC{R S:Nat->Nat->Prop}{m:Nat}(c:gi R)(d:gi S)(h:∀a b,R a b->S a b)(aq:(kc R m).length<=(kc S m).length):∀s,s<m->gn S s=gn R s:=by
 have f:∀s,s<m->dC R s=s->dC S s=s:=JT (λs=>WW c d h) aq;have al:∀s,s<m->dC S s=dC R s:=by
  intro s e;have af:=jn c s;have ah:dC S (dC R s)=dC R s:=f _ (by omega) (Iy c s);rw[<-ah];exact(qk d).2 (h _ _ af.1)
 intro s e;have af:=jn c s;unfold gn kc;rw[al s e]
 congr 1
 refine wj λt a1=> ?_
 rw[al t (by omega)]
def VT(n m:Nat)(l:List bB)(k:Nat)(h:(eh n m l k).count<=(eh n m l (k+1)).count):(eh n m l (k+1)).of=(eh n m l k).of:=by
 rw[zU,zU]at h;rw[u_,u_];refine List.map_congr_left λs a=> ?_
 rw[List.mem_range]at a;exact ZC (sD n m l k) (sD n m l (k+1)) (Kq n m l k) h s a
def P0(n m:Nat)(l:List bB)(k:Nat)(h:(eh n m l (k+1)).of≠(eh n m l k).of):(eh n m l (k+1)).count<(eh n m l k).count:=by
 rcases Nat.lt_or_ge (eh n m l (k+1)).count (eh n m l k).count with af|af
 ·exact af
 ·exact absurd (VT n m l k af) h
noncomputable def zT(n m:Nat)(l:List bB):cB:=
 let k:=((List.range (m+2)).find? λk=>decide ((eh n m l (k+1)).of=(eh n m l k).of)).getD 0
 eh n m l (k+1)
def LZ(n m:Nat)(l:List bB):∃k,k<m+2/\(eh n m l (k+1)).of=(eh n m l k).of/\(∀j,j<k->(eh n m l (j+1)).of≠(eh n m l j).of)/\zT n m l=eh n m l (k+1):=by
 have hex:∃k,k<m+2/\(eh n m l (k+1)).of=(eh n m l k).of:=by
  apply Classical.byContradiction;intro aH;have b:∀k,k<=m+1->(eh n m l k).count+k<=(eh n m l 0).count:=by
   intro k
   induction k with
   |zero=>intro _;omega
   |succ k d=>
    intro a;have:=P0 n m l k (λe=>aH ⟨k,by omega,e⟩);have:=d (by omega);omega
  have af:=b (m+1) (bC _);have ah:=Ke (me n m l 0) m;rw[<-zU]at ah;omega
 unfold zT;cases az:(List.range (m+2)).find? λk=>decide ((eh n m l (k+1)).of=(eh n m l k).of)with
 |none=>
  rw[List.find?_eq_none]at az;obtain⟨k,a,e⟩:=hex;exact absurd (decide_eq_true e) (az k (by simpa using a))
 |some k=>
  rw[List.find?_range_eq_some]at az;obtain⟨af,ah,an⟩:=az;refine⟨k,by simpa using ah,by simpa using af,λj c e=> ?_,rfl⟩;have:=an j c;simp[e]at this
end
section
open Classical
inductive eX(fs:List (List Int))(roots:List Int):Nat->Prop where
 |root {c:Nat} (h:(c:Int)∈roots) (aq:c<fs.length):eX fs roots c
 |step {c d:Nat} {f:List Int} (h:eX fs roots c) (az:fs[c]? =some f) (a:(d:Int)∈f) (al:d<fs.length):eX fs roots d
noncomputable def dS(fs:List (List Int))(roots:List Int):List Nat:=cY fs.length (eX fs roots)
def kD{fs:List (List Int)}{roots:List Int}{c:Nat}:c∈dS fs roots↔eX fs roots c:=by
 unfold dS;rw[fB];constructor
 ·exactλh=>h.2
 ·intro h;refine⟨?_,h⟩;cases h with
  |root _ aq=>exact aq
  |step _ _ _ al=>exact al
def eX.mono{fs:List (List Int)}{r r':List Int}(h:∀c:Nat,c<fs.length->(c:Int)∈r->eX fs r' c){c:Nat}(aq:eX fs r c):eX fs r' c:=by
 induction aq with
 |root af ah=>exact h _ ah af
 |step _ az a al i=>exact .step i az a al
def eX.append{fs:List (List Int)}{r r':List Int}{c:Nat}:eX fs (r++r') c↔eX fs r c\/eX fs r' c:=by
 constructor
 ·intro h
  induction h with
  |root af ah=>exact(List.mem_append.1 af).imp (λh=> .root h ah) (λh=> .root h ah)
  |step _ az a al i=>exact i.imp (λh=> .step h az a al) (λh=> .step h az a al)
 ·rintro(h|h)
  ·exact h.mono λc aq hm=> .root (List.mem_append.2 (.inl hm)) aq
  ·exact h.mono λc aq hm=> .root (List.mem_append.2 (.inr hm)) aq
def bK(cs:List bH):Nat->Nat
 |0=>0
 |f+1=>bK cs f+((cs[f]?).map λc=>c.vars.length).getD 0
def fb(cs:List bH):Nat:=bK cs cs.length
def ck(x:bj):Nat:=fb x.ay+x.ay.length+x.globals.length
def fQ(x:bj)(f:Nat):Nat:=fb x.ay+f
def fl(x:bj)(g:Nat):Nat:=fb x.ay+x.ay.length+g
def ep(c:bH)(v:Int):Bool:=jM (aY c v)
def jd(c:bH)(at_ to:Nat):List Int->Nat->List bB
 |[],_=>[]
 |v::ak,k=>(bif ep c v then[bB.copy (to+k) (at_+v.toNat)]else[])++jd c at_ to ak (k+1)
def ei(x:bj)(f:Nat)(c:bH)(i:In):List bB:=
 let at_:=bK x.ay f
 let a:=at_+i.a.toNat
 let b:=at_+i.b.toNat
 match i.op with
 |3=>bif ep c i.a then[.copy a b]else[]
 |6=>bif ep c i.a then[.load a b i.c.toNat]else[]
 |8=>bif ep c i.a then[.load a b 0]else[]
 |7=>bif ep c i.b then[.store a b i.c.toNat]else[]
 |9=>bif ep c i.c then[.store a (at_+i.c.toNat) 0]else[]
 |11=>[.base a i.n.toNat]
 |12=>[.base a i.n.toNat]
 |13=>jd c at_ (bK x.ay i.c.toNat) i.args 0++(bif decide (0<=i.a)&&ep c i.a then[.copy a (fQ x i.c.toNat)]else[])
 |18=>bif decide (0<=i.a)&&ep c i.a then[.copy (fQ x f) a]else[]
 |19=>bif ep c i.a then[.copy a (fl x i.n.toNat)]else[]
 |20=>bif ep c i.a then[.copy (fl x i.n.toNat) a]else[]
 |_=>[]
def vc(x:bj)(f:Nat)(c:bH):List bB:=c.ins.flatMap (ei x f c)
def k8(x:bj):List bH->Nat->List bB
 |[],_=>[]
 |c::cs,f=>vc x f c++k8 x cs (f+1)
def cons(x:bj):List bB:=k8 x x.ay 0
noncomputable def hR(x:bj):cB:=zT (ck x) x.sites.length (cons x)
def cB.node(k:cB)(v:Nat):Int:=(k.nodes[v]?).getD (-1)
def cB.site(k:cB)(s:Int):Int:=match k.of[s.toNat]? with
 |some c=>(c:Int)
 |none=> -1
noncomputable def gu(x:bj)(k:cB):List Nat:=dS k.fields ((List.range x.globals.length).map λg=>k.node (fl x g))
noncomputable def mb(l r:List Nat):List Nat:=l.filter λa=>decide (a∉r)
noncomputable def jo(x:bj)(k:cB)(f:Nat)(c:bH):List Nat:=
 mb (dS k.fields (k.node (fQ x f)::(List.range c.params.toNat).map λv=>k.node (bK x.ay f+v))) (gu x k)
noncomputable def cS(x:bj)(k:cB)(f:Nat):List Nat:=match x.ay[f]? with
 |some c=>jo x k f c
 |none=>[]
inductive lX(x:bj)(k:cB):Nat->Nat->Prop where
 |site {f co i c} (h:x.ay[f]? =some co) (a:i∈co.ins) (aR:i.op=11\/i.op=12) (b:k.site i.n=((c:Nat):Int)) (aq:c∈cS x k f):lX x k f c
 |call {f co i c} (h:x.ay[f]? =some co) (a:i∈co.ins) (aR:i.op=13) (a1:lX x k i.c.toNat c) (aq:c∈cS x k f):lX x k f c
noncomputable def m5(x:bj)(k:cB)(f:Nat):List Nat:=cY k.count (lX x k f)
noncomputable def gZ(x:bj)(k:cB)(i:In):List Nat:=
 if i.op=11\/i.op=12 then dS k.fields [k.site i.n]else if i.op=13 then cS x k i.c.toNat else[]
noncomputable def mc(x:bj)(k:cB)(f:Nat)(c:bH):List Nat:=
 cY k.fields.length λa=>(eX k.fields ((List.range c.vars.length).map λv=>k.node (bK x.ay f+v)) a\/∃i∈c.ins,a∈gZ x k i)/\a∉gu x k/\a∉jo x k f c
end
def l1{α:Type}{l:List α}{i:Int}{a:α}(h:dI l i=D a):0<=i/\i.toNat<l.length/\l[i.toNat]? =D a:=by
 unfold dI at h;split at h
 ·rename_i b;exact⟨b,(List.getElem?_eq_some_iff.1 h).1,h⟩
 ·cases h
def Jm{c:bH}{v:Int}(h:aY c v≠bl):0<=v/\v.toNat<c.vars.length/\c.vars[v.toNat]? =D (aY c v):=by
 unfold aY at h ⊢;cases aq:dI c.vars v with
 |none=>rw[aq]at h;exact absurd rfl h
 |some t=>obtain⟨af,ah,an⟩:=l1 aq;exact⟨af,ah,by rw[an];rfl⟩
def wy{t:cv}(h:jM t=C):t≠bl:=by
 rintro rfl;revert h;decide
def abR:cL≠bl:=by decide
def abO:dL≠bl:=by decide
def F_{x:bj}:∀{cs:List bH} {f k:Nat} {c:bH},iI x cs f=C->cs[k]? =D c->codeOk x (f+k) c=C
 |[],_,_,_,_,h=>by simp at h
 |d::cs,f,0,c,h,a=>by
  simp only[iI,Bool.and_eq_true]at h;simp only[List.getElem?_cons_zero,bb]at a;subst a;exact h.1
 |d::cs,f,k+1,c,h,a=>by
  simp only[iI,Bool.and_eq_true]at h;have:=F_ h.2 (k:=k) (by simpa using a);rwa[show f+1+k=f+(k+1) by omega]at this
structure eO(x:bj):Prop where
 bV:x.bV.length<=12
 globals:x.globals.length<=8
 ay:1<=x.ay.length/\x.ay.length<=16
 sites:x.sites.length<=60
 code:∀{f:Nat} {c:bH},x.ay[f]? =some c->codeOk x f c=true
 site:∀{s:pI},s∈x.sites->h1 x s=true
 rX:∀{t:cv},t∈x.globals->dE x.bV.length t=true
 WO:∀{l:List cv},l∈x.bV->l.length<=8
def gA{x:bj}(h:right x=C):eO x:=by
 unfold right at h;simp only[Bool.and_eq_true,decide_eq_true_eq,List.all_eq_true]at h;obtain⟨⟨af,ah,an,aM,b⟩,i,c,d,e,g,a⟩:=h;exact⟨af,ah,⟨an,aM⟩,b,λaq=>by have:=F_ a aq;rwa[Nat.zero_add]at this,λf=>e _ f,λa1=>c _ a1,λal=>(d _ al).1⟩
structure Et(x:bj)(f:Nat)(c:bH):Prop where
 params:0<=c.params/\c.params<=6/\c.params<=c.vars.length
 vars:c.vars.length<=4000
 adr:1<=c.ins.length
 ins:∀{i:In},i∈c.ins->dy x f c i=true
 last:jj (jI c.ins)=true
def jZ{x:bj}{f:Nat}{c:bH}(h:codeOk x f c=C):Et x f c:=by
 unfold codeOk at h;simp only[Bool.and_eq_true,decide_eq_true_eq,List.all_eq_true]at h;obtain⟨⟨af,ah,an,aM,a⟩,_,_,b,d⟩:=h;exact⟨⟨af,ah,an⟩,aM,a,λe=>b _ e,d⟩
def vh{x:bj}(au:eO x){t:cv}{k:Int}(h:eD x t k≠bl):0<=k/\k.toNat<8:=by
 unfold eD lE at h;split at h
 ·cases aq:dI x.bV t.r with
  |none=>rw[aq]at h;exact absurd rfl h
  |some l=>
   rw[aq]at h;simp only[Option.bind_some]at h;cases a:dI l k with
   |none=>rw[a]at h;exact absurd rfl h
   |some u=>
    obtain⟨af,ah,_⟩:=l1 a;obtain⟨_,_,an⟩:=l1 aq;have:=au.WO (List.mem_of_getElem? an);exact⟨af,by omega⟩
 ·exact absurd rfl h
def nq{x:bj}{f:Nat}{s:Int}{t:cv}(h:hP x f s t=C):0<=s/\s.toNat<x.sites.length/\∃z,x.sites[s.toNat]? =D z/\z.f=f/\z.ty=t:=by
 unfold hP at h;split at h
 ·rename_i z a;obtain⟨af,ah,an⟩:=l1 a;simp only[Bool.and_eq_true,beq_iff_eq,decide_eq_true_eq]at h;exact⟨af,ah,z,an,h.1,h.2⟩
 ·cases h
def Fb{c g:bH}:∀{l:List Int} {k j:Nat} {v:Int},jW c g l k=C->l[j]? =D v->aY c v≠bl/\g.vars[k+j]? =D (aY c v)
 |[],_,_,_,_,h=>by simp at h
 |a::l,k,0,v,h,b=>by
  simp only[jW,Bool.and_eq_true,decide_eq_true_eq]at h;simp only[List.getElem?_cons_zero,bb]at b;subst b;exact⟨h.1,h.2.1⟩
 |a::l,k,j+1,v,h,b=>by
  simp only[jW,Bool.and_eq_true,decide_eq_true_eq]at h;have:=Fb h.2.2 (j:=j) (by simpa using b);rwa[show k+1+j=k+(j+1) by omega]at this
structure Er(x:bj)(c:bH)(i:In)(g:bH):Prop where
 at_:0<=i.c/\x.ay[i.c.toNat]? =some g
 len:(i.args.length:Int)=g.params
 le:g.params<=g.vars.length
 arg:∀{j:Nat} {v:Int},i.args[j]? =some v->aY c v≠bl/\g.vars[j]? =some (aY c v)
 res:i.a= -1\/(g.has=true/\aY c i.a≠bl/\aY c i.a=g.res)
def O8{x:bj}{c:bH}{i:In}(h:k7 x c i=C):∃g,Er x c i g:=by
 unfold k7 at h;split at h
 ·cases h
 ·rename_i g aP;obtain⟨af,ah,an⟩:=l1 aP;simp only[Bool.and_eq_true,decide_eq_true_eq,Bool.or_eq_true,beq_iff_eq]at h;obtain⟨⟨d,a,a3⟩,a4,a5⟩:=h;exact⟨g,⟨af,an⟩,a3,a,λb=>by have:=Fb a4 b;rwa[Nat.zero_add]at this,a5⟩
def yZ{cs:List bH}{f:Nat}{c:bH}(h:cs[f]? =D c):bK cs (f+1)=bK cs f+c.vars.length:=by
 simp[bK,h]
def Ed{cs:List bH}:∀{f g:Nat},f<=g->bK cs f<=bK cs g
 |f,0,h=>by
  have:f=0:=by omega
  subst this;exact bC _
 |f,g+1,h=>by
  rcases Nat.lt_or_eq_of_le h with af|rfl
  ·have:=Ed (cs:=cs) (Nat.le_of_lt_succ af);simp only[bK];omega
  ·exact bC _
def ra{cs:List bH}{f:Nat}{c:bH}(h:cs[f]? =D c){v:Nat}(a:v<c.vars.length):bK cs f+v<fb cs:=by
 have az:=(List.getElem?_eq_some_iff.1 h).1;have af:=yZ h;have ah:=Ed (cs:=cs) (show f+1<=cs.length by omega);unfold fb;omega
end Go.a2
namespace Go.Proofs.YtmhhnnklfcbgfaaGreat
open Go.bz
section
open Go.a2
set_option maxRecDepth 2000
def bZ(t:cv):List ae:=[J X t.b,J X t.r,J X t.d]
def cU(t:cv):ae:= .agg (bZ t)
def eV:ek cv:=⟨3,λ_ _ t cs=>cs=bZ t,by rintro _ _ _ _ rfl;exact⟨rfl,rfl⟩,λ_ h=>h⟩
def kU:ek cv:=⟨4,λ_ _ t cs=>∃s,cs= F s::bZ t,by rintro _ _ _ _ ⟨s,rfl⟩;exact⟨rfl,rfl⟩,λ_ h=>h⟩
def lT:ek (List cv):=⟨2,λH ok l cs=>∃s v,cs=[F s,v]/\aO kU H ok l v,by
 rintro _ _ _ _ ⟨s,v,rfl,h⟩;exact⟨rfl,by have:=h.one;simp[this];simp[ae.one]⟩,by
 rintro _ _ _ _ _ _ p ⟨s,v,rfl,h⟩;exact⟨s,v,rfl,h.keep p⟩⟩
def fD:ek In:=⟨6,λH ok i cs=>∃v,cs=[J X i.op,J X i.a,J X i.b,J X i.c,J X i.n,v]/\aO aT H ok i.args v,by
 rintro _ _ _ _ ⟨v,rfl,h⟩;exact⟨rfl,by have:=h.one;simp[this];simp[ae.one]⟩,by
 rintro _ _ _ _ _ _ p ⟨v,rfl,h⟩;exact⟨v,rfl,h.keep p⟩⟩
def fC:ek bH:=⟨7,λH ok c cs=>∃v w,cs=[J X c.params,v,A c.has,J X c.res.b,J X c.res.r,J X c.res.d,w]/\aO eV H ok c.vars v/\aO fD H ok c.ins w,by
 rintro _ _ _ _ ⟨v,w,rfl,h,ah⟩;exact⟨rfl,by have an:=h.one;have aM:=ah.one;simp[an,aM];simp[ae.one]⟩,by
 rintro _ _ _ _ _ _ p ⟨v,w,rfl,h,ah⟩;exact⟨v,w,rfl,h.keep p,ah.keep p⟩⟩
def lU:ek pI:=⟨4,λ_ _ z cs=>cs= J X z.f::bZ z.ty,by rintro _ _ _ _ rfl;exact⟨rfl,rfl⟩,λ_ h=>h⟩
def eG:eW 22 95 2:=⟨aF,aF,⟨40,aF,bU⟩,⟨.agg [F [],.aB],aF,rfl,rfl⟩,bU⟩
def cX:eW 23 46 3:=⟨aF,aF,⟨24,aF,bU⟩,⟨.agg [J X 0,J X 0,J X 0],aF,rfl,rfl⟩,bU⟩
def cI:eW 24 49 7:=⟨aF,aF,⟨88,aF,bU⟩,⟨.agg [J X 0,.aB,A Z,J X 0,J X 0,J X 0,.aB],aF,rfl,rfl⟩,bU⟩
def fO:eW 25 100 4:=⟨aF,aF,⟨32,aF,bU⟩,⟨.agg [J X 0,J X 0,J X 0,J X 0],aF,rfl,rfl⟩,bU⟩
def eA:eW 47 89 6:=⟨aF,aF,⟨64,aF,bU⟩,⟨.agg [J X 0,J X 0,J X 0,J X 0,J X 0,.aB],aF,rfl,rfl⟩,bU⟩
def iS:eW 93 98 4:=⟨aF,aF,⟨40,aF,bU⟩,⟨.agg [F [],J X 0,J X 0,J X 0],aF,rfl,rfl⟩,bU⟩
def rl(H:ad)(ok:Nat->Prop)(x:bj)(cs:List ae):Prop:=∃a b c d,cs=[a,b,c,d,J X x.main]/\aO lT H ok x.bV a/\aO eV H ok x.globals b/\aO fC H ok x.ay c/\aO lU H ok x.sites d
def cM(H:ad)(ok:Nat->Prop)(x:bj)(v:ae):Prop:=∃cs,v= .agg cs/\rl H ok x cs
def rl.keep{H H':ad}{ok ok':Nat->Prop}{x:bj}{cs:List ae}(p:e1 H ok H' ok'):rl H ok x cs->rl H' ok' x cs:=by
 rintro⟨a,b,c,d,rfl,af,ah,an,aM⟩;exact⟨a,b,c,d,rfl,af.keep p,ah.keep p,an.keep p,aM.keep p⟩
def cM.keep{H H':ad}{ok ok':Nat->Prop}{x:bj}{v:ae}(p:e1 H ok H' ok'):cM H ok x v->cM H' ok' x v:=λ⟨cs,e,h⟩=>⟨cs,e,h.keep p⟩
def cM.aE{H H':ad}{ok:Nat->Prop}{x:bj}{v:ae}(h:cM H ok x v)(p:av H H'):cM H' ok x v:=h.keep (.aE p)
def uE(H:ad)(ok:Nat->Prop)(i:In)(v:ae):Prop:=∃cs,v= .agg cs/\fD.V H ok i cs
def Es(H:ad)(ok:Nat->Prop)(c:bH)(v:ae):Prop:=∃cs,v= .agg cs/\fC.V H ok c cs
def iF{α:Type}{l:List α}{i:Int}(a:0<=i):dI l i=l[i.toNat]? :=if_pos a
def Fi{α:Type}{l:List α}{i:Int}{a:α}:dI l i=D a↔0<=i/\l[i.toNat]? =D a:=by
 unfold dI;split
 ·rename_i h;exact⟨λe=>⟨h,e⟩,λe=>e.2⟩
 ·rename_i h;exact⟨λe=>(by cases e),λe=>absurd e.1 h⟩
def fc{α:Type}{l:List α}{i:Int}:dI l i=I↔i<0\/(l.length:Int)<=i:=by
 unfold dI;split
 ·rename_i h;rw[List.getElem?_eq_none_iff];omega
 ·rename_i h;exact⟨λ_=> .inl aa,λ_=>rfl⟩
def Nx(a b c b8 b' d:Int):h6 P 10000 46 (.agg [J X a,J X b,J X c]) (.agg [J X b8,J X b',J X d])=bif a==b8 then(bif b==b' then(bif c==d then D C else D Z)else D Z)else D false:=aF
def EP(t u:cv):h6 P 10000 46 (cU t) (cU u)=D (decide (t=u)):=by
 refine(Nx t.b t.r t.d u.b u.r u.d).trans ?_;obtain⟨a,b,c⟩:=t;obtain⟨b8,b',e⟩:=u;simp only[cv.mk.injEq];cases af:(a==b8)<;>cases ah:(b==b')<;>cases an:(c==e)<;>simp_all
def df(t u:cv)(z:Bool):bm P .eql 46 z (cU t) (cU u)=D (A (decide (t=u))):=by
 have h:nA P 46 z (cU t) (cU u)=true:=aF;show(if nA P 46 z (cU t) (cU u)then(h6 P 10000 46 (cU t) (cU u)).map ae.bool else I)=_;rw[if_pos h,EP];rfl
def hK(t u:cv)(z:Bool):bm P .neq 46 z (cU t) (cU u)=D (A (decide (t≠u))):=by
 have h:nA P 46 z (cU t) (cU u)=true:=aF;show(if nA P 46 z (cU t) (cU u)then(h6 P 10000 46 (cU t) (cU u)).map (λb=>ae.bool (!b))else I)=_;rw[if_pos h,EP];simp
end
section
set_option maxRecDepth 100000
set_option maxHeartbeats 4000000
noncomputable section
def kK(G:aw)(N:Nat):et 1 Tryz.f24 G N (·.ag.ag.ag.ag.ag.ag.ag) (bg Tryz.f24) []:=⟨_,v1 ao⟩
def mj(G:aw)(N:Nat)(L4:T2):g6 1 11 Tryz.f24 G N (·.ag.ag.ag.ag.ag.ag.ax.ag.ax.ax.ag.ag) (bo L4 1 11) [(8,(a8 (kK G N) 1))]:=⟨_,v2 ao⟩
def n1(G:aw)(N:Nat)(L4:T2):gj 1 11 12 Tryz.f24 G N (·.ag.ag.ag.ag.ag.ag.ax.ag.ax.ax.ag.ax.ax.ag.ag) (bo (mj G N L4) 1 11) [(9,(bo (mj G N L4) 1 11)),(8,(a8 (kK G N) 1))]:=⟨_,v3 ao⟩
def xO(G:aw)(N:Nat)(L4:T2)(a:b_):en 1 11 12 13 Tryz.f24 G N (·.ag.ag.ag.ag.ag.ag.ax.ag.ax.ax.ag.ax.ax.ag.ax.ag.ax.ax) (bT a 1 11 12 13) [(10,(bJ (n1 G N L4) 1 11 12)),(9,(bo (mj G N L4) 1 11)),(8,(a8 (kK G N) 1))]:=⟨_,v4 ao⟩
def tD(G:aw)(N:Nat)(L4:T2):Nat->b_
 |0=>fk
 |n+1=>xO G N L4 (tD G N L4 n)
def xN(G:aw)(N:Nat)(L4:T2):g6 1 11 Tryz.f24 G N (·.ag.ag.ag.ag.ag.ag.ax.ag.ax.ax) (bo L4 1 11) [(8,(a8 (kK G N) 1))]:=⟨_,v2 (ak (ak ((mj G N L4).2) (bD (ak (ak ((n1 G N L4).2) (ak (bD (b3 (λm=>(xO G N L4 (tD G N L4 m)).2))) ao)) ao))) ao)⟩
def tC(G:aw)(N:Nat):Nat->T2
 |0=>mu
 |n+1=>xN G N (tC G N n)
def xQ(G:aw)(N:Nat):et 1 Tryz.f24 G N (·.ag.ag.ag.ag.ag.ag) (bg Tryz.f24) []:=⟨_,v1 (ak ((kK G N).2) (ak (bD (b3 (λm=>(xN G N (tC G N m)).2))) ao))⟩
def m1(G:aw)(N:Nat)(n:c6):gj 1 8 9 Tryz.f24 G N (·.ag.ag.ag.ag.ag.ax.ag.ax.ax) (bJ n 1 8 9) [(6,(a8 (xQ G N) 1))]:=⟨λx1 x8 m H=>aU (bN P 27 x1 2) λar=>aU (aI P H 24 ar) λau=>br P .len [24] [au] H λav=>aU (bm P .lss 3 Z m av) λay=>dF (D ay) (aU (bN P 27 x1 2) λaA=>aU (aI P H 24 aA) λaC=>aU (cm P 24 aC m) λaE=>aU (aI P H 49 aE) λaF=>fu H [J X 0,ae.aB,A Z,J X 0,J X 0,J X 0,ae.aB] λx10 af=>fw af (cD P af 49 x10 aF) λah=>aU (bN P 49 x10 4) λaG=>aU (aI P ah 47 aG) λaH=>br P .len [47] [aH] ah λaJ=>aU (bm P .add 3 Z x8 aJ) λE=>aU (bN P 49 x10 1) λaK=>aU (aI P ah 23 aK) λaL=>br P .len [23] [aL] ah λaN=>aU (bm P .gtr 3 C aN (J X 4000)) λh=>bQ h Z ah (b2 (bN P 49 x10 0)) λaO an=>bQ h Z an (qr (aI P an 3 aO)) λaP aM=>bQ h Z aM (b2 (bm P .lss 3 C aP (J X 0))) λaQ am=>aU (da h (D (A C)) (D aQ)) λi=>bQ i Z am (b2 (bN P 49 x10 0)) λaR z=>bQ i Z z (qr (aI P z 3 aR)) λaS ap=>bQ i Z ap (b2 (bm P .gtr 3 C aS (J X 6))) λaT aq=>aU (da i (D (A C)) (D aT)) λa=>bQ a Z aq (b2 (bN P 49 x10 0)) λaV B=>bQ a Z B (qr (aI P B 3 aV)) λaW M=>bQ a Z M (b2 (bN P 49 x10 1)) λaX o=>bQ a Z o (qr (aI P o 23 aX)) λK p=>bQ a Z p (λq=>hM (bL P .empty .len [23] [K]) (bL P p .len [23] [K]) q) λaY O=>bQ a Z O (b2 (bm P .gtr 3 Z aW aY)) λaZ r=>aU (da a (D (A C)) (D aZ)) λb=>bQ b Z r (qr (aI P r 27 x1)) λa0 Q=>bQ b Z Q (b2 (bN P 49 x10 1)) λa1 s=>bQ b Z s (qr (aI P s 23 a1)) λa2 j=>bQ b Z j (λq=>dD j (G 48 [a0,a2] j) q) λa3 R=>bQ b Z R (b2 (iG .not a3)) λa4 S=>aU (da b (D (A C)) (D a4)) λe=>bQ e Z S (b2 (bN P 49 x10 4)) λa5 t=>bQ e Z t (qr (aI P t 47 a5)) λL u=>bQ e Z u (λq=>hM (bL P .empty .len [47] [L]) (bL P u .len [47] [L]) q) λa6 T=>bQ e Z T (b2 (bm P .lss 3 C a6 (J X 1))) λa7 U=>aU (da e (D (A C)) (D a7)) λl=>bQ l Z U (gz E) λa9 V=>bQ l Z V (b2 (bm P .gtr 3 C a9 (J X 2500))) λa_ g=>aU (da l (D (A C)) (D a_)) λba=>dF (D ba) (D ((A Z),g)) (aU (bN P 49 x10 2) λbb=>aU (aI P g 4 bb) λc=>bQ c C g (qr (aI P g 27 x1)) λbc W=>bQ c C W (b2 (bN P 49 x10 3)) λbd v=>bQ c C v (qr (aI P v 46 bd)) λbe k=>bQ c C k (λq=>dD k (G 49 [bc,be] k) q) λbf Y=>bQ c C Y (b2 (iG .not bf)) λbg aa=>aU (da c (D bg) (D (A Z))) λd=>bQ d Z aa (b2 (bN P 49 x10 2)) λbh w=>bQ d Z w (qr (aI P w 4 bh)) λbi ab=>bQ d Z ab (b2 (iG .not bi)) λbj ad=>bQ d Z ad (gz bj) λf ai=>bQ f C ai (b2 (bN P 49 x10 3)) λbk x=>bQ f C x (qr (aI P x 46 bk)) λbl aj=>bQ f C aj (gz (.agg [J X 0,J X 0,J X 0])) λbn ak=>bQ f C ak (b2 (bm P .neq 46 Z bl bn)) λbo al=>bQ d Z al (b2 (da f (D bo) (D (A Z)))) λbp y=>aU (da d (D (A C)) (D bp)) λbq=>dF (D bq) (D ((A Z),y)) (aU (bm P .add 3 C m (J X 1)) λaz=>n x1 E az y))) (xQ G N x1 H),cr ao⟩
def tE(G:aw)(N:Nat):Nat->c6
 |0=>iq
 |n+1=>m1 G N (tE G N n)
def CU(G:aw)(N:Nat):et 1 Tryz.f24 G N (·.ag.ag.ag.ag) (bg Tryz.f24) []:=⟨_,v1 (ak (ak ((xQ G N).2) (ak (bD (b3 (λm=>(m1 G N (tE G N m)).2))) ao)) ao)⟩
def qT(G:aw)(N:Nat)(a:T2):g6 1 6 Tryz.f24 G N (·.ag.ag.ag.ax.ag.ax.ax) (bo a 1 6) [(4,(a8 (CU G N) 1))]:=⟨_,v2 ao⟩
def pc(G:aw)(N:Nat):Nat->T2
 |0=>mu
 |n+1=>qT G N (pc G N n)
def tA(G:aw)(N:Nat):et 1 Tryz.f24 G N (·.ag.ag.ag) (bg Tryz.f24) []:=⟨_,v1 (ak ((CU G N).2) (ak (bD (b3 (λm=>(qT G N (pc G N m)).2))) ao))⟩
def xP(G:aw)(N:Nat)(L10:T2):g6 1 3 Tryz.f24 G N (·.ag.ag.ax.ag.ax.ax.ag.ag) (bo L10 1 3) [(0,(a8 (tA G N) 1))]:=⟨_,v2 ao⟩
def xM(G:aw)(N:Nat)(L10:T2)(a:b_):en 1 3 4 5 Tryz.f24 G N (·.ag.ag.ax.ag.ax.ax.ag.ax.ax.ag.ag.ag.ax.ax) (bT a 1 3 4 5) [(2,(bo (xP G N L10) 1 3)),(1,(bo (xP G N L10) 1 3)),(0,(a8 (tA G N) 1))]:=⟨_,v4 ao⟩
def tB(G:aw)(N:Nat)(L10:T2):Nat->b_
 |0=>fk
 |n+1=>xM G N L10 (tB G N L10 n)
def tz(G:aw)(N:Nat)(L10:T2):g6 1 3 Tryz.f24 G N (·.ag.ag.ax.ag.ax.ax) (bo L10 1 3) [(0,(a8 (tA G N) 1))]:=⟨_,v2 (ak (ak ((xP G N L10).2) (bD (ak (ak (ak (bD (b3 (λm=>(xM G N L10 (tB G N L10 m)).2))) ao) ao) ao))) ao)⟩
def qU(G:aw)(N:Nat):Nat->T2
 |0=>mu
 |n+1=>tz G N (qU G N n)
def pb(G:aw)(N:Nat):fU Tryz.f24 G N:=⟨_,t1 (ak (ak (ak ((tA G N).2) (ak (bD (b3 (λm=>(tz G N (qU G N m)).2))) ao)) ao) ao)⟩
def Yj(N:Nat):=dZ Tryz.func24 λG=>(pb G N).2
def yj(G:aw)(N:Nat):g5 Tryz.f48 G N (·.ag.ag) (bg Tryz.f48) []:=⟨_,v0 ao⟩
def yi(G:aw)(N:Nat)(L1:c6):gj 1 2 5 Tryz.f48 G N (·.ag.ax.ag.ax.ax) (bJ L1 1 2 5) [(0,(bh (yj G N)))]:=⟨_,v3 ao⟩
def tX(G:aw)(N:Nat):Nat->c6
 |0=>iq
 |n+1=>yi G N (tX G N n)
def Le(G:aw)(N:Nat):fJ Tryz.f48 G N:=⟨_,t2 (ak (ak ((yj G N).2) (ak (bD (b3 (λm=>(yi G N (tX G N m)).2))) ao)) ao)⟩
def YX(N:Nat):=dc Tryz.func48 λG=>(Le G N).2
def ph(G:aw):W0 Tryz.f49 G (·.ag.ag.ag) (bg Tryz.f49) []:=⟨_,λN=>v0 ao⟩
def yk(G:aw):nk 2 3 14 15 Tryz.f49 G (·.ag.ag.ax.ag.ax.ag) (bh (ph G)) [(0,(bh (ph G)))]:=⟨_,λN=>v4 ao⟩
def Lf(G:aw):ev Tryz.f49 G:=⟨_,λN=>t2 (ak (ak (ak ((ph G).2 N) (ak (bD (ak ((yk G).2 N) ao)) ao)) ao) ao)⟩
def YY(N:Nat):=dc Tryz.func49 λG=>(Lf G).2 N
def kf(G:aw):W0 Tryz.f51 G (·.ag.ag.ag.ag.ag.ag) (bg Tryz.f51) []:=⟨_,λN=>v0 ao⟩
def q0(G:aw):pL 3 5 8 9 317 Tryz.f51 G (·.ag.ag.ag.ag.ag.ax.ag.ax.ag.ag.ag.ag.ag.ag.ag.ag.ag.ag.ag.ag.ag.ag.ag.ag.ag.ag.ag.ag.ag.ag.ag.ag.ag.ag.ag.ag.ag.ag.ag.ag.ag.ag.ag) (bh (kf G)) [(0,(bh (kf G)))]:=⟨_,λN=>v5 ao⟩
def lJ(G:aw):rn 3 5 7 8 9 45 250 Tryz.f51 G (·.ag.ag.ag.ag.ag.ax.ag.ax.ag.ag.ag.ag.ag.ag.ag.ag.ag.ag.ag.ag.ag.ag.ag.ag.ag.ag.ag.ag.ag.ag.ag.ag.ag.ag.ag) (bh (kf G)) [(0,(bh (kf G)))]:=⟨λQ x5 x7 x8 j y U H=>dF (D U) (dW H (G 104 [] H) λV af=>aU (aI P af 46 j) λE=>aU (bm P .eql 46 Z E V) λW=>bif ((bF (aI P H 46 j) E&&bF (aI P af 46 j) E)&&C)then(D (W,af))else I) (aU (bm P .eql 3 C y (J X 16)) λY=>dF (D Y) (aU (bN P 89 x5 4) λaa=>aU (aI P H 3 aa) λab=>aU (bm P .geq 3 C ab (J X 0)) λo=>bQ o C H (b2 (bN P 89 x5 4)) λad af=>bQ o C af (qr (aI P af 3 ad)) λae ah=>bQ o C ah (b2 (bN P 49 x7 4)) λai an=>bQ o C an (qr (aI P an 47 ai)) λL aM=>bQ o C aM (λq=>hM (bL P .empty .len [47] [L]) (bL P aM .len [47] [L]) q) λaj S=>bQ o C S (b2 (bm P .lss 3 Z ae aj)) λal T=>aU (da o (D al) (D (A Z))) λam=>D (am,T)) (aU (bm P .eql 3 C y (J X 17)) λap=>dF (D ap) (dW H (G 105 [] H) λO af=>aU (aI P af 46 j) λM=>aU (bm P .eql 46 Z M O) λu=>bX u C (b2 (bN P 89 x5 4)) λa=>bX u C (qr (aI P (a.heap af) 3 a.val)) λc=>bX u C (b2 (bm P .geq 3 C c.val (J X 0))) λd=>aU (da u (D d.val) (D (A Z))) λh=>bX h C (b2 (bN P 89 x5 4)) λb=>bX h C (qr (aI P (b.heap (d.heap (c.heap (a.heap af)))) 3 b.val)) λg=>bX h C (b2 (bN P 49 x7 4)) λe=>bX h C (qr (aI P (e.heap (g.heap (b.heap (d.heap (c.heap (a.heap af)))))) 47 e.val)) λf=>bX h C (λq=>hM (bL P .empty .len [47] [f.val]) (bL P (f.heap (e.heap (g.heap (b.heap (d.heap (c.heap (a.heap af))))))) .len [47] [f.val]) q) λm=>bX h C (b2 (bm P .lss 3 Z g.val m.val)) λn=>aU (da h (D n.val) (D (A Z))) λv=>bX v C (b2 (bN P 89 x5 3)) λk=>bX v C (qr (aI P (k.heap (n.heap (m.heap (f.heap (e.heap (g.heap (b.heap (d.heap (c.heap (a.heap af)))))))))) 3 k.val)) λp=>bX v C (b2 (bm P .geq 3 C p.val (J X 0))) λr=>aU (da v (D r.val) (D (A Z))) λi=>bX i C (b2 (bN P 89 x5 3)) λl=>bX i C (qr (aI P (l.heap (r.heap (p.heap (k.heap (n.heap (m.heap (f.heap (e.heap (g.heap (b.heap (d.heap (c.heap (a.heap af))))))))))))) 3 l.val)) λw=>bX i C (b2 (bN P 49 x7 4)) λs=>bX i C (qr (aI P (s.heap (w.heap (l.heap (r.heap (p.heap (k.heap (n.heap (m.heap (f.heap (e.heap (g.heap (b.heap (d.heap (c.heap (a.heap af))))))))))))))) 47 s.val)) λt=>bX i C (λq=>hM (bL P .empty .len [47] [t.val]) (bL P (t.heap (s.heap (w.heap (l.heap (r.heap (p.heap (k.heap (n.heap (m.heap (f.heap (e.heap (g.heap (b.heap (d.heap (c.heap (a.heap af)))))))))))))))) .len [47] [t.val]) q) λz=>bX i C (b2 (bm P .lss 3 Z w.val z.val)) λB=>aU (da i (D B.val) (D (A Z))) λK=>bif iJ [0,0,3,7,15,31,63,127,255,511,1023,511,2559,6655,16383,32767,65535,131071,262143,524287,1048575,2097151,4194303,8388607,4194303,20971519,54525951,134217727,268435455,536870911] [1,2,3,4,5,6,7,8,9,10,11,12,13,14,15,16,17,18,19,20,21,22,23,24,25,26,27,28,29] [⟨1,.cN O af,λH=>I⟩,⟨0,.read M,λH=>aI P H 46 j⟩,⟨2,.pure u,λH=>I⟩,⟨3,.pure u,λH=>I⟩,⟨4,a,λH=>I⟩,⟨5,c,λH=>aI P H 3 a.val⟩,⟨6,d,λH=>I⟩,⟨7,.pure h,λH=>I⟩,⟨8,.pure h,λH=>I⟩,⟨9,b,λH=>I⟩,⟨10,g,λH=>aI P H 3 b.val⟩,⟨11,e,λH=>I⟩,⟨12,f,λH=>aI P H 47 e.val⟩,⟨13,m,λH=>bL P H .len [47] [f.val]⟩,⟨14,n,λH=>I⟩,⟨15,.pure v,λH=>I⟩,⟨16,.pure v,λH=>I⟩,⟨17,k,λH=>I⟩,⟨18,p,λH=>aI P H 3 k.val⟩,⟨19,r,λH=>I⟩,⟨20,.pure i,λH=>I⟩,⟨21,.pure i,λH=>I⟩,⟨22,l,λH=>I⟩,⟨23,w,λH=>aI P H 3 l.val⟩,⟨24,s,λH=>I⟩,⟨25,t,λH=>aI P H 47 s.val⟩,⟨26,z,λH=>bL P H .len [47] [t.val]⟩,⟨27,B,λH=>I⟩,⟨28,.pure K,λH=>I⟩,⟨29,.pure K,λH=>I⟩] H then(D (K,(B.heap (z.heap (t.heap (s.heap (w.heap (l.heap (r.heap (p.heap (k.heap (n.heap (m.heap (f.heap (e.heap (g.heap (b.heap (d.heap (c.heap (a.heap af))))))))))))))))))))else I) (aU (bm P .eql 3 C y (J X 18)) λaq=>dF (D aq) (aU (bN P 49 x7 2) λar=>aU (aI P H 4 ar) λau=>aU (iG .not au) λav=>dF (D av) (aU (bN P 89 x5 1) λay=>aU (aI P H 3 ay) λaz=>aU (bm P .eql 3 C az (J X (-1))) λaA=>D (aA,H)) (aU (aI P H 46 j) λaC=>aU (aI P H 46 x8) λaE=>aU (bm P .neq 46 Z aC aE) λx=>bQ x C H (qr (aI P H 46 j)) λaF af=>bQ x C af (b2 (bN P 49 x7 3)) λaG ah=>bQ x C ah (qr (aI P ah 46 aG)) λaH an=>bQ x C an (b2 (bm P .eql 46 Z aF aH)) λaJ aM=>aU (da x (D aJ) (D (A Z))) λaK=>D (aK,aM))) (aU (bm P .eql 3 C y (J X 19)) λR=>dF (D R) (q0 G Q x5 x8 j R H) (aU (bm P .eql 3 C y (J X 20)) λaL=>q0 G Q x5 x8 j aL H))))),λN=>cr (dp ao (ak (dp ao (ak (dp ao (ak (dp ao (ak ((q0 G).2 N) ao)) ao)) ao)) ao))⟩
def Lh(G:aw):iB Tryz.f51 G:=⟨λbw x1 x2 H=>eK H (fe (H).next bw) λo af=>eK af (fe (af).next x2) λx5 ah=>aU (bm P .lss 3 C x1 (J X 0)) λQ=>bQ Q Z ah (gz x1) λx15 an=>bQ Q Z an (b2 (bN P 27 o 2)) λx16 aM=>bQ Q Z aM (qr (aI P aM 24 x16)) λx17 a2=>bQ Q Z a2 (λq=>hM (bL P .empty .len [24] [x17]) (bL P a2 .len [24] [x17]) q) λbC bu=>bQ Q Z bu (b2 (bm P .geq 3 Z x15 bC)) λbE a3=>aU (da Q (D (A C)) (D bE)) λag=>bQ ag Z a3 (qr (aI P a3 89 x5)) λbU av=>bQ ag Z av (λq=>dD av (G 102 [bU] av) q) λb4 bv=>bQ ag Z bv (b2 (iG .not b4)) λb5 ab=>aU (da ag (D (A C)) (D b5)) λx25=>dF (D x25) (D ((A Z),ab)) (aU (bN P 27 o 2) λx26=>aU (aI P ab 24 x26) λcb=>aU (cm P 24 cb x1) λcc=>aU (aI P ab 49 cc) λcd=>fu ab [J X 0,ae.aB,A Z,J X 0,J X 0,J X 0,ae.aB] λx7 aS=>fw aS (cD P aS 49 x7 cd) λbl=>fu bl [J X 0,J X 0,J X 0] λx8 aT=>fw aT (cD P aT 46 x8 (.agg [J X 0,J X 0,J X 0])) λr=>aU (aI P r 49 x7) λbf=>aU (bN P 89 x5 1) λbg=>aU (aI P r 3 bg) λbh=>dW r (G 103 [bf,bh] r) λce z=>aU (aI P z 49 x7) λaL=>aU (bN P 89 x5 2) λaN=>aU (aI P z 3 aN) λaO=>dW z (G 103 [aL,aO] z) λcf L=>aU (aI P L 49 x7) λal=>aU (bN P 89 x5 3) λam=>aU (aI P L 3 am) λap=>dW L (G 103 [al,ap] L) λcg bn=>fu bn [J X 0,J X 0,J X 0] λi bo=>fu bo [J X 0,J X 0,J X 0] λx10 bp=>fu bp [J X 0,J X 0,J X 0] λx11 aV=>fw aV (cD P aV 46 i ce) λaW=>fw aW (cD P aW 46 x10 cf) λaX=>fw aX (cD P aX 46 x11 cg) λa=>bif ((bF (aI P r 49 x7) bf&&C)&&((bF (aI P r 3 bg) bh&&C)&&((bF (aI P r 49 x7) aL&&(bF (aI P z 49 x7) aL&&C))&&((bF (aI P r 3 aN) aO&&(bF (aI P z 3 aN) aO&&C))&&((bF (aI P r 49 x7) al&&(bF (aI P z 49 x7) al&&(bF (aI P L 49 x7) al&&C)))&&((bF (aI P r 3 am) ap&&(bF (aI P z 3 am) ap&&(bF (aI P L 3 am) ap&&C)))&&C))))))then(aU (bN P 89 x5 0) λch=>aU (aI P a 3 ch) λn=>aU (bm P .eql 3 C n (J X 1)) λci=>dF (D ci) (dW a (G 104 [] a) λbj k=>aU (aI P k 46 i) λbi=>aU (bm P .eql 46 Z bi bj) λx50=>bX x50 Z (λq=>dD k (G 105 [] k) q) λb=>bX x50 Z (qr (aI P (b.heap k) 46 i)) λd=>bX x50 Z (b2 (bm P .eql 46 Z d.val b.val)) λc=>bX x50 Z (gz c.val) λe=>bX e.val C (b2 (bN P 89 x5 4)) λf=>bX e.val C (qr (aI P (f.heap (e.heap (c.heap (d.heap (b.heap k))))) 3 f.val)) λg=>bX e.val C (b2 (bm P .eql 3 C g.val (J X 0))) λh=>bX e.val C (gz h.val) λj=>bX j.val Z (b2 (bN P 89 x5 4)) λl=>bX j.val Z (qr (aI P (l.heap (j.heap (h.heap (g.heap (f.heap (e.heap (c.heap (d.heap (b.heap k))))))))) 3 l.val)) λm=>bX j.val Z (b2 (bm P .eql 3 C m.val (J X 1))) λp=>bX e.val C (b2 (da j.val (D (A C)) (D p.val))) λs=>bX x50 Z (b2 (da e.val (D s.val) (D (A Z)))) λt=>aU (da x50 (D (A C)) (D t.val)) λaP=>bif iJ [0,0,3,7,15,15,63,127,255,511,1023,2047,4095,8191,16383,32767,65535,131071,262143] [1,2,3,5,6,7,8,9,10,11,12,13,14,15,16,17,18] [⟨1,.cN bj k,λH=>I⟩,⟨0,.read bi,λH=>aI P H 46 i⟩,⟨2,.pure x50,λH=>I⟩,⟨3,.pure x50,λH=>I⟩,⟨5,b,λH=>I⟩,⟨4,d,λH=>aI P H 46 i⟩,⟨6,c,λH=>I⟩,⟨7,e,λH=>I⟩,⟨8,f,λH=>I⟩,⟨9,g,λH=>aI P H 3 f.val⟩,⟨10,h,λH=>I⟩,⟨11,j,λH=>I⟩,⟨12,l,λH=>I⟩,⟨13,m,λH=>aI P H 3 l.val⟩,⟨14,p,λH=>I⟩,⟨15,s,λH=>I⟩,⟨16,t,λH=>I⟩,⟨17,.pure aP,λH=>I⟩,⟨18,.pure aP,λH=>I⟩] a then(D (aP,(t.heap (s.heap (p.heap (m.heap (l.heap (j.heap (h.heap (g.heap (f.heap (e.heap (c.heap (d.heap (b.heap k)))))))))))))))else I) (aU (bm P .eql 3 C n (J X 2)) λcj=>dF (D cj) (aU (aI P a 46 i) λck=>aU (aI P a 46 x8) λcl=>aU (bm P .neq 46 Z ck cl) λaQ=>bQ aQ C a (qr (aI P a 46 i)) λcn k=>bQ aQ C k (λq=>dD k (G 50 [cn] k) q) λco aa=>aU (da aQ (D co) (D (A Z))) λcp=>D (cp,aa)) (aU (bm P .eql 3 C n (J X 3)) λcq=>dF (D cq) (aU (aI P a 46 i) λcr=>aU (aI P a 46 x8) λcs=>aU (bm P .neq 46 Z cr cs) λaq=>bQ aq C a (qr (aI P a 46 i)) λct k=>bQ aq C k (qr (aI P k 46 x10)) λcu aa=>bQ aq C aa (b2 (bm P .eql 46 Z ct cu)) λcv ar=>aU (da aq (D cv) (D (A Z))) λcw=>D (cw,ar)) (aU (bm P .eql 3 C n (J X 4)) λcx=>dF (D cx) (aU (bN P 89 x5 4) λx87=>aU (aI P a 3 x87) λx88=>aU (aI P a 46 i) λx89=>aU (aI P a 46 x10) λcy=>aU (aI P a 46 x11) λcz=>dW a (G 106 [x88,x89,cy,cz] a) λcA k=>D (cA,k)) (aU (bm P .eql 3 C n (J X 5)) λcB=>dF (D cB) (aU (bN P 89 x5 4) λaR=>aU (aI P a 3 aR) λbk=>aU (bm P .eql 3 C bk (J X 12)) λY=>bX Y C (λq=>dD a (G 104 [] a) q) λb=>bX Y C (qr (aI P (b.heap a) 46 i)) λd=>bX Y C (b2 (bm P .eql 46 Z d.val b.val)) λc=>aU (da Y (D c.val) (D (A Z))) λO=>bX O C (λq=>dD (c.heap (d.heap (b.heap a))) (G 104 [] (c.heap (d.heap (b.heap a)))) q) λe=>bX O C (qr (aI P (e.heap (c.heap (d.heap (b.heap a)))) 46 x10)) λf=>bX O C (b2 (bm P .eql 46 Z f.val e.val)) λg=>aU (da O (D g.val) (D (A Z))) λu=>bX u Z (b2 (bN P 89 x5 4)) λh=>bX u Z (qr (aI P (h.heap (g.heap (f.heap (e.heap (c.heap (d.heap (b.heap a))))))) 3 h.val)) λj=>bX u Z (b2 (bm P .eql 3 C j.val (J X 13))) λl=>bX u Z (gz l.val) λm=>bX m.val C (λq=>dD (m.heap (l.heap (j.heap (h.heap (g.heap (f.heap (e.heap (c.heap (d.heap (b.heap a)))))))))) (G 105 [] (m.heap (l.heap (j.heap (h.heap (g.heap (f.heap (e.heap (c.heap (d.heap (b.heap a))))))))))) q) λp=>bX m.val C (qr (aI P (p.heap (m.heap (l.heap (j.heap (h.heap (g.heap (f.heap (e.heap (c.heap (d.heap (b.heap a))))))))))) 46 i)) λs=>bX m.val C (b2 (bm P .eql 46 Z s.val p.val)) λt=>bX u Z (b2 (da m.val (D t.val) (D (A Z)))) λM=>bX u Z (gz M.val) λx=>bX x.val C (λq=>dD (x.heap (M.heap (t.heap (s.heap (p.heap (m.heap (l.heap (j.heap (h.heap (g.heap (f.heap (e.heap (c.heap (d.heap (b.heap a))))))))))))))) (G 105 [] (x.heap (M.heap (t.heap (s.heap (p.heap (m.heap (l.heap (j.heap (h.heap (g.heap (f.heap (e.heap (c.heap (d.heap (b.heap a)))))))))))))))) q) λad=>bX x.val C (qr (aI P (ad.heap (x.heap (M.heap (t.heap (s.heap (p.heap (m.heap (l.heap (j.heap (h.heap (g.heap (f.heap (e.heap (c.heap (d.heap (b.heap a)))))))))))))))) 46 x10)) λax=>bX x.val C (b2 (bm P .eql 46 Z ax.val ad.val)) λay=>bX u Z (b2 (da x.val (D ay.val) (D (A Z)))) λaz=>aU (da u (D (A C)) (D az.val)) λaA=>bif iJ [0,1,3,7,15,15,63,127,255,511,511,2047,4095,8191,16383,32767,65535,131071,262143,262143,1048575,2097151,4194303,8388607,8388607,33554431,67108863,134217727,268435455] [0,1,2,3,5,6,7,8,10,11,12,13,14,15,16,17,19,20,21,22,24,25,26,27,28] [⟨0,.pure aR,λH=>I⟩,⟨1,.read bk,λH=>aI P H 3 aR⟩,⟨2,.pure Y,λH=>I⟩,⟨3,.pure Y,λH=>I⟩,⟨5,b,λH=>I⟩,⟨4,d,λH=>aI P H 46 i⟩,⟨6,c,λH=>I⟩,⟨7,.pure O,λH=>I⟩,⟨8,.pure O,λH=>I⟩,⟨10,e,λH=>I⟩,⟨9,f,λH=>aI P H 46 x10⟩,⟨11,g,λH=>I⟩,⟨12,.pure u,λH=>I⟩,⟨13,.pure u,λH=>I⟩,⟨14,h,λH=>I⟩,⟨15,j,λH=>aI P H 3 h.val⟩,⟨16,l,λH=>I⟩,⟨17,m,λH=>I⟩,⟨19,p,λH=>I⟩,⟨18,s,λH=>aI P H 46 i⟩,⟨20,t,λH=>I⟩,⟨21,M,λH=>I⟩,⟨22,x,λH=>I⟩,⟨24,ad,λH=>I⟩,⟨23,ax,λH=>aI P H 46 x10⟩,⟨25,ay,λH=>I⟩,⟨26,az,λH=>I⟩,⟨27,.pure aA,λH=>I⟩,⟨28,.pure aA,λH=>I⟩] a then(D (aA,(az.heap (ay.heap (ax.heap (ad.heap (x.heap (M.heap (t.heap (s.heap (p.heap (m.heap (l.heap (j.heap (h.heap (g.heap (f.heap (e.heap (c.heap (d.heap (b.heap a)))))))))))))))))))))else I) (aU (bm P .eql 3 C n (J X 6)) λbx=>dF (D bx) (aU (aI P a 46 i) λa4=>aU (aI P a 46 x8) λa5=>aU (bm P .neq 46 Z a4 a5) λv=>bX v C (qr (aI P a 27 o)) λb=>bX v C (qr (aI P (b.heap a) 46 x10)) λd=>bX v C (b2 (bN P 89 x5 3)) λc=>bX v C (qr (aI P (c.heap (d.heap (b.heap a))) 3 c.val)) λe=>bX v C (λq=>dD (e.heap (c.heap (d.heap (b.heap a)))) (G 107 [b.val,d.val,e.val] (e.heap (c.heap (d.heap (b.heap a))))) q) λf=>bX v C (qr (aI P (f.heap (e.heap (c.heap (d.heap (b.heap a))))) 46 i)) λg=>bX v C (b2 (bm P .eql 46 Z g.val f.val)) λh=>aU (da v (D h.val) (D (A Z))) λaC=>bif iJ [0,0,3,7,15,15,15,15,143,495,1023,2047,4095] [0,1,2,3,5,6,7,8,9,10,11,12] [⟨0,.read a4,λH=>aI P H 46 i⟩,⟨1,.read a5,λH=>aI P H 46 x8⟩,⟨2,.pure v,λH=>I⟩,⟨3,.pure v,λH=>I⟩,⟨5,b,λH=>aI P H 27 o⟩,⟨6,d,λH=>aI P H 46 x10⟩,⟨7,c,λH=>I⟩,⟨8,e,λH=>aI P H 3 c.val⟩,⟨9,f,λH=>I⟩,⟨4,g,λH=>aI P H 46 i⟩,⟨10,h,λH=>I⟩,⟨11,.pure aC,λH=>I⟩,⟨12,.pure aC,λH=>I⟩] a then(D (aC,(h.heap (g.heap (f.heap (e.heap (c.heap (d.heap (b.heap a)))))))))else I) (aU (bm P .eql 3 C n (J X 7)) λbz=>dF (D bz) (aU (aI P a 46 x10) λa6=>aU (aI P a 46 x8) λa7=>aU (bm P .neq 46 Z a6 a7) λw=>bX w C (qr (aI P a 27 o)) λb=>bX w C (qr (aI P (b.heap a) 46 i)) λd=>bX w C (b2 (bN P 89 x5 3)) λc=>bX w C (qr (aI P (c.heap (d.heap (b.heap a))) 3 c.val)) λe=>bX w C (λq=>dD (e.heap (c.heap (d.heap (b.heap a)))) (G 107 [b.val,d.val,e.val] (e.heap (c.heap (d.heap (b.heap a))))) q) λf=>bX w C (qr (aI P (f.heap (e.heap (c.heap (d.heap (b.heap a))))) 46 x10)) λg=>bX w C (b2 (bm P .eql 46 Z g.val f.val)) λh=>aU (da w (D h.val) (D (A Z))) λaE=>bif iJ [0,0,3,7,15,15,15,15,143,495,1023,2047,4095] [0,1,2,3,5,6,7,8,9,10,11,12] [⟨0,.read a6,λH=>aI P H 46 x10⟩,⟨1,.read a7,λH=>aI P H 46 x8⟩,⟨2,.pure w,λH=>I⟩,⟨3,.pure w,λH=>I⟩,⟨5,b,λH=>aI P H 27 o⟩,⟨6,d,λH=>aI P H 46 i⟩,⟨7,c,λH=>I⟩,⟨8,e,λH=>aI P H 3 c.val⟩,⟨9,f,λH=>I⟩,⟨4,g,λH=>aI P H 46 x10⟩,⟨10,h,λH=>I⟩,⟨11,.pure aE,λH=>I⟩,⟨12,.pure aE,λH=>I⟩] a then(D (aE,(h.heap (g.heap (f.heap (e.heap (c.heap (d.heap (b.heap a)))))))))else I) (aU (bm P .eql 3 C n (J X 8)) λbA=>dF (D bA) (aU (aI P a 46 i) λa8=>aU (aI P a 46 x8) λa9=>aU (bm P .neq 46 Z a8 a9) λR=>bX R C (b2 (bN P 46 x10 2)) λb=>bX R C (qr (aI P (b.heap a) 3 b.val)) λd=>bX R C (b2 (bm P .gtr 3 C d.val (J X 0))) λc=>aU (da R (D c.val) (D (A Z))) λS=>bX S C (λq=>dD (c.heap (d.heap (b.heap a))) (G 104 [] (c.heap (d.heap (b.heap a)))) q) λe=>bX S C (qr (aI P (e.heap (c.heap (d.heap (b.heap a)))) 46 x11)) λf=>bX S C (b2 (bm P .eql 46 Z f.val e.val)) λg=>aU (da S (D g.val) (D (A Z))) λB=>bX B C (qr (aI P (g.heap (f.heap (e.heap (c.heap (d.heap (b.heap a)))))) 46 x10)) λh=>bX B C (λq=>dD (h.heap (g.heap (f.heap (e.heap (c.heap (d.heap (b.heap a))))))) (G 108 [h.val] (h.heap (g.heap (f.heap (e.heap (c.heap (d.heap (b.heap a)))))))) q) λj=>bX B C (qr (aI P (j.heap (h.heap (g.heap (f.heap (e.heap (c.heap (d.heap (b.heap a)))))))) 46 i)) λl=>bX B C (b2 (bm P .eql 46 Z l.val j.val)) λm=>aU (da B (D m.val) (D (A Z))) λaF=>bif iJ [0,0,3,7,15,31,63,127,255,511,511,2047,4095,8191,16383,16383,49151,131071,262143,524287] [0,1,2,3,4,5,6,7,8,10,11,12,13,15,16,17,18,19] [⟨0,.read a8,λH=>aI P H 46 i⟩,⟨1,.read a9,λH=>aI P H 46 x8⟩,⟨2,.pure R,λH=>I⟩,⟨3,.pure R,λH=>I⟩,⟨4,b,λH=>I⟩,⟨5,d,λH=>aI P H 3 b.val⟩,⟨6,c,λH=>I⟩,⟨7,.pure S,λH=>I⟩,⟨8,.pure S,λH=>I⟩,⟨10,e,λH=>I⟩,⟨9,f,λH=>aI P H 46 x11⟩,⟨11,g,λH=>I⟩,⟨12,.pure B,λH=>I⟩,⟨13,.pure B,λH=>I⟩,⟨15,h,λH=>aI P H 46 x10⟩,⟨16,j,λH=>I⟩,⟨14,l,λH=>aI P H 46 i⟩,⟨17,m,λH=>I⟩,⟨18,.pure aF,λH=>I⟩,⟨19,.pure aF,λH=>I⟩] a then(D (aF,(m.heap (l.heap (j.heap (h.heap (g.heap (f.heap (e.heap (c.heap (d.heap (b.heap a))))))))))))else I) (aU (bm P .eql 3 C n (J X 9)) λbB=>dF (D bB) (aU (aI P a 46 x11) λa_=>aU (aI P a 46 x8) λba=>aU (bm P .neq 46 Z a_ ba) λT=>bX T C (b2 (bN P 46 i 2)) λb=>bX T C (qr (aI P (b.heap a) 3 b.val)) λd=>bX T C (b2 (bm P .gtr 3 C d.val (J X 0))) λc=>aU (da T (D c.val) (D (A Z))) λU=>bX U C (λq=>dD (c.heap (d.heap (b.heap a))) (G 104 [] (c.heap (d.heap (b.heap a)))) q) λe=>bX U C (qr (aI P (e.heap (c.heap (d.heap (b.heap a)))) 46 x10)) λf=>bX U C (b2 (bm P .eql 46 Z f.val e.val)) λg=>aU (da U (D g.val) (D (A Z))) λE=>bX E C (qr (aI P (g.heap (f.heap (e.heap (c.heap (d.heap (b.heap a)))))) 46 i)) λh=>bX E C (λq=>dD (h.heap (g.heap (f.heap (e.heap (c.heap (d.heap (b.heap a))))))) (G 108 [h.val] (h.heap (g.heap (f.heap (e.heap (c.heap (d.heap (b.heap a)))))))) q) λj=>bX E C (qr (aI P (j.heap (h.heap (g.heap (f.heap (e.heap (c.heap (d.heap (b.heap a)))))))) 46 x11)) λl=>bX E C (b2 (bm P .eql 46 Z l.val j.val)) λm=>aU (da E (D m.val) (D (A Z))) λaG=>bif iJ [0,0,3,7,15,31,63,127,255,511,511,2047,4095,8191,16383,16383,49151,131071,262143,524287] [0,1,2,3,4,5,6,7,8,10,11,12,13,15,16,17,18,19] [⟨0,.read a_,λH=>aI P H 46 x11⟩,⟨1,.read ba,λH=>aI P H 46 x8⟩,⟨2,.pure T,λH=>I⟩,⟨3,.pure T,λH=>I⟩,⟨4,b,λH=>I⟩,⟨5,d,λH=>aI P H 3 b.val⟩,⟨6,c,λH=>I⟩,⟨7,.pure U,λH=>I⟩,⟨8,.pure U,λH=>I⟩,⟨10,e,λH=>I⟩,⟨9,f,λH=>aI P H 46 x10⟩,⟨11,g,λH=>I⟩,⟨12,.pure E,λH=>I⟩,⟨13,.pure E,λH=>I⟩,⟨15,h,λH=>aI P H 46 i⟩,⟨16,j,λH=>I⟩,⟨14,l,λH=>aI P H 46 x11⟩,⟨17,m,λH=>I⟩,⟨18,.pure aG,λH=>I⟩,⟨19,.pure aG,λH=>I⟩] a then(D (aG,(m.heap (l.heap (j.heap (h.heap (g.heap (f.heap (e.heap (c.heap (d.heap (b.heap a))))))))))))else I) (aU (bm P .eql 3 C n (J X 10)) λbG=>dF (D bG) (dW a (G 104 [] a) λbc k=>aU (aI P k 46 i) λbb=>aU (bm P .eql 46 Z bb bc) λV=>bX V C (b2 (bN P 46 x10 2)) λb=>bX V C (qr (aI P (b.heap k) 3 b.val)) λd=>bX V C (b2 (bm P .gtr 3 C d.val (J X 0))) λc=>aU (da V (D c.val) (D (A Z))) λaH=>bif iJ [0,0,3,7,15,31,63,127,255] [1,2,3,4,5,6,7,8] [⟨1,.cN bc k,λH=>I⟩,⟨0,.read bb,λH=>aI P H 46 i⟩,⟨2,.pure V,λH=>I⟩,⟨3,.pure V,λH=>I⟩,⟨4,b,λH=>I⟩,⟨5,d,λH=>aI P H 3 b.val⟩,⟨6,c,λH=>I⟩,⟨7,.pure aH,λH=>I⟩,⟨8,.pure aH,λH=>I⟩] a then(D (aH,(c.heap (d.heap (b.heap k)))))else I) (aU (bm P .eql 3 C n (J X 11)) λbH=>dF (D bH) (aU (aI P a 46 i) λbI=>aU (aI P a 46 x8) λbJ=>aU (bm P .neq 46 Z bI bJ) λai=>bQ ai C a (b2 (bN P 46 i 0)) λbK k=>bQ ai C k (qr (aI P k 3 bK)) λbM aa=>bQ ai C aa (b2 (bm P .eql 3 C bM (J X 3))) λbO ar=>aU (da ai (D bO) (D (A Z))) λaj=>bQ aj C ar (b2 (bN P 46 i 2)) λbP aY=>bQ aj C aY (qr (aI P aY 3 bP)) λbR bq=>bQ aj C bq (b2 (bm P .eql 3 C bR (J X 0))) λbS aZ=>aU (da aj (D bS) (D (A Z))) λK=>bQ K C aZ (qr (aI P aZ 27 o)) λbT br=>bQ K C br (gz x1) λbV bs=>bQ K C bs (b2 (bN P 89 x5 4)) λbW a0=>bQ K C a0 (qr (aI P a0 3 bW)) λbY a1=>bQ K C a1 (qr (aI P a1 46 i)) λbZ au=>bQ K C au (λq=>dD au (G 109 [bT,bV,bY,bZ] au) q) λb0 bt=>aU (da K (D b0) (D (A Z))) λb1=>D (b1,bt)) (aU (bm P .eql 3 C n (J X 12)) λb3=>dF (D b3) (aU (bN P 46 i 2) λaJ=>aU (aI P a 3 aJ) λbd=>aU (bm P .gtr 3 C bd (J X 0)) λW=>bX W C (λq=>dD a (G 104 [] a) q) λb=>bX W C (qr (aI P (b.heap a) 46 x10)) λd=>bX W C (b2 (bm P .eql 46 Z d.val b.val)) λc=>aU (da W (D c.val) (D (A Z))) λy=>bX y C (qr (aI P (c.heap (d.heap (b.heap a))) 27 o)) λe=>bX y C (gz x1) λf=>bX y C (b2 (bN P 89 x5 4)) λg=>bX y C (qr (aI P (g.heap (f.heap (e.heap (c.heap (d.heap (b.heap a)))))) 3 g.val)) λh=>bX y C (qr (aI P (h.heap (g.heap (f.heap (e.heap (c.heap (d.heap (b.heap a))))))) 46 i)) λj=>bX y C (λq=>dD (j.heap (h.heap (g.heap (f.heap (e.heap (c.heap (d.heap (b.heap a)))))))) (G 109 [e.val,f.val,h.val,j.val] (j.heap (h.heap (g.heap (f.heap (e.heap (c.heap (d.heap (b.heap a))))))))) q) λl=>aU (da y (D l.val) (D (A Z))) λaK=>bif iJ [0,1,3,7,15,15,63,127,255,511,511,511,2559,511,16383,32767,65535] [0,1,2,3,5,6,7,8,9,10,11,12,13,14,15,16] [⟨0,.pure aJ,λH=>I⟩,⟨1,.read bd,λH=>aI P H 3 aJ⟩,⟨2,.pure W,λH=>I⟩,⟨3,.pure W,λH=>I⟩,⟨5,b,λH=>I⟩,⟨4,d,λH=>aI P H 46 x10⟩,⟨6,c,λH=>I⟩,⟨7,.pure y,λH=>I⟩,⟨8,.pure y,λH=>I⟩,⟨9,e,λH=>aI P H 27 o⟩,⟨10,f,λH=>I⟩,⟨11,g,λH=>I⟩,⟨12,h,λH=>aI P H 3 g.val⟩,⟨13,j,λH=>aI P H 46 i⟩,⟨14,l,λH=>I⟩,⟨15,.pure aK,λH=>I⟩,⟨16,.pure aK,λH=>I⟩] a then(D (aK,(l.heap (j.heap (h.heap (g.heap (f.heap (e.heap (c.heap (d.heap (b.heap a)))))))))))else I) (aU (bm P .eql 3 C n (J X 13)) λb6=>dF (D b6) (aU (aI P a 27 o) λb7=>aU (aI P a 49 x7) λb8=>aU (aI P a 89 x5) λb9=>dW a (G 110 [b7,b8,b9] a) λb_ k=>D (b_,k)) (aU (bm P .eql 3 C n (J X 14)) λbe=>dF (D be) (lJ G o x5 x7 x8 i n be a) (aU (bm P .eql 3 C n (J X 15)) λca=>lJ G o x5 x7 x8 i n ca a)))))))))))))))else I),λN=>H8 (ak (ak (ak (ak (ak (ak ((kf G).2 N) (ak (bD (ak (dp ao (ak (dp ao (ak (dp ao (ak (dp ao (ak (dp ao (ak (dp ao (ak (dp ao (ak (dp ao (ak (dp ao (ak (dp ao (ak (dp ao (ak (dp ao (ak (dp ao (ak ((lJ G).2 N) ao)) ao)) ao)) ao)) ao)) ao)) ao)) ao)) ao)) ao)) ao)) ao)) ao)) ao)) ao)) ao) ao) ao) ao) ao)⟩
def Y1(N:Nat):=g0 Tryz.func51 λG=>(Lh G).2 N
def lH(G:aw):pL 1 3 4 5 6 Tryz.f102 G (·.ag.ag.ag) (bg Tryz.f102) []:=⟨_,λN=>v5 ao⟩
def wL(G:aw):rn 1 3 4 5 6 8 22 Tryz.f102 G (·.ag.ag.ax.ag.ax.ag.ag.ag.ag.ag.ag.ag.ag.ag) (cn (lH G) 1 3 4 5 6) [(0,(cn (lH G) 1 3 4 5 6))]:=⟨_,λN=>kQ ao⟩
def wK(G:aw):rn 1 3 4 5 6 8 19 Tryz.f102 G (·.ag.ag.ax.ag.ax.ag.ag.ag.ag.ag.ag.ag) (cn (lH G) 1 3 4 5 6) [(0,(cn (lH G) 1 3 4 5 6))]:=⟨_,λN=>kQ (dp ao (ak ((wL G).2 N) ao))⟩
def wJ(G:aw):rn 1 3 4 5 6 8 14 Tryz.f102 G (·.ag.ag.ax.ag.ax.ag.ag.ag) (cn (lH G) 1 3 4 5 6) [(0,(cn (lH G) 1 3 4 5 6))]:=⟨_,λN=>kQ (dp ao (ak (dp ao (ak ((wK G).2 N) ao)) ao))⟩
def wI(G:aw):rn 1 3 4 5 6 8 9 Tryz.f102 G (·.ag.ag.ax.ag.ax.ag) (cn (lH G) 1 3 4 5 6) [(0,(cn (lH G) 1 3 4 5 6))]:=⟨_,λN=>kQ (dp ao (ak ((wJ G).2 N) ao))⟩
def wH(G:aw):gM Tryz.f102 G:=⟨_,λN=>t1 (ak (ak (ak ((lH G).2 N) (ak (bD (ak ((wI G).2 N) ao)) ao)) ao) ao)⟩
def Xi(N:Nat):=dZ Tryz.func102 λG=>(wH G).2 N
def wM(G:aw):ev Tryz.f103 G:=⟨_,λN=>t2 ao⟩
def Xj(N:Nat):=dc Tryz.func103 λG=>(wM G).2 N
def KA(G:aw):rp Tryz.f104 G:=⟨_,λN=>t0 ao⟩
def Xk(N:Nat):=Bz Tryz.func104 λG=>(KA G).2 N
def KB(G:aw):rp Tryz.f105 G:=⟨_,λN=>t0 ao⟩
def Xl(N:Nat):=Bz Tryz.func105 λG=>(KB G).2 N
def mf(G:aw):W0 Tryz.f106 G (·.ag.ag) (bg Tryz.f106) []:=⟨_,λN=>v0 ao⟩
def wN(G:aw):nk 5 6 7 61 Tryz.f106 G (·.ag.ax.ag.ax.ag.ag.ag.ag.ag.ag.ag) (bh (mf G)) [(0,(bh (mf G)))]:=⟨_,λN=>mJ ao (x:=trivial)⟩
def qB(G:aw):pL 5 6 7 9 45 Tryz.f106 G (·.ag.ax.ag.ax.ag.ag.ag.ag.ag) (bh (mf G)) [(0,(bh (mf G)))]:=⟨_,λN=>ny (dp ao (ak ((wN G).2 N) ao)) (x:=trivial)⟩
def nW(G:aw):pL 5 6 7 9 29 Tryz.f106 G (·.ag.ax.ag.ax.ag.ag.ag) (bh (mf G)) [(0,(bh (mf G)))]:=⟨_,λN=>ny (dp ao (ak ((qB G).2 N) ao)) (x:=trivial)⟩
def mg(G:aw):pL 5 6 7 9 10 Tryz.f106 G (·.ag.ax.ag.ax.ag) (bh (mf G)) [(0,(bh (mf G)))]:=⟨_,λN=>ny (dp ao (ak ((nW G).2 N) ao)) (x:=trivial)⟩
def KC(G:aw):rq Tryz.f106 G:=⟨_,λN=>t4 (ak (ak ((mf G).2 N) (ak (bD (ak ((mg G).2 N) ao)) ao)) ao)⟩
def Xm(N:Nat):=qx Tryz.func106 λG=>(KC G).2 N
def nX(G:aw):iB Tryz.f107 G:=⟨_,λN=>t3 ao⟩
def Xn(N:Nat):=g0 Tryz.func107 λG=>(nX G).2 N
def KD(G:aw):gM Tryz.f108 G:=⟨_,λN=>t1 ao⟩
def Xo(N:Nat):=dZ Tryz.func108 λG=>(KD G).2 N
def sH(G:aw):rq Tryz.f109 G:=⟨_,λN=>t4 ao⟩
def Xp(N:Nat):=qx Tryz.func109 λG=>(sH G).2 N
def sI(G:aw)(N:Nat):gj 4 5 7 Tryz.f110 G N (·.ag.ag.ag.ag.ag) (bg Tryz.f110) []:=⟨_,mI ao⟩
def wO(G:aw)(N:Nat)(L1:b_):en 4 5 7 8 Tryz.f110 G N (·.ag.ag.ag.ag.ax.ag.ax.ax) (bT L1 4 5 7 8) [(0,(bJ (sI G N) 4 5 7))]:=⟨_,mJ ao⟩
def sJ(G:aw)(N:Nat):Nat->b_
 |0=>fk
 |n+1=>wO G N (sJ G N n)
def o5(G:aw)(N:Nat):oq Tryz.f110 G N:=⟨_,t3 (ak (ak (ak (ak (ak ((sI G N).2) (ak (bD (b3 (λm=>(wO G N (sJ G N m)).2))) ao)) ao) ao) ao) ao)⟩
def Xr(N:Nat):=g0 Tryz.func110 λG=>(o5 G N).2
def Lg(G:aw):gM Tryz.f50 G:=⟨_,λN=>t1 ao⟩
def Y0(N:Nat):=dZ Tryz.func50 λG=>(Lg G).2 N
end
end
section
open Go.a2
set_option maxRecDepth 2000
section
variable {H:ad}{ok:Nat->Prop}
def jf(t:cv)(l:Nat):fe l (cU t)=D (.ptr l 0 0,.row Z 3 [bZ t]):=oA l _ rfl
def jO:W (aQ P aK 104 [] H) λr H'=>r=cU cL/\av H H':=by
 refine Xk 0 ?_;simp-implicitDefEqProofs(disch:=try exact ai)only[KA,Nat.reduceAdd,R];exact aG.2 ⟨rfl,(av.refl _).dQ _⟩
def m6:W (aQ P aK 105 [] H) λr H'=>r=cU dL/\av H H':=by
 refine Xl 0 ?_;simp-implicitDefEqProofs(disch:=try exact ai)only[KB,Nat.reduceAdd,R];exact aG.2 ⟨rfl,(av.refl _).dQ _⟩
def Ka(t:cv):W (aQ P aK 50 [cU t] H) λr H'=>r= A (jM t)/\av H H':=by
 refine Y0 0 ?_;simp-implicitDefEqProofs(disch:=try exact ai)only[Lg,jf,bZ,R];cases a:(t.b==3)with
 |true=>
  simp-implicitDefEqProofs(disch:=try exact ai)only[R];exact aG.2 ⟨by simp[jM,a],(av.refl _).dQ _⟩
 |false=>
  simp-implicitDefEqProofs(disch:=try exact ai)only[R];exact aG.2 ⟨by simp[jM,a],(av.refl _).dQ _⟩
def IA(t:cv)(a:0<t.d)(af:t.d<=1000):W (aQ P aK 108 [cU t] H) λr H'=>r=cU (less t)/\av H H':=by
 refine Xo 0 ?_;simp-implicitDefEqProofs(disch:=try exact ai)only[KD,jf,bZ,Nat.reduceAdd,R,wrap_i64 (show 0<=t.d-1 by omega) aa];exact aG.2 ⟨rfl,((av.refl _).dQ _).dQ _⟩
def dV{x:bj}{a b c d:ae}(af:aO lT H ok x.bV a)(ah:aO eV H ok x.globals b)(an:aO fC H ok x.ay c)(aM:aO lU H ok x.sites d)(m:Int)(l:Nat):fe l (.agg [a,b,c,d,J X m])=D (.ptr l 0 0,.row Z 5 [[a,b,c,d,J X m]]):=
 oA l _ (by have e:=af.one;have f:=ah.one;have g:=an.one;have h:=aM.one;simp[e,f,g,h];rfl)
def FD{c:bH}{v w:ae}(af:aO eV H ok c.vars v)(ah:aO fD H ok c.ins w)(p b r d:Int)(z:Bool)(l:Nat):fe l (.agg [J X p,v,A z,J X b,J X r,J X d,w])=D (.ptr l 0 0,.row Z 7 [[J X p,v,A z,J X b,J X r,J X d,w]]):=
 oA l _ (by have a:=af.one;have e:=ah.one;simp[a,e];exact⟨rfl,rfl,rfl,rfl,rfl⟩)
def vT{x:bj}{v:ae}(aA:cM H ok x v)(t:cv):W (aQ P aK 49 [v,cU t] H) λr H'=>r= A (dE x.bV.length t)/\av H H':=by
 obtain⟨_,rfl,a,b,c,d,rfl,af,ah,an,aM⟩:=aA;refine YY 0 ?_;have e:av H ((H.push (.row Z 5 [[a,b,c,d,J X x.main]])).push (.row Z 3 [[J X t.b,J X t.r,J X t.d]])):=((av.refl _).dQ _).dQ _;simp-implicitDefEqProofs(disch:=try exact ai)only[Lf,jf,bZ,dV af ah an aM,R];unfold dE;by_cases f:t.d<0
 ·simp-implicitDefEqProofs(disch:=try exact ai)only[R,f,decide_true];exact aG.2 ⟨by simp[show¬0<=t.d by omega],e⟩
 ·by_cases g:3<t.d
  ·simp-implicitDefEqProofs(disch:=try exact ai)only[R,f,g,decide_true,decide_false];exact aG.2 ⟨by simp[show¬t.d<=3 by omega],e⟩
  ·simp-implicitDefEqProofs(disch:=try exact ai)only[R,f,g,decide_false];have h:decide (0<=t.d/\t.d<=3)=true:=by simp;omega
   rw[h];cases i:(t.b==1)with
   |true=>
    simp-implicitDefEqProofs(disch:=try exact ai)only[ph,yk,R];exact aG.2 ⟨by simp,e⟩
   |false=>
    simp-implicitDefEqProofs(disch:=try exact ai)only[R];cases j:(t.b==2)with
    |true=>
     simp-implicitDefEqProofs(disch:=try exact ai)only[ph,yk,R];exact aG.2 ⟨by simp,e⟩
    |false=>
     simp-implicitDefEqProofs(disch:=try exact ai)only[ph,yk,R];cases k:(t.b==3)with
     |true=>
      by_cases au:0<=t.r
      ·simp-implicitDefEqProofs(disch:=try exact ai)only[R,au,decide_true,af.len eG];exact aG.2 ⟨by simp,e⟩
      ·simp-implicitDefEqProofs(disch:=try exact ai)only[R,au,decide_false];exact aG.2 ⟨by simp,e⟩
     |false=>
      simp-implicitDefEqProofs(disch:=try exact ai)only[ph,R];exact aG.2 ⟨by simp,e⟩
def Mu{x:bj}{l:List cv}{v:ae}{cs:List ae}{L:Nat}(h:l.length<=1000000000){N:Nat}:∀(j k m:Nat) (H:ad),k+j=l.length->j<m->aO eV H ok l v->H.get L=D (.row Z 5 [cs])->rl H ok x cs->W (tX (aQ P aK) N m v (.ptr L 0 0) (J X k) H) λr H'=>r= A ((l.drop k).all (dE x.bV.length))/\av H H'
 |_,_,0,_,_,hm,_,_,_=>aa
 |0,k,m+1,H,o,_,al,aP,aA=>by
  have f:¬(k:Int)<(l.length:Int):=aa;simp-implicitDefEqProofs(disch:=try exact ai)only[yj,yi,tX,R,al.len cX,f,decide_false];refine aG.2 ⟨?_,av.refl _⟩;rw[List.drop_of_length_le aa];rfl
 |j+1,k,m+1,H,o,hm,al,aP,aA=>by
  have f:(k:Int)<(l.length:Int):=aa;have g:k<l.length:=aa;obtain⟨p,y,s,t,rfl⟩:=al.agg (K:=eV) cX q_ (j:=(k:Int)) (a:=l[k]) aa (by simp[g]);have u:aI P H 27 (.ptr L 0 0)=D (.agg cs):=by
   obtain⟨a,b,c,d,rfl,_⟩:=aA;exact gY (n:=5) (i:=0) (c:=0) aF aF aP rfl bU
  simp-implicitDefEqProofs(disch:=try exact ai)only[yj,yi,tX,aj,aC,br,al.len cX,f,decide_true,s,t,u];refine aZ (vT ⟨cs,rfl,aA⟩ l[k]) ?_;rintro _ H' ⟨rfl,e⟩;refine⟨e.1,?_⟩;rw[List.drop_eq_getElem_cons g,List.all_cons];cases z:dE x.bV.length l[k]with
  |false=>
   simp-implicitDefEqProofs(disch:=try exact ai)only[aj,Bool.not_false];exact aG.2 ⟨by simp,e⟩
  |true=>
   simp-implicitDefEqProofs(disch:=try exact ai)only[aj,aC,Bool.not_true,cq (show k<=1000000000 by omega)];refine(Mu h j (k+1) m H' aa aa (al.aE e) (e.get aP) (aA.keep (.aE e))).mono ?_;rintro r w ⟨rfl,q⟩;exact⟨by simp,e.trans q⟩
def Mv{x:bj}{l:List cv}{v w:ae}(aA:cM H ok x v)(al:aO eV H ok l w)(f:l.length<=1000000000):W (aQ P aK 48 [v,w] H) λr H'=>r= A (l.all (dE x.bV.length))/\av H H':=by
 obtain⟨cs,rfl,aA⟩:=aA;refine YX (l.length+1) ?_;have g:∀n,fe n (.agg cs)=D (.ptr n 0 0,.row Z 5 [cs]):=λn=>by
  obtain⟨a,b,c,d,rfl,af,ah,an,aM⟩:=aA;exact dV af ah an aM _ _
 simp-implicitDefEqProofs(disch:=try exact ai)only[Le,aj,g];have e:=av.push H (.row Z 5 [cs]);refine(Mu f l.length 0 (l.length+1) _ aa aa (al.aE e) (ad.a_ _ _) (aA.keep (.aE e))).mono ?_;rintro r i ⟨rfl,h⟩;exact⟨by simp,e.trans h⟩
end
end
section
open Go.a2
set_option maxRecDepth 2000
section
variable {H:ad}{ok:Nat->Prop}
def yN{H:ad}{t u:cv}{L:Nat}(h:H.get L=D (.row Z 3 [bZ t])):cD P H 46 (.ptr L 0 0) (cU u)=D (H.set L (.row Z 3 [bZ u])):=by
 rw[gf (n:=3) aF h rfl rfl rfl bU];rfl
def sk{c:bH}{v:ae}(aq:Es H ok c v)(i:Int)(x:c.vars.length<=1000000000):W (aQ P aK 103 [v,J X i] H) λr H'=>r=cU (aY c i)/\av H H':=by
 obtain⟨_,rfl,p,w,rfl,af,ah⟩:=aq;refine Xj 0 ?_;have h:=FD af ah c.params c.res.b c.res.r c.res.d c.has;have m:=((av.refl H).dQ (.row Z 7 [[J X c.params,p,A c.has,J X c.res.b,J X c.res.r,J X c.res.d,w]])).dQ (.row Z 3 [bZ bl]);by_cases f:i<0
 ·simp-implicitDefEqProofs(disch:=try exact ai)only[wM,Nat.reduceAdd,R,h,f,decide_true];refine aG.2 ⟨?_,m⟩;rw[aY,fc.2 (.inl f)];rfl
 ·by_cases al:(c.vars.length:Int)<=i
  ·simp-implicitDefEqProofs(disch:=try exact ai)only[wM,Nat.reduceAdd,R,h,f,al,af.len cX,decide_true,decide_false];refine aG.2 ⟨?_,m⟩;rw[aY,fc.2 (.inr al)];rfl
  ·have l:i.toNat<c.vars.length:=aa;obtain⟨L,k,ro,els,q,o,_,g,e,rfl⟩:=af.at_ (K:=eV) cX (j:=i) (a:=c.vars[i.toNat]) aa (by simp[l]);have s:=ad.bE g;have n:H.get L=D (.row ro 3 els):=g;have t:L≠H.next:=aa
   have u:L≠H.next+1:=aa
   rw[bZ]at e;simp-implicitDefEqProofs(disch:=try exact ai)only[wM,Nat.reduceAdd,R,h,f,al,af.len cX,o,n,e,decide_false];refine aG.2 ⟨?_,((av.refl H).dQ _).dQ _⟩;rw[aY,iF aa,List.getElem?_eq_getElem l];rfl
def GU{x:bj}{v:ae}(aA:cM H ok x v)(t:cv)(k:Int):W (aQ P aK 107 [v,cU t,J X k] H) λr H'=>r=cU (eD x t k)/\av H H':=by
 obtain⟨_,rfl,a,b,c,d,rfl,af,ah,an,aM⟩:=aA;refine Xn 0 ?_;have l:=dV af ah an aM x.main;have i:=jf t;rw[bZ]at i;have p:=(((av.refl H).dQ (.row Z 5 [[a,b,c,d,J X x.main]])).dQ (.row Z 3 [[J X t.b,J X t.r,J X t.d]])).dQ (.row Z 3 [bZ bl]);have aH:∀(o:Option cv),o=I->(o.getD bl)=bl:=λo h=>by rw[h];rfl
 cases y:(t.b==3)with
 |false=>
  have f:(t.b != 3)=true:=by simpa using y
  simp-implicitDefEqProofs(disch:=try exact ai)only[nX,Nat.reduceAdd,R,l,i,f];refine aG.2 ⟨?_,p⟩;have:¬t.b=3:=by simpa using y
  rw[eD,lE,if_neg (λh=>this h.1)];rfl
 |true=>
  have f:(t.b != 3)=false:=by simpa using y
  cases z:(t.d==0)with
  |false=>
   have m:(t.d != 0)=true:=by simpa using z
   simp-implicitDefEqProofs(disch:=try exact ai)only[nX,Nat.reduceAdd,R,l,i,f,m];refine aG.2 ⟨?_,p⟩;have:¬t.d=0:=by simpa using z
   rw[eD,lE,if_neg (λh=>this h.2)];rfl
  |true=>
   have m:(t.d != 0)=false:=by simpa using z
   have u:lE x t=dI x.bV t.r:=by rw[lE,if_pos ⟨by simpa using y,by simpa using z⟩]
   by_cases q:t.r<0
   ·simp-implicitDefEqProofs(disch:=try exact ai)only[nX,Nat.reduceAdd,R,l,i,f,m,q,decide_true];refine aG.2 ⟨?_,p⟩;rw[eD,u,fc.2 (.inl q)];rfl
   ·by_cases w:(x.bV.length:Int)<=t.r
    ·simp-implicitDefEqProofs(disch:=try exact ai)only[nX,Nat.reduceAdd,R,l,i,f,m,q,w,af.len eG,decide_true,decide_false];refine aG.2 ⟨?_,p⟩;rw[eD,u,fc.2 (.inr w)];rfl
    ·have S:t.r.toNat<x.bV.length:=aa;have E:dI x.bV t.r=D x.bV[t.r.toNat]:=by rw[iF aa];simp[S]
     obtain⟨L,n,ro,els,ab,Q,_,g,e,s,fv,rfl,az⟩:=af.at_ (K:=lT) eG (j:=t.r) (a:=x.bV[t.r.toNat]) aa (by simp[S]);have aj:=ad.bE g;have M:H.get L=D (.row ro 2 els):=g;have ak:L≠H.next:=aa
     have al:L≠H.next+1:=aa
     have am:L≠H.next+1+1:=aa
     by_cases B:k<0
     ·simp-implicitDefEqProofs(disch:=try exact ai)only[nX,Nat.reduceAdd,R,l,i,f,m,q,w,af.len eG,B,decide_true,decide_false];refine aG.2 ⟨?_,p⟩;rw[eD,u,E,Option.bind_some,fc.2 (.inl B)];rfl
     ·by_cases bR:(x.bV[t.r.toNat].length:Int)<=k
      ·simp-implicitDefEqProofs(disch:=try exact ai)only[nX,Nat.reduceAdd,R,l,i,f,m,q,w,af.len eG,B,bR,Q,M,e,az.len iS,decide_true,decide_false];refine aG.2 ⟨?_,p⟩;rw[eD,u,E,Option.bind_some,fc.2 (.inr bR)];rfl
      ·have O:k.toNat<x.bV[t.r.toNat].length:=aa;obtain⟨L',au,Y,T,ag,V,_,N,G,s2,rfl⟩:=az.at_ (K:=kU) iS (j:=k) (a:=x.bV[t.r.toNat][k.toNat]) aa (by simp[O]);have ao:=ad.bE N;have U:H.get L'=D (.row Y 4 T):=N;have ap:L'≠H.next:=aa
       have aq:L'≠H.next+1:=aa
       have ar:L'≠H.next+1+1:=aa
       rw[bZ]at G;simp-implicitDefEqProofs(disch:=try exact ai)only[nX,Nat.reduceAdd,R,l,i,f,m,q,w,af.len eG,B,bR,Q,M,e,az.len iS,V,U,G,decide_false];refine aG.2 ⟨?_,(((av.refl H).dQ _).dQ _).dQ _⟩;rw[eD,u,E,Option.bind_some,iF aa,List.getElem?_eq_getElem O];rfl
