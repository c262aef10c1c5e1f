/-
  Texts of one proof, laid together: Pe Pf Pg Ph Pj Pq Pt Pu.
-/
import Derived.Test.YtghmbpmaafnodaaDoorMH
set_option linter.unusedVariables false
set_option linter.unusedSimpArgs false
set_option linter.defProp false
open Option renaming some→D
open Bool renaming true→X,false→U
namespace Go.Proofs.YtghmbpmaafnodaaDoor
open Go.b9
def bK(x:aB):bw:= .t ⟨4,x,0,0⟩
def wd(x:aB):bw:= .t ⟨3,x,0,0⟩
def cc(x:aB):bw:= .t ⟨1,x,0,0⟩
def ct:bw:= .b [32]
def nO(x:aB):bw:=bif e1 x then wd x else cc x
def rep(n:Nat)(p:bw):List bw:=List.replicate n p
def ca(x:aB)(z:Int):List bw:=rep z.toNat (bK [91])++nO x::rep z.toNat (bK [93])
def gC(k:Int):aB:=match([[43],[45],[42],[47],[37],[60],[60,61],[61,61],[33,61],[38,38],[124,124]]:List aB)[(k-14).toNat]? with
 |some x=>x
 |none=>[]
def par(c:Bool)(l:List bw):List bw:=bif c then bK [40]::(l++[bK [41]])else l
def fc(m:Nat)(q:Nat×List bw):List bw:=par (decide (q.1<m)) q.2
def eA:List (Nat×List bw)->List bw
 |[]=>[]
 |[q]=>q.2
 |q::r=>q.2++bK [44]::ct::eA r
def gm(a:List (Nat×List bw)):Nat×List bw:=a[0]?.getD (0,[])
def aZ(a:List (Nat×List bw)):Nat×List bw:=a[1]?.getD (0,[])
def kS(a:bM)(c:List (Nat×List bw)):List bw:=
 if a.kind=1 then[.t ⟨2,[],a.n,0⟩]
 else if a.kind=2 then[wd (bif a.n==1 then[116,114,117,101]else[102,97,108,115,101])]
 else if a.kind=3 then wd [110,117,108,108]::ct::ca a.cf a.c3
 else if a.kind=4 then[cc a.name]
 else if a.kind=5 then fc 7 (gm c)++[bK [46],cc a.name]
 else if a.kind=6 then fc 7 (gm c)++bK [91]::((aZ c).2++[bK [93]])
 else if a.kind=7 then cc a.name::bK [40]::(eA c++[bK [41]])
 else if a.kind=8 then[wd [110,101,119],ct,cc a.cf]
 else if a.kind=9 then wd [110,101,119]::ct::bK [91]::(ca a.cf a.c3++bK [93]::bK [40]::((gm c).2++[bK [41]]))
 else if a.kind=10 then wd [108,101,110]::bK [40]::((gm c).2++[bK [41]])
 else if a.kind=11 then[wd [114,101,97,100],bK [40],bK [41]]
 else if a.kind=12 then bK [45]::fc 6 (gm c)
 else if a.kind=13 then bK [33]::fc 6 (gm c)
 else fc (c4 a.kind) (gm c)++ct::bK (gC a.kind)::ct::fc (c4 a.kind+1) (aZ c)
mutual
def bl:aJ->List bw
 | .mk a ks=>kS a (c5 ks)
def c5:List aJ->List (Nat×List bw)
 |[]=>[]
 |e::es=>(e.cr,bl e)::c5 es
end
def cl(m:Nat)(e:aJ):List bw:=fc m (e.cr,bl e)
def eJ(a:bM)(ks:List aJ):bl (.mk a ks)=kS a (c5 ks):=by rw[bl]
def r7{m:Nat}{e:aJ}(h:¬e.cr<m):cl m e=bl e:=by unfold cl fc par;rw[decide_eq_false h];rfl
def vx{m:Nat}{e:aJ}(h:e.cr<m):cl m e=bK [40]::(bl e++[bK [41]]):=by unfold cl fc par;rw[decide_eq_true h];rfl
def r6(e:aJ):cl 0 e=bl e:=r7 af
def b9{α:Type}(f:Nat->Option α)(r:α):Prop:=∃N,∀n,N<=n->f n=D r
def b9.step{α:Type}{f g:Nat->Option α}{r:α}(e:∀n,f (n+1)=g n)(h:b9 g r):b9 f r:=by
 obtain⟨N,h⟩:=h;refine⟨N+1,λn a=> ?_⟩;obtain⟨m,rfl⟩:∃m,n=m+1:=⟨n-1,af⟩;rw[e,h m af]
def b9.bind{α β:Type}{f:Nat->Option α}{g:Nat->α->Option β}{p:α}{r:β}(h:b9 f p)(k:b9 (λn=>g n p) r):b9 (λn=>(f n).bind (g n)) r:=by
 obtain⟨N,h⟩:=h;obtain⟨M,k⟩:=k;exact⟨max N M,λn a=>by show(f n).bind (g n)=D r;rw[h n af];exact k n af⟩
def b9.some{α:Type}(r:α):b9 (λ_=>D r) r:=⟨0,λ_ _=>rfl⟩
def b9.eq{α:Type}{f g:Nat->Option α}{r:α}(e:∀n,f n=g n)(h:b9 g r):b9 f r:=by
 obtain⟨N,h⟩:=h;exact⟨N,λn a=>by rw[e,h n a]⟩
def gX(T:List Tok):Int->List Tok->Prop
 |_,[]=>True
 |a,t::r=>ao T a=t/\gX T (a+1) r
def xe{T:List Tok}:∀(l m:List Tok) (a:Int),gX T a (l++m)↔gX T a l/\gX T (a+l.length) m
 |[],m,a=>by simp[gX]
 |t::l,m,a=>by
  rw[List.cons_append,gX,gX,xe l m,List.length_cons,and_assoc];have:a+1+(l.length:Int)=a+((l.length+1:Nat):Int):=af;rw[this]
abbrev st(a o:Int):aq:=⟨a,o,0,0⟩
section
variable {T:List Tok}
def rJ{a o:Int}(c:0<=a)(d:a<=20000000):aC (st a o)=st (a+1) o:=by
 unfold aC st;rw[show jq (a+1)=a+1 from wrap_i64 af af]
def j8{a o:Int}{t:Tok}(h:ao T a=t)(x:aB):aW T (st a o) x=(t.kind==kw x&&t.text==x):=by
 unfold aW b8;rw[h];rfl
def Ih{a o:Int}{x:aB}(h:ao T a=⟨4,x,0,0⟩)(c:kw x=4)(y:aB):aW T (st a o) y=(x==y):=by
 rw[j8 h];by_cases e:x=y
 ·subst e;simp[c]
 ·simp[e]
def Na{a o:Int}{x:aB}{k:Int}{n:Int}(h:ao T a=⟨k,x,n,0⟩)(e:k=kw x)(c:0<=a)(d:a<=20000000):bj T x (st a o)=st (a+1) o:=by
 unfold bj;rw[j8 h,e];simp only[beq_self_eq_true,Bool.and_self,aU];exact rJ c d
def I4{a o:Int}{x:aB}(h:ao T a=⟨1,x,0,0⟩)(c:0<=a)(d:a<=20000000):bp T (st a o)=(x,st (a+1) o):=by
 unfold bp;rw[h,rJ c d];rfl
def A4{a o:Int}{t:Tok}(h:ao T a=t){x:aB}(c:t.kind≠kw x):aW T (st a o) x=false:=by
 rw[j8 h];have:(t.kind==kw x)=false:=by simpa using c
 rw[this,Bool.false_and]
def wD(n:Nat)(x:aB):dJ (rep n (bK x))=List.replicate n ⟨4,x,0,0⟩:=by
 induction n with
 |zero=>rfl
 |succ n a=>unfold rep at a ⊢;rw[List.replicate_succ,bK,dJ,<-bK,a,List.replicate_succ]
def Cr{o:Int}{r:Tok}(e:(r.kind==4&&r.text==[91])=U):∀(k n:Nat) (d a:Int),k<=n->gX T a (List.replicate k ⟨4,[91],0,0⟩)->ao T (a+k)=r->0<=a->a+k<=20000000->ek T n d (st a o)= .inl (d+k,st (a+k) o)
 |0,0,d,a,_,_,c,_,_=>by
  rw[ek,j8 (by simpa using c)];rw[show kw [91]=4 from rfl,e];simp
 |0,n+1,d,a,_,_,c,_,_=>by
  rw[ek,j8 (by simpa using c)];rw[show kw [91]=4 from rfl,e];simp
 |k+1,0,_,_,h,_,_,_,_=>af
 |k+1,n+1,d,a,h,i,c,j,l=>by
  rw[List.replicate_succ,gX]at i;rw[ek,Ih i.1 rfl,beq_self_eq_true,aU,rJ j af,Cr e k n (d+1) (a+1) af i.2 (by rw[<-c];congr 1;omega) af af];rw[show d+1+(k:Int)=d+((k+1:Nat):Int) by omega,show a+1+(k:Int)=a+((k+1:Nat):Int) by omega]
def Er{o:Int}{x:aB}(d:kw x=4):∀(k:Nat) (a:Int),gX T a (List.replicate k ⟨4,x,0,0⟩)->0<=a->a+k<=20000000->takeN T x k (st a o)=st (a+k) o
 |0,a,_,_,_=>by simp[takeN]
 |k+1,a,c,e,h=>by
  rw[List.replicate_succ,gX]at c;rw[takeN,Na c.1 d.symm e af,Er d k (a+1) c.2 af af];rw[show a+1+(k:Int)=a+((k+1:Nat):Int) by omega]
def Nj(x:aB)(z:Int):dJ (ca x z)=List.replicate z.toNat ⟨4,[91],0,0⟩++(⟨bif e1 x then 3 else 1,x,0,0⟩::List.replicate z.toNat ⟨4,[93],0,0⟩):=by
 unfold ca;rw[s7,wD]
 congr 1
 unfold nO;cases e1 x
 ·rw[aO,cc,dJ,wD];rfl
 ·rw[aU,wd,dJ,wD];rfl
def Cc{x:aB}(h:dQ x=X):e1 x=false:=by
 unfold dQ at h;simp only[Bool.and_eq_true,Bool.not_eq_true']at h;exact h.2.2.2.1
def Je{a o z:Int}{x:aB}(h:h7 x z)(d:gX T a (dJ (ca x z)))(k:0<=a)(i:a+(dJ (ca x z)).length<=20000000):b_ T (st a o)=((x,z),st (a+(dJ (ca x z)).length) o):=by
 obtain⟨z0,z3,e⟩:=h;rw[Nj]at d i ⊢;rw[xe,gX,List.length_replicate]at d;simp only[List.length_append,List.length_cons,List.length_replicate]at i ⊢;obtain⟨t1,t2,t3⟩:=d;have l:((⟨bif e1 x then 3 else 1,x,0,0⟩:Tok).kind==4&&(⟨bif e1 x then 3 else 1,x,0,0⟩:Tok).text==[91])=false:=by
  cases e1 x<;>rfl
 unfold b_;rw[Cr l z.toNat 3 0 a af t1 t2 k af];simp only
 unfold eH;have j:(0:Int)+(z.toNat:Int)=z:=af;have c:a+(z.toNat:Int)+1+(z.toNat:Int)=a+((z.toNat+(z.toNat+1):Nat):Int):=af;have g:=rJ (a:=a+z.toNat) (o:=o) af af;have s4:=Er (T:=T) (o:=o) (x:=[93]) rfl z.toNat (a+z.toNat+1) t3 af af;rw[j];rcases e with e|rfl|rfl
 ·have hw:=Cc e;rw[hw,aO]at t2;rw[A4 (x:=[105,110,116]) t2 (show(1:Int)≠3 by decide),A4 (x:=[98,111,111,108]) t2 (show(1:Int)≠3 by decide),I4 t2 af af,Bool.or_self,aO,s4,c]
 ·rw[j8 t2,show(e1 [105,110,116])=X from b1];simp only[aU,show kw [105,110,116]=3 from rfl,beq_self_eq_true,Bool.and_self,Bool.true_or,g,s4,c];rw[t2]
 ·rw[j8 t2,j8 t2,show(e1 [98,111,111,108])=X from b1];simp only[aU,show kw [98,111,111,108]=3 from rfl,beq_self_eq_true,Bool.and_self,Bool.or_true,g,s4,c];rw[t2]
end
section
variable {T:List Tok}
def Stop(lev:Nat)(w:Tok):Prop:=(∀l,lev<=l->l<=4->ez l w=0)/\¬(w.kind=4/\(w.text=[46]\/w.text=[91]))
def Stop.up{l m:Nat}{w:Tok}(h:Stop l w)(hm:l<=m):Stop m w:=⟨λk c a=>h.1 k af a,h.2⟩
def tr(T:List Tok)(e:aJ)(a o bR:Int):Prop:=∀r,b9 (λn=>fm T n e (st bR o)) r->b9 (λn=>jo T n (st a o)) r
def rh(T:List Tok)(lev:Nat)(e:aJ)(a o bR:Int):Prop:=∀r,b9 (λn=>hP T n lev e (st bR o)) r->b9 (λn=>ej T n lev (st a o)) r
def Full(T:List Tok)(lev:Nat)(e:aJ)(a o bR:Int):Prop:=b9 (λn=>ej T n lev (st a o)) (e,st bR o)
def rh.full{lev:Nat}{e:aJ}{a o bR:Int}(h:rh T lev e a o bR)(hw:ez lev (ao T bR)=0):Full T lev e a o bR:=by
 refine h _ (b9.step (g:=λ_=>D (e,st bR o)) (λn=> ?_) (b9.some _));rw[hP];rw[show ez lev (ao T (st bR o).at_)=0 from hw];rfl
def Full.vI{lev:Nat}(d:lev<=4){e:aJ}{a o bR:Int}(h:Full T (lev+1) e a o bR):rh T lev e a o bR:=by
 intro r c;refine b9.step (g:=λn=>(ej T n (lev+1) (st a o)).bind λp=>hP T n lev p.1 p.2) (λn=> ?_) (h.bind c);rw[ej,if_neg af]
def tr.full{e:aJ}{a o bR:Int}(h:tr T e a o bR)(az:Stop 5 (ao T bR)):Full T 5 e a o bR:=by
 refine b9.step (g:=λn=>jo T n (st a o)) (λn=>by rw[ej,if_pos rfl]) (h _ ?_);refine b9.step (g:=λ_=>D (e,st bR o)) (λn=> ?_) (b9.some _);have d:aW T (st bR o) [46]=false:=by
  rw[j8 rfl];cases c:((ao T bR).kind==kw [46]&&(ao T bR).text==[46])with
  |false=>rfl
  |true=>
   simp only[Bool.and_eq_true,beq_iff_eq]at c;exact absurd ⟨c.1,.inl c.2⟩ az.2
 have i:aW T (st bR o) [91]=false:=by
  rw[j8 rfl];cases c:((ao T bR).kind==kw [91]&&(ao T bR).text==[91])with
  |false=>rfl
  |true=>
   simp only[Bool.and_eq_true,beq_iff_eq]at c;exact absurd ⟨c.1,.inr c.2⟩ az.2
 rw[fm,d,i];rfl
structure pG(T:List Tok)(m:Nat)(e:aJ)(a o bR:Int):Prop where
 post:m=7->tr T e a o bR
 full:6<=m->Stop 5 (ao T bR)->Full T 5 e a o bR
 vI:∀lev,lev<=4->lev+1<=max m 1->Stop (lev+1) (ao T bR)->rh T lev e a o bR
def pG.all{m:Nat}{e:aJ}{a o bR:Int}(h:pG T m e a o bR)(az:Stop 0 (ao T bR)):Full T 0 e a o bR:=
 (h.vI 0 af af (az.up af)).full (az.1 0 af af)
def pG.lev{m lev:Nat}{e:aJ}{a o bR:Int}(h:pG T m e a o bR)(d:lev<=5)(hm:lev+1<=m)(az:Stop lev (ao T bR)):Full T lev e a o bR:=by
 by_cases c:lev=5
 ·subst c;exact h.full af az
 ·exact(h.vI lev af af (az.up af)).full (az.1 lev (bf _) af)
def w_(w:Tok):Prop:=(w.kind==4&&w.text==[40])=U
end
section
variable {T:List Tok}
def wW(T:List Tok)(d m:Nat)(e:aJ):Prop:=∀(a o:Int),0<=a->0<=o->o+d<=50->gX T a (dJ (cl m e))->a+((dJ (cl m e)).length:Int)<=20000000->w_ (ao T (a+((dJ (cl m e)).length:Int)))->pG T m e.cH a o (a+((dJ (cl m e)).length:Int))
def wW.whole{d:Nat}{e:aJ}(h:wW T d 0 e){a o bR:Int}(c:0<=a)(l:0<=o)(k:o+d<=50)(m:gX T a (dJ (bl e)))(j:bR=a+((dJ (bl e)).length:Int))(i:bR<=20000000)(hw:w_ (ao T bR))(az:Stop 0 (ao T bR)):Full T 0 e.cH a o bR:=by
 subst j;have:=h a o c l k (by rw[r6];exact m) (by rw[r6];exact i) (by rw[r6];exact hw);rw[r6]at this;exact this.all az
end
section
variable {T:List Tok}
def HT:List aB:=[[116,114,117,101],[102,97,108,115,101],[110,117,108,108],[110,101,119],[108,101,110],[114,101,97,100]]
def AT(t:Tok):Bool:=t.kind==1||(t.kind==2||((t.kind==3&&e5 t.text HT)||(t.kind==4&&e5 t.text [[40],[45],[33]])))
def pD(l:List Tok):Prop:=∃t r,l=t::r/\AT t=X/\t.pos=0
def pD.app{l m:List Tok}(h:pD l):pD (l++m):=by
 obtain⟨t,r,rfl,h⟩:=h;exact⟨t,r++m,rfl,h⟩
def mU(e:aJ):c5 [e]=[(e.cr,bl e)]:=by rw[c5,c5]
def Cy(e f:aJ):c5 [e,f]=[(e.cr,bl e),(f.cr,bl f)]:=by rw[c5,mU]
def qx{k p:Int}(h:14<=k)(a b:aJ):bl (.mk {kind:=k,pos:=p} [a,b])=cl (c4 k) a++ct::bK (gC k)::ct::cl (c4 k+1) b:=by
 rw[eJ,Cy];unfold kS;simp only
 rw[if_neg af,if_neg af,if_neg af,if_neg af,if_neg af,if_neg af,if_neg af,if_neg af,if_neg af,if_neg af,if_neg af,if_neg af,if_neg af];rfl
def qz(x:aB)(p:Int)(e:aJ):bl (.mk {kind:=5,name:=x,pos:=p} [e])=cl 7 e++[bK [46],cc x]:=by rw[eJ,mU];rfl
def qA(p:Int)(e i:aJ):bl (.mk {kind:=6,pos:=p} [e,i])=cl 7 e++bK [91]::(bl i++[bK [93]]):=by rw[eJ,Cy];rfl
def mV{k p:Int}(h:k=12\/k=13)(e:aJ):bl (.mk {kind:=k,pos:=p} [e])=bK (bif k==12 then[45]else[33])::cl 6 e:=by
 rcases h with rfl|rfl<;>(rw[eJ,mU];rfl)
def qy(x:aB)(p:Int)(l:List aJ):bl (.mk {kind:=7,name:=x,pos:=p} l)=cc x::bK [40]::(eA (c5 l)++[bK [41]]):=by rw[eJ];rfl
def qC(x:aB)(z p:Int)(e:aJ):bl (.mk {kind:=9,cf:=x,c3:=z,pos:=p} [e])=wd [110,101,119]::ct::bK [91]::(ca x z++bK [93]::bK [40]::(bl e++[bK [41]])):=by rw[eJ,mU];rfl
def qB(p:Int)(e:aJ):bl (.mk {kind:=10,pos:=p} [e])=wd [108,101,110]::bK [40]::(bl e++[bK [41]]):=by rw[eJ,mU];rfl
end
section
variable {T:List Tok}
end
def pad(deep:Nat):aB:=List.replicate (2*deep) 32
def pr:aB:=[118,97,114]
def pn:aB:=[108,101,116]
def ll:aB:=[105,102]
def q8:aB:=[101,108,115,101]
def ps:aB:=[119,104,105,108,101]
def mi:aB:=[114,101,116,117,114,110]
def po:aB:=[112,114,105,110,116]
def nl:bw:= .b [10]
def ag(es:List aJ):List bw:=match es with
 |e::_=>bl e
 |[]=>[]
def au(es:List aJ):List bw:=match es with
 |_::e::_=>bl e
 |_=>[]
def jK(x:aB)(o:aB)(z:Int):List bw:=cc x::bK [58]::ct::ca o z
def hT(d:aB)(B:List bw):List bw:=ct::bK [123]::nl::(B++[.b d,bK [125]])
def hU(a:bZ)(es:List aJ)(B:List bw)(ce:Bool)(zC:List bw)(d:aB):List bw:=
 if a.kind=1 then wd pr::ct::(jK a.name a.cf a.c3++[bK [59]])
 else if a.kind=2 then wd pn::ct::(jK a.name a.cf a.c3++ct::bK [61]::ct::(ag es++[bK [59]]))
 else if a.kind=3 then cc a.name::ct::bK [61]::ct::(ag es++[bK [59]])
 else if a.kind=4 then ag es++ct::bK [61]::ct::(au es++[bK [59]])
 else if a.kind=7 then wd mi::((match es with
  |e::_=>ct::bl e
  |[]=>[])++[bK [59]])
 else if a.kind=8 then wd po::ct::(ag es++[bK [59]])
 else if a.kind=9 then ag es++[bK [59]]
 else if a.kind=6 then wd ps::ct::(ag es++hT d B)
 else if a.kind=5 then wd ll::ct::(ag es++(hT d B++bif ce then[]else ct::wd q8::hT d zC))
 else[]
mutual
def gx(deep:Nat):bB->List bw
 | .mk a es b c=> .b (pad deep)::(hU a es (cJ (deep+1) b) c.isEmpty (cJ (deep+1) c) (pad deep)++[nl])
def cJ(deep:Nat):List bB->List bw
 |[]=>[]
 |s::r=>gx deep s++cJ deep r
end
section
variable {T:List Tok}
def AU(t:Tok):Bool:=AT t||(t.kind==3&&e5 t.text [pr,pn,ll,ps,mi,po])
def FD(l:List Tok):Prop:=∃t r,l=t::r/\AU t=X
def pD.az{l m:List Tok}(h:pD l):FD (l++m):=by
 obtain⟨t,r,rfl,h,-⟩:=h;exact⟨t,r++m,rfl,by unfold AU;rw[h,Bool.true_or]⟩
end
section
variable {T:List Tok}
end
def q_:aB:=[114,101,99,111,114,100]
def q9:aB:=[103,108,111,98,97,108]
def mh:aB:=[102,117,110,99]
def fM(p:b5):List bw:=jK p.name p.cf p.c3
def eI:List b5->List bw
 |[]=>[]
 |p::r=> .b [32,32]::(fM p++bK [59]::nl::eI r)
def mW:List b5->List bw
 |[]=>[]
 |p::r=>bK [44]::ct::(fM p++mW r)
def gP:List b5->List bw
 |[]=>[]
 |p::r=>fM p++mW r
def r9(r:e3):List bw:=wd q_::ct::cc r.name::ct::bK [123]::nl::(eI r.fields++[bK [125],nl])
def r8(p:b5):List bw:=wd q9::ct::(fM p++[bK [59],nl])
def vy(f:Fn):List bw:=wd mh::ct::cc f.name::bK [40]::(gP f.params++bK [41]::((bif f.has then bK [58]::ct::ca f.dF f.rd else[])++(hT [] (cJ 1 f.body)++[nl])))
inductive eZ where
 |r (x:e3)
 |g (x:b5)
 |f (x:Fn)
def oF:eZ->List bw
 | .r x=>r9 x
 | .g x=>r8 x
 | .f x=>vy x
def cI:List eZ->List bw
 |[]=>[]
 |i::l=>oF i++cI l
def dm.add(g:dm):eZ->dm
 | .r x=>{g with c_:=g.c_++[x]}
 | .g x=>{g with globals:=g.globals++[x]}
 | .f x=>{g with funcs:=g.funcs++[x]}
def dm.tE(g:dm):List eZ->dm
 |[]=>g
 |i::l=>(g.add i).tE l
structure gI(p:b5):Prop where
 n:dQ p.name=true
 o:h7 p.cf p.c3
structure nY(r:e3):Prop where
 n:dQ r.name=true
 l:r.fields.length<=8
 f:∀p∈r.fields,gI p
structure nX(f:Fn):Prop where
 n:dQ f.name=true
 l:f.params.length<=6
 p:∀p∈f.params,gI p
 r:(f.has=true/\h7 f.dF f.rd)\/(f.has=false/\f.dF=[]/\f.rd=0)
 b:∃d:Nat,d+1<=50/\∀s∈f.body,ed d s
section
variable {T:List Tok}
