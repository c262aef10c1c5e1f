/-
  Texts of one proof, laid together: Pe Pf Pg Ph Pj Pq Pt Pu.
-/
import Derived.Test.YtghmbpmaafnodaaDoorMH
set_option linter.unusedVariables false
set_option linter.unusedSimpArgs false
set_option linter.defProp false
open Option renaming some→D
open Bool renaming true→X,false→U
namespace Go.Proofs.YtghmbpmaafnodaaDoor
open Go.bn
def bw(x:aC):bK:= .t ⟨4,x,0,0⟩
def wd(x:aC):bK:= .t ⟨3,x,0,0⟩
def cC(x:aC):bK:= .t ⟨1,x,0,0⟩
def b9:bK:= .b [32]
def re(x:aC):bK:=bif gk x then wd x else cC x
def rep(n:Nat)(p:bK):List bK:=List.replicate n p
def cn(x:aC)(z:Int):List bK:=rep z.toNat (bw [91])++re x::rep z.toNat (bw [93])
def fc(k:Int):aC:=match([[43],[45],[42],[47],[37],[60],[60,61],[61,61],[33,61],[38,38],[124,124]]:List aC)[(k-14).toNat]? with
 |some x=>x
 |none=>[]
def par(c:Bool)(l:List bK):List bK:=bif c then bw [40]::(l++[bw [41]])else l
def gA(m:Nat)(q:Nat×List bK):List bK:=par (decide (q.1<m)) q.2
def en:List (Nat×List bK)->List bK
 |[]=>[]
 |[q]=>q.2
 |q::r=>q.2++bw [44]::b9::en r
def hU(a:List (Nat×List bK)):Nat×List bK:=a[0]?.getD (0,[])
def bb(a:List (Nat×List bK)):Nat×List bK:=a[1]?.getD (0,[])
def mu(a:bU)(c:List (Nat×List bK)):List bK:=
 if a.kind=1 then[.t ⟨2,[],a.n,0⟩]
 else if a.kind=2 then[wd (bif a.n==1 then[116,114,117,101]else[102,97,108,115,101])]
 else if a.kind=3 then wd [110,117,108,108]::b9::cn a.b4 a.cy
 else if a.kind=4 then[cC a.name]
 else if a.kind=5 then gA 7 (hU c)++[bw [46],cC a.name]
 else if a.kind=6 then gA 7 (hU c)++bw [91]::((bb c).2++[bw [93]])
 else if a.kind=7 then cC a.name::bw [40]::(en c++[bw [41]])
 else if a.kind=8 then[wd [110,101,119],b9,cC a.b4]
 else if a.kind=9 then wd [110,101,119]::b9::bw [91]::(cn a.b4 a.cy++bw [93]::bw [40]::((hU c).2++[bw [41]]))
 else if a.kind=10 then wd [108,101,110]::bw [40]::((hU c).2++[bw [41]])
 else if a.kind=11 then[wd [114,101,97,100],bw [40],bw [41]]
 else if a.kind=12 then bw [45]::gA 6 (hU c)
 else if a.kind=13 then bw [33]::gA 6 (hU c)
 else gA (cG a.kind) (hU c)++b9::bw (fc a.kind)::b9::gA (cG a.kind+1) (bb c)
mutual
def aY:aE->List bK
 | .mk a ks=>mu a (cD ks)
def cD:List aE->List (Nat×List bK)
 |[]=>[]
 |e::es=>(e.cc,aY e)::cD es
end
def b_(m:Nat)(e:aE):List bK:=gA m (e.cc,aY e)
def dZ(a:bU)(ks:List aE):aY (.mk a ks)=mu a (cD ks):=by rw[aY]
def mr{m:Nat}{e:aE}(h:¬e.cc<m):b_ m e=aY e:=by unfold b_ gA par;rw[decide_eq_false h];rfl
def qq{m:Nat}{e:aE}(h:e.cc<m):b_ m e=bw [40]::(aY e++[bw [41]]):=by unfold b_ gA par;rw[decide_eq_true h];rfl
def wj(e:aE):b_ 0 e=aY e:=mr ae
def bn{α:Type}(f:Nat->Option α)(r:α):Prop:=∃N,∀n,N<=n->f n=D r
def bn.step{α:Type}{f g:Nat->Option α}{r:α}(e:∀n,f (n+1)=g n)(h:bn g r):bn f r:=by
 obtain⟨N,h⟩:=h;refine⟨N+1,λn a=> ?_⟩;obtain⟨m,rfl⟩:∃m,n=m+1:=⟨n-1,ae⟩;rw[e,h m ae]
def bn.bind{α β:Type}{f:Nat->Option α}{g:Nat->α->Option β}{p:α}{r:β}(h:bn f p)(k:bn (λn=>g n p) r):bn (λn=>(f n).bind (g n)) r:=by
 obtain⟨N,h⟩:=h;obtain⟨M,k⟩:=k;exact⟨max N M,λn a=>by show(f n).bind (g n)=D r;rw[h n ae];exact k n ae⟩
def bn.some{α:Type}(r:α):bn (λ_=>D r) r:=⟨0,λ_ _=>rfl⟩
def bn.eq{α:Type}{f g:Nat->Option α}{r:α}(e:∀n,f n=g n)(h:bn g r):bn f r:=by
 obtain⟨N,h⟩:=h;exact⟨N,λn a=>by rw[e,h n a]⟩
def bV(T:List Tok):Int->List Tok->Prop
 |_,[]=>True
 |a,t::r=>aj T a=t/\bV T (a+1) r
def eK{T:List Tok}:∀(l m:List Tok) (a:Int),bV T a (l++m)↔bV T a l/\bV T (a+l.length) m
 |[],m,a=>by simp[bV]
 |t::l,m,a=>by
  rw[List.cons_append,bV,bV,eK l m,List.length_cons,and_assoc];have:a+1+(l.length:Int)=a+((l.length+1:Nat):Int):=ae;rw[this]
abbrev st(a o:Int):al:=⟨a,o,0,0⟩
section
variable {T:List Tok}
def fu{a o:Int}(c:0<=a)(d:a<=20000000):aw (st a o)=st (a+1) o:=by
 unfold aw st;rw[show e8 (a+1)=a+1 from wrap_i64 ae ae]
def kC{a o:Int}{t:Tok}(h:aj T a=t)(x:aC):aV T (st a o) x=(t.kind==kw x&&t.text==x):=by
 unfold aV bz;rw[h];rfl
def OH{a o:Int}{x:aC}(h:aj T a=⟨4,x,0,0⟩)(c:kw x=4)(y:aC):aV T (st a o) y=(x==y):=by
 rw[kC h];by_cases e:x=y
 ·subst e;simp[c]
 ·simp[e]
def gz{a o:Int}{x:aC}{k:Int}{n:Int}(h:aj T a=⟨k,x,n,0⟩)(e:k=kw x)(c:0<=a)(d:a<=20000000):bh T x (st a o)=st (a+1) o:=by
 unfold bh;rw[kC h,e];simp only[beq_self_eq_true,Bool.and_self,aS];exact fu c d
def qp{a o:Int}{x:aC}(h:aj T a=⟨4,x,0,0⟩)(e:kw x=4)(c:0<=a)(d:a<=20000000)(i:0<=o)(j:o+1<=50):cB T x (st a o)=st (a+1) (o+1):=by
 unfold cB;rw[show decide ((50:Int)<=(st a o).bk)=U from decide_eq_false (by show¬(50:Int)<=o;omega),Bool.and_false,aN,gz h e.symm c d];unfold e0 st;rw[show e8 (o+1)=o+1 from wrap_i64 ae ae]
def Hr{a o:Int}(c:0<=o)(d:o<=50):dU (st a (o+1))=st a o:=by
 unfold dU st;rw[show e8 (o+1-1)=o from by rw[show o+1-1=o by omega];exact wrap_i64 ae ae]
def rG{a o:Int}{x:aC}(h:aj T a=⟨4,x,0,0⟩)(j:kw x=4)(c:0<=a)(d:a<=20000000)(e:0<=o)(i:o<=50):dh T x (st a (o+1))=st (a+1) o:=by
 unfold dh;rw[gz h j.symm c d,Hr e i]
def oP{a o:Int}{x:aC}(h:aj T a=⟨1,x,0,0⟩)(c:0<=a)(d:a<=20000000):bA T (st a o)=(x,st (a+1) o):=by
 unfold bA;rw[h,fu c d];rfl
def vG{a o:Int}{t:Tok}(h:aj T a=t){x:aC}(c:t.kind≠kw x):aV T (st a o) x=false:=by
 rw[kC h];have:(t.kind==kw x)=false:=by simpa using c
 rw[this,Bool.false_and]
def A1(n:Nat)(x:aC):aP (rep n (bw x))=List.replicate n ⟨4,x,0,0⟩:=by
 induction n with
 |zero=>rfl
 |succ n a=>unfold rep at a ⊢;rw[List.replicate_succ,bw,aP,<-bw,a,List.replicate_succ]
def Hh{o:Int}{r:Tok}(e:(r.kind==4&&r.text==[91])=U):∀(k n:Nat) (d a:Int),k<=n->bV T a (List.replicate k ⟨4,[91],0,0⟩)->aj T (a+k)=r->0<=a->a+k<=20000000->fb T n d (st a o)= .inl (d+k,st (a+k) o)
 |0,0,d,a,_,_,c,_,_=>by
  rw[fb,kC (by simpa using c)];rw[show kw [91]=4 from rfl,e];simp
 |0,n+1,d,a,_,_,c,_,_=>by
  rw[fb,kC (by simpa using c)];rw[show kw [91]=4 from rfl,e];simp
 |k+1,0,_,_,h,_,_,_,_=>ae
 |k+1,n+1,d,a,h,i,c,j,l=>by
  rw[List.replicate_succ,bV]at i;rw[fb,OH i.1 rfl,beq_self_eq_true,aS,fu j ae,Hh e k n (d+1) (a+1) ae i.2 (by rw[<-c];congr 1;omega) ae ae];rw[show d+1+(k:Int)=d+((k+1:Nat):Int) by omega,show a+1+(k:Int)=a+((k+1:Nat):Int) by omega]
def JZ{o:Int}{x:aC}(d:kw x=4):∀(k:Nat) (a:Int),bV T a (List.replicate k ⟨4,x,0,0⟩)->0<=a->a+k<=20000000->takeN T x k (st a o)=st (a+k) o
 |0,a,_,_,_=>by simp[takeN]
 |k+1,a,c,e,h=>by
  rw[List.replicate_succ,bV]at c;rw[takeN,gz c.1 d.symm e ae,JZ d k (a+1) c.2 ae ae];rw[show a+1+(k:Int)=a+((k+1:Nat):Int) by omega]
def UZ(x:aC)(z:Int):aP (cn x z)=List.replicate z.toNat ⟨4,[91],0,0⟩++(⟨bif gk x then 3 else 1,x,0,0⟩::List.replicate z.toNat ⟨4,[93],0,0⟩):=by
 unfold cn;rw[dQ,A1]
 congr 1
 unfold re;cases gk x
 ·rw[aN,cC,aP,A1];rfl
 ·rw[aS,wd,aP,A1];rfl
def G0{x:aC}(h:ek x=X):gk x=false:=by
 unfold ek at h;simp only[Bool.and_eq_true,Bool.not_eq_true']at h;exact h.2.2.2.1
def wh{a o z:Int}{x:aC}(h:iv x z)(d:bV T a (aP (cn x z)))(k:0<=a)(i:a+(aP (cn x z)).length<=20000000):cM T (st a o)=((x,z),st (a+(aP (cn x z)).length) o):=by
 obtain⟨z0,z3,e⟩:=h;rw[UZ]at d i ⊢;rw[eK,bV,List.length_replicate]at d;simp only[List.length_append,List.length_cons,List.length_replicate]at i ⊢;obtain⟨t1,t2,t3⟩:=d;have l:((⟨bif gk x then 3 else 1,x,0,0⟩:Tok).kind==4&&(⟨bif gk x then 3 else 1,x,0,0⟩:Tok).text==[91])=false:=by
  cases gk x<;>rfl
 unfold cM;rw[Hh l z.toNat 3 0 a ae t1 t2 k ae];simp only
 unfold fz;have j:(0:Int)+(z.toNat:Int)=z:=ae;have c:a+(z.toNat:Int)+1+(z.toNat:Int)=a+((z.toNat+(z.toNat+1):Nat):Int):=ae;have g:=fu (a:=a+z.toNat) (o:=o) ae ae;have uY:=JZ (T:=T) (o:=o) (x:=[93]) rfl z.toNat (a+z.toNat+1) t3 ae ae;rw[j];rcases e with e|rfl|rfl
 ·have hw:=G0 e;rw[hw,aN]at t2;rw[vG (x:=[105,110,116]) t2 (show(1:Int)≠3 by decide),vG (x:=[98,111,111,108]) t2 (show(1:Int)≠3 by decide),oP t2 ae ae,Bool.or_self,aN,uY,c]
 ·rw[kC t2,show(gk [105,110,116])=X from aK];simp only[aS,show kw [105,110,116]=3 from rfl,beq_self_eq_true,Bool.and_self,Bool.true_or,g,uY,c];rw[t2]
 ·rw[kC t2,kC t2,show(gk [98,111,111,108])=X from aK];simp only[aS,show kw [98,111,111,108]=3 from rfl,beq_self_eq_true,Bool.and_self,Bool.or_true,g,uY,c];rw[t2]
end
section
variable {T:List Tok}
def Stop(lev:Nat)(w:Tok):Prop:=(∀l,lev<=l->l<=4->eM l w=0)/\¬(w.kind=4/\(w.text=[46]\/w.text=[91]))
def Stop.up{l m:Nat}{w:Tok}(h:Stop l w)(hm:l<=m):Stop m w:=⟨λk c a=>h.1 k ae a,h.2⟩
def lk(T:List Tok)(e:aE)(a o bt:Int):Prop:=∀r,bn (λn=>eU T n e (st bt o)) r->bn (λn=>gj T n (st a o)) r
def tf(T:List Tok)(lev:Nat)(e:aE)(a o bt:Int):Prop:=∀r,bn (λn=>fV T n lev e (st bt o)) r->bn (λn=>dF T n lev (st a o)) r
def Full(T:List Tok)(lev:Nat)(e:aE)(a o bt:Int):Prop:=bn (λn=>dF T n lev (st a o)) (e,st bt o)
def tf.full{lev:Nat}{e:aE}{a o bt:Int}(h:tf T lev e a o bt)(hw:eM lev (aj T bt)=0):Full T lev e a o bt:=by
 refine h _ (bn.step (g:=λ_=>D (e,st bt o)) (λn=> ?_) (bn.some _));rw[fV];rw[show eM lev (aj T (st bt o).at_)=0 from hw];rfl
def Full.o6{lev:Nat}(d:lev<=4){e:aE}{a o bt:Int}(h:Full T (lev+1) e a o bt):tf T lev e a o bt:=by
 intro r c;refine bn.step (g:=λn=>(dF T n (lev+1) (st a o)).bind λp=>fV T n lev p.1 p.2) (λn=> ?_) (h.bind c);rw[dF,if_neg ae]
def Full.down{e:aE}{a o bt:Int}{m:Nat}(ar:Stop m (aj T bt)):∀(k lev:Nat),lev+k<=5->m<=lev->Full T (lev+k) e a o bt->Full T lev e a o bt
 |0,_,_,_,h=>h
 |k+1,lev,c,hm,h=>(Full.o6 ae (Full.down ar k (lev+1) ae ae (by rw[show lev+1+k=lev+(k+1) by omega];exact h))).full (ar.1 lev hm ae)
def lk.full{e:aE}{a o bt:Int}(h:lk T e a o bt)(ar:Stop 5 (aj T bt)):Full T 5 e a o bt:=by
 refine bn.step (g:=λn=>gj T n (st a o)) (λn=>by rw[dF,if_pos rfl]) (h _ ?_);refine bn.step (g:=λ_=>D (e,st bt o)) (λn=> ?_) (bn.some _);have d:aV T (st bt o) [46]=false:=by
  rw[kC rfl];cases c:((aj T bt).kind==kw [46]&&(aj T bt).text==[46])with
  |false=>rfl
  |true=>
   simp only[Bool.and_eq_true,beq_iff_eq]at c;exact absurd ⟨c.1,.inl c.2⟩ ar.2
 have i:aV T (st bt o) [91]=false:=by
  rw[kC rfl];cases c:((aj T bt).kind==kw [91]&&(aj T bt).text==[91])with
  |false=>rfl
  |true=>
   simp only[Bool.and_eq_true,beq_iff_eq]at c;exact absurd ⟨c.1,.inr c.2⟩ ar.2
 rw[eU,d,i];rfl
def lk.Hi{e:aE}{a o bt:Int}(c:aV T (st a o) [45]=U)(d:aV T (st a o) [33]=U)(h:bn (λn=>dY T n (st a o)) (e,st bt o)):lk T e a o bt:=by
 intro r i;refine bn.step (g:=λn=>(dY T n (st a o)).bind λp=>eU T n p.1 p.2) (λn=> ?_) (h.bind i);rw[gj,c,d];rfl
structure ni(T:List Tok)(m:Nat)(e:aE)(a o bt:Int):Prop where
 post:m=7->lk T e a o bt
 full:6<=m->Stop 5 (aj T bt)->Full T 5 e a o bt
 o6:∀lev,lev<=4->lev+1<=max m 1->Stop (lev+1) (aj T bt)->tf T lev e a o bt
def ni.Hk{e:aE}{a o bt:Int}(h:lk T e a o bt)(m:Nat):ni T m e a o bt:=
 ⟨λ_=>h,λ_ ar=>h.full ar,λlev c _ ar=>Full.o6 c (Full.down ar (4-lev) (lev+1) ae (bo _) (by rw[show lev+1+(4-lev)=5 by omega];exact h.full (ar.up ae)))⟩
def ni.all{m:Nat}{e:aE}{a o bt:Int}(h:ni T m e a o bt)(ar:Stop 0 (aj T bt)):Full T 0 e a o bt:=
 (h.o6 0 ae ae (ar.up ae)).full (ar.1 0 ae ae)
def ni.lev{m lev:Nat}{e:aE}{a o bt:Int}(h:ni T m e a o bt)(d:lev<=5)(hm:lev+1<=m)(ar:Stop lev (aj T bt)):Full T lev e a o bt:=by
 by_cases c:lev=5
 ·subst c;exact h.full ae ar
 ·exact(h.o6 lev ae ae (ar.up ae)).full (ar.1 lev (bo _) ae)
def nh(w:Tok):Prop:=(w.kind==4&&w.text==[40])=U
def sW{x:aC}(h:((List.range 5).all λl=>eM l ⟨4,x,0,0⟩==0)=X)(a8:x≠[46]/\x≠[91]):Stop 0 ⟨4,x,0,0⟩:=by
 refine⟨λl _ c=> ?_,λa=> ?_⟩
 ·have:=List.all_eq_true.1 h l (List.mem_range.2 ae);simpa using this
 ·rcases a.2 with h|h
  ·exact a8.1 h
  ·exact a8.2 h
def rV{a o:Int}{t:Tok}(h:aj T a=t)(c:t.kind≠3):∀x,kw x=3->aV T (st a o) x=false:=λx d=>vG h (by rw[d];exact c)
def mi{a o:Int}{t:Tok}(h:aj T a=t)(c:t.kind≠4):∀x,kw x=4->aV T (st a o) x=false:=λx d=>vG h (by rw[d];exact c)
def fO{a o:Int}{t:Tok}(h:aj T a=t){x:aC}(c:t.text≠x):aV T (st a o) x=false:=by
 rw[kC h];have:(t.text==x)=false:=by simpa using c
 rw[this,Bool.and_false]
def eW{a o:Int}{t:Tok}(h:aj T a=t){x:aC}(c:t.kind=kw x)(d:t.text=x):aV T (st a o) x=true:=by
 rw[kC h,c,d];simp
def y3{a o bt:Int}{e:aE}(h:aj T a=⟨4,[40],0,0⟩)(d:0<=a)(l:bt<=20000000)(m:a<=bt)(c:0<=o)(k:o+1<=50)(j:Full T 0 e (a+1) (o+1) bt)(i:aj T bt=⟨4,[41],0,0⟩):bn (λn=>e4 T n (st a o)) (e,st (bt+1) o):=by
 refine bn.step (g:=λn=>(dF T n 0 (st (a+1) (o+1))).bind λp=>D (p.1,dh T [41] p.2)) (λn=> ?_) (j.bind ?_)
 ·rw[e4,qp h rfl d ae c k]
 ·simp only
  rw[rG i rfl ae ae c ae];exact bn.some _
def xm:Stop 0 ⟨4,[41],0,0⟩:=sW (by decide+kernel) aK
def UL:Stop 0 ⟨4,[93],0,0⟩:=sW (by decide+kernel) aK
def UK:Stop 0 ⟨4,[44],0,0⟩:=sW (by decide+kernel) aK
def Qj{a o bt:Int}{e:aE}(h:aj T a=⟨4,[40],0,0⟩)(c:0<=a)(d:bt<=20000000)(i:a<=bt)(l:0<=o)(m:o+1<=50)(k:Full T 0 e (a+1) (o+1) bt)(j:aj T bt=⟨4,[41],0,0⟩):lk T e a o (bt+1):=by
 refine lk.Hi (fO h aK) (fO h aK) (bn.step (g:=λn=>e4 T n (st a o)) (λn=> ?_) (y3 h c d i l m k j));have hw:=rV (o:=o) h aK;rw[dY,hw _ rfl,hw _ rfl,hw _ rfl,hw _ rfl,hw _ rfl,hw _ rfl,eW h rfl rfl,show(aj T (st a o).at_).kind=4 by rw[h]];simp
end
section
variable {T:List Tok}
def hM(T:List Tok)(d m:Nat)(e:aE):Prop:=∀(a o:Int),0<=a->0<=o->o+d<=50->bV T a (aP (b_ m e))->a+((aP (b_ m e)).length:Int)<=20000000->nh (aj T (a+((aP (b_ m e)).length:Int)))->ni T m e.aQ a o (a+((aP (b_ m e)).length:Int))
def mq{x:aC}(h:x≠[40]):nh ⟨4,x,0,0⟩:=by
 unfold nh;have:(x==[40])=false:=by simpa using h
 simp[this]
def hM.lH{d m:Nat}{e:aE}(hm:m<=7)(p:e.cc=7){l:List Tok}(k:aP (aY e)=l)(H:∀(a o:Int),0<=a->0<=o->o+d<=50->bV T a l->a+(l.length:Int)<=20000000->nh (aj T (a+(l.length:Int)))->lk T e.aQ a o (a+(l.length:Int))):hM T d m e:=by
 intro a o i n j h c hw;rw[mr ae,k]at h c hw ⊢;exact ni.Hk (H a o i n j h c hw) m
def hM.whole{d:Nat}{e:aE}(h:hM T d 0 e){a o bt:Int}(c:0<=a)(l:0<=o)(k:o+d<=50)(m:bV T a (aP (aY e)))(j:bt=a+((aP (aY e)).length:Int))(i:bt<=20000000)(hw:nh (aj T bt))(ar:Stop 0 (aj T bt)):Full T 0 e.aQ a o bt:=by
 subst j;have:=h a o c l k (by rw[wj];exact m) (by rw[wj];exact i) (by rw[wj];exact hw);rw[wj]at this;exact this.all ar
def hc(x:aC)(r:List bK):aP (bw x::r)=⟨4,x,0,0⟩::aP r:=rfl
def lW(x:aC)(r:List bK):aP (wd x::r)=⟨3,x,0,0⟩::aP r:=rfl
def xp(x:aC)(r:List bK):aP (cC x::r)=⟨1,x,0,0⟩::aP r:=rfl
def hd(r:List bK):aP (b9::r)=aP r:=rfl
def q9:aP []=[]:=rfl
def hM.par'{d m:Nat}{e:aE}(n:hM T d 0 e)(k:e.cc<m)(hm:m<=7):hM T (d+1) m e:=by
 intro a o i l p c h hw;rw[qq k,hc,dQ,hc,q9]at c h hw ⊢;rw[bV,eK,bV]at c;simp only[List.length_cons,List.length_append,List.length_nil]at h hw ⊢;have j:=n.whole (a:=a+1) (o:=o+1) ae ae ae c.2.1 rfl ae (by rw[c.2.2.1];exact mq aK) (by rw[c.2.2.1];exact xm);have:=Qj c.1 i ae ae l ae j c.2.2.1;rw[show a+(((aP (aY e)).length+(0+1)+1:Nat):Int)=a+1+((aP (aY e)).length:Int)+1 by omega];exact ni.Hk this m
def NA{a o n:Int}(h:aj T a=⟨2,[],n,0⟩)(c:0<=a)(d:a<=20000000):bn (λk=>dY T k (st a o)) (.mk {kind:=1,n:=n} [],st (a+1) o):=
 bn.step (g:=λ_=>D (.mk {kind:=1,n:=n} [],st (a+1) o)) (λk=>by
  rw[dY];simp only[h,fu c d];rfl) (bn.some _)
def qm{a o:Int}{t:Tok}(h:aj T a=t)(c:t.kind≠2):((st a o).an==0&&(aj T (st a o).at_).kind==2)=false:=by
 rw[show aj T (st a o).at_=t from h];have:(t.kind==2)=false:=by simpa using c
 rw[this,Bool.and_false]
def Nt{a o n:Int}{x:aC}(h:aj T a=⟨3,x,0,0⟩)(e:(x=[116,114,117,101]/\n=1)\/(x=[102,97,108,115,101]/\n=0))(c:0<=a)(d:a<=20000000):bn (λk=>dY T k (st a o)) (.mk {kind:=2,n:=n} [],st (a+1) o):=
 bn.step (g:=λ_=>D (.mk {kind:=2,n:=n} [],st (a+1) o)) (λk=>by
  rw[dY,qm h (by show(3:Int)≠2;decide)];rcases e with⟨rfl,rfl⟩|⟨rfl,rfl⟩
  ·rw[eW (x:=[116,114,117,101]) h rfl rfl,Bool.true_or,aS,aN,fu c d];rw[show aj T (st a o).at_=_ from h];rfl
  ·rw[eW (x:=[102,97,108,115,101]) h rfl rfl,Bool.or_true,aS,aN,fu c d];rw[show aj T (st a o).at_=_ from h];rfl) (bn.some _)
def Nv{a o z:Int}{x:aC}(h:aj T a=⟨3,[110,117,108,108],0,0⟩)(i:iv x z)(e:bV T (a+1) (aP (cn x z)))(c:0<=a)(d:a+1+((aP (cn x z)).length:Int)<=20000000):bn (λk=>dY T k (st a o)) (.mk {kind:=3,b4:=x,cy:=z} [],st (a+1+((aP (cn x z)).length:Int)) o):=
 bn.step (g:=λ_=>D (.mk {kind:=3,b4:=x,cy:=z} [],st (a+1+((aP (cn x z)).length:Int)) o)) (λk=>by
  rw[dY,qm h (by show(3:Int)≠2;decide),fO (x:=[116,114,117,101]) h aK,fO (x:=[102,97,108,115,101]) h aK,eW (x:=[110,117,108,108]) h rfl rfl,fu c ae,wh i e ae d];rw[show aj T (st a o).at_=_ from h];rfl) (bn.some _)
def NK{a o:Int}{x:aC}(h:aj T a=⟨1,x,0,0⟩)(d:0<=a)(e:a+1<=20000000)(hw:nh (aj T (a+1))):bn (λk=>dY T k (st a o)) (.mk {kind:=4,name:=x} [],st (a+1) o):=
 bn.step (g:=λ_=>D (.mk {kind:=4,name:=x} [],st (a+1) o)) (λk=>by
  have c:=rV (o:=o) h (by show(1:Int)≠3;decide);have aF:aV T (st (a+1) o) [40]=false:=by rw[kC rfl];exact hw
  rw[dY,qm h (by show(1:Int)≠2;decide),c _ rfl,c _ rfl,c _ rfl,c _ rfl,c _ rfl,c _ rfl,mi (x:=[40]) h (by show(1:Int)≠4;decide) rfl,oP h d ae,aF];rw[show aj T (st a o).at_=_ from h];rfl) (bn.some _)
def Nw{a o:Int}(h:aj T a=⟨3,[114,101,97,100],0,0⟩)(a8:aj T (a+1)=⟨4,[40],0,0⟩)(d:aj T (a+1+1)=⟨4,[41],0,0⟩)(e:0<=a)(j:a+3<=20000000)(c:0<=o)(i:o+1<=50):bn (λk=>dY T k (st a o)) (.mk {kind:=11} [],st (a+3) o):=
 bn.step (g:=λ_=>D (.mk {kind:=11} [],st (a+3) o)) (λk=>by
  rw[dY,qm h (by show(3:Int)≠2;decide),fO (x:=[116,114,117,101]) h aK,fO (x:=[102,97,108,115,101]) h aK,fO (x:=[110,117,108,108]) h aK,fO (x:=[110,101,119]) h aK,fO (x:=[108,101,110]) h aK,eW (x:=[114,101,97,100]) h rfl rfl,fu e ae,qp a8 rfl ae ae c i,rG d rfl ae ae c ae];rw[show aj T (st a o).at_=_ from h,show a+1+1+1=a+3 by omega];rfl) (bn.some _)
def Nu{a o bt:Int}{e:aE}(h:aj T a=⟨3,[108,101,110],0,0⟩)(c:0<=a)(i:a+1<=20000000)(d:bn (λn=>e4 T n (st (a+1) o)) (e,st bt o)):bn (λk=>dY T k (st a o)) (.mk {kind:=10} [e],st bt o):=
 bn.step (g:=λn=>(e4 T n (st (a+1) o)).bind λp=>D (.mk {kind:=10} [p.1],p.2)) (λk=>by
  rw[dY,qm h (by show(3:Int)≠2;decide),fO (x:=[116,114,117,101]) h aK,fO (x:=[102,97,108,115,101]) h aK,fO (x:=[110,117,108,108]) h aK,fO (x:=[110,101,119]) h aK,eW (x:=[108,101,110]) h rfl rfl,fu c ae];rw[show aj T (st a o).at_=_ from h];rfl) (d.bind (bn.some _))
def Eo{a o:Int}{r:aE×al}(h:aj T a=⟨3,[110,101,119],0,0⟩)(c:0<=a)(e:a+1<=20000000)(d:bn (λn=>gb T n 0 (st (a+1) o)) r):bn (λk=>dY T k (st a o)) r:=
 bn.step (g:=λn=>gb T n 0 (st (a+1) o)) (λk=>by
  rw[dY,qm h (by show(3:Int)≠2;decide),fO (x:=[116,114,117,101]) h aK,fO (x:=[102,97,108,115,101]) h aK,fO (x:=[110,117,108,108]) h aK,eW (x:=[110,101,119]) h rfl rfl,fu c ae];rw[show aj T (st a o).at_=_ from h];rfl) d
def NY{a o:Int}{x:aC}(h:aj T a=⟨1,x,0,0⟩)(c:0<=a)(d:a+1<=20000000):bn (λn=>gb T n 0 (st a o)) (.mk {kind:=8,b4:=x} [],st (a+1) o):=
 bn.step (g:=λ_=>D (.mk {kind:=8,b4:=x} [],st (a+1) o)) (λk=>by
  rw[gb,mi (x:=[91]) h (by show(1:Int)≠4;decide) rfl,oP h c ae];rfl) (bn.some _)
def NX{a o z bt:Int}{x:aC}{e:aE}(h:aj T a=⟨4,[91],0,0⟩)(l:iv x z)(j:bV T (a+1) (aP (cn x z)))(d:aj T (a+1+((aP (cn x z)).length:Int))=⟨4,[93],0,0⟩)(c:0<=a)(m:a+1+((aP (cn x z)).length:Int)+1<=20000000)(i:bn (λn=>e4 T n (st (a+1+((aP (cn x z)).length:Int)+1) o)) (e,st bt o)):bn (λn=>gb T n 0 (st a o)) (.mk {kind:=9,b4:=x,cy:=z} [e],st bt o):=
 bn.step (g:=λn=>(e4 T n (st (a+1+((aP (cn x z)).length:Int)+1) o)).bind λp=>D (.mk {kind:=9,b4:=x,cy:=z} [p.1],p.2)) (λk=>by
  rw[gb,eW (x:=[91]) h rfl rfl,aS,fu c ae,wh l j ae ae,gz d rfl ae ae]) (i.bind (bn.some _))
def hV:List aE->List Tok
 |[]=>[]
 |e::es=>⟨4,[44],0,0⟩::(aP (aY e)++hV es)
def J8:∀(es:List aE) (e:aE),aP (en (cD (e::es)))=aP (aY e)++hV es
 |[],e=>by rw[cD,cD,en,hV,List.append_nil]
 |f::es,e=>by
  rw[cD,show cD (f::es)=(f.cc,aY f)::cD es from rfl,en]
  ·rw[dQ,hc,hd,<-show cD (f::es)=(f.cc,aY f)::cD es from rfl,J8 es f,hV]
  ·simp
def Is{a:Int}:∀{es:List aE},bV T a (hV es++[⟨4,[41],0,0⟩])->nh (aj T a)/\Stop 0 (aj T a)
 |[],h=>by
  rw[show hV []++[⟨4,[41],0,0⟩]=[⟨4,[41],0,0⟩]from rfl,bV]at h;rw[h.1];exact⟨mq aK,xm⟩
 |e::es,h=>by
  rw[hV,List.cons_append,bV]at h;rw[h.1];exact⟨mq aK,UK⟩
def B5{d:Nat}{o:Int}(k:0<=o)(q:o+1+d<=50):∀(es acc:List aE) (a:Int),(∀e∈es,hM T d 0 e)->0<=a->bV T a (hV es++[⟨4,[41],0,0⟩])->a+((hV es).length:Int)+1<=20000000->bn (λn=>fi T n acc (st a (o+1))) (acc++dX es,st (a+((hV es).length:Int)+1) o)
 |[],acc,a,_,h,c,i=>by
  have l:aj T a=⟨4,[41],0,0⟩:=by
   rw[show hV []++[⟨4,[41],0,0⟩]=[⟨4,[41],0,0⟩]from rfl,bV]at c;exact c.1
  refine bn.step (g:=λ_=>D (acc,st (a+1) o)) (λn=> ?_) ?_
  ·rw[fi,fO (x:=[44]) l aK,aN,rG l rfl h (by simp only[hV,List.length_nil]at i;omega) k ae]
  ·simp only[hV,dX,List.append_nil,List.length_nil];rw[show a+((0:Nat):Int)+1=a+1 by omega];exact bn.some _
 |e::es,acc,a,j,h,c,i=>by
  rw[hV,List.cons_append,List.append_assoc,bV,eK]at c;simp only[hV,List.length_cons,List.length_append]at i;obtain⟨u,ar⟩:=Is c.2.2;have s:=(j e (List.mem_cons_self)).whole (a:=a+1) (o:=o+1) ae ae ae c.2.1 rfl ae u ar;have m:=B5 k q es (acc++[e.aQ]) (a+1+((aP (aY e)).length:Int)) (λx v=>j x (List.mem_cons_of_mem _ v)) ae c.2.2 ae;refine bn.step (g:=λn=>(dF T n 0 (st (a+1) (o+1))).bind λp=>fi T n (acc++[p.1]) p.2) (λn=> ?_) (s.bind ?_)
  ·rw[fi,eW (x:=[44]) c.1 rfl rfl,aS,fu h ae]
  ·simp only[hV,dX,List.length_cons,List.length_append];rw[List.append_assoc]at m;rw[show a+(((aP (aY e)).length+(hV es).length+1:Nat):Int)+1=a+1+((aP (aY e)).length:Int)+((hV es).length:Int)+1 by omega];exact m
end
section
variable {T:List Tok}
def yV:List aC:=[[116,114,117,101],[102,97,108,115,101],[110,117,108,108],[110,101,119],[108,101,110],[114,101,97,100]]
def rS(t:Tok):Bool:=t.kind==1||(t.kind==2||((t.kind==3&&fx t.text yV)||(t.kind==4&&fx t.text [[40],[45],[33]])))
def om(l:List Tok):Prop:=∃t r,l=t::r/\rS t=X/\t.pos=0
def yW{a o:Int}{t:Tok}(h:aj T a=t)(c:rS t=X){x:aC}(i:kw x=3)(hm:fx x yV=U):aV T (st a o) x=false:=by
 by_cases d:t.kind=3
 ·unfold rS at c;rw[d]at c;simp only[show((3:Int)==1)=U from rfl,show((3:Int)==2)=U from rfl,show((3:Int)==4)=U from rfl,show((3:Int)==3)=X from rfl,Bool.false_or,Bool.true_and,Bool.false_and,Bool.or_false]at c;refine fO h λe=> ?_
  rw[e,hm]at c;cases c
 ·exact rV h d _ i
def yX{a o:Int}{t:Tok}(h:aj T a=t)(c:rS t=X){x:aC}(i:kw x=4)(hm:fx x [[40],[45],[33]]=U):aV T (st a o) x=false:=by
 by_cases d:t.kind=4
 ·unfold rS at c;rw[d]at c;simp only[show((4:Int)==1)=U from rfl,show((4:Int)==2)=U from rfl,show((4:Int)==3)=U from rfl,show((4:Int)==4)=X from rfl,Bool.false_or,Bool.true_and,Bool.false_and,Bool.or_false]at c;refine fO h λe=> ?_
  rw[e,hm]at c;cases c
 ·exact mi h d _ i
def om.app{l m:List Tok}(h:om l):om (l++m):=by
 obtain⟨t,r,rfl,h⟩:=h;exact⟨t,r++m,rfl,h⟩
def rf(a:bU)(ks:List aE){l:List Tok}(h:aP (mu a (cD ks))=l):aP (aY (.mk a ks))=l:=by rw[dZ];exact h
def qu(e:aE):cD [e]=[(e.cc,aY e)]:=by rw[cD,cD]
def Hv(e f:aE):cD [e,f]=[(e.cc,aY e),(f.cc,aY f)]:=by rw[cD,qu]
def oU{k p:Int}(h:14<=k)(a b:aE):aY (.mk {kind:=k,pos:=p} [a,b])=b_ (cG k) a++b9::bw (fc k)::b9::b_ (cG k+1) b:=by
 rw[dZ,Hv];unfold mu;simp only
 rw[if_neg ae,if_neg ae,if_neg ae,if_neg ae,if_neg ae,if_neg ae,if_neg ae,if_neg ae,if_neg ae,if_neg ae,if_neg ae,if_neg ae,if_neg ae];rfl
def oW(x:aC)(p:Int)(e:aE):aY (.mk {kind:=5,name:=x,pos:=p} [e])=b_ 7 e++[bw [46],cC x]:=by rw[dZ,qu];rfl
def oX(p:Int)(e i:aE):aY (.mk {kind:=6,pos:=p} [e,i])=b_ 7 e++bw [91]::(aY i++[bw [93]]):=by rw[dZ,Hv];rfl
def mv{k p:Int}(h:k=12\/k=13)(e:aE):aY (.mk {kind:=k,pos:=p} [e])=bw (bif k==12 then[45]else[33])::b_ 6 e:=by
 rcases h with rfl|rfl<;>(rw[dZ,qu];rfl)
def oV(x:aC)(p:Int)(l:List aE):aY (.mk {kind:=7,name:=x,pos:=p} l)=cC x::bw [40]::(en (cD l)++[bw [41]]):=by rw[dZ];rfl
def oZ(x:aC)(z p:Int)(e:aE):aY (.mk {kind:=9,b4:=x,cy:=z,pos:=p} [e])=wd [110,101,119]::b9::bw [91]::(cn x z++bw [93]::bw [40]::(aY e++[bw [41]])):=by rw[dZ,qu];rfl
def oY(p:Int)(e:aE):aY (.mk {kind:=10,pos:=p} [e])=wd [108,101,110]::bw [40]::(aY e++[bw [41]]):=by rw[dZ,qu];rfl
def zR{m:Nat}{e:aE}(h:om (aP (aY e))):om (aP (b_ m e)):=by
 by_cases a:e.cc<m
 ·rw[qq a,hc];exact⟨_,_,rfl,rfl,rfl⟩
 ·rw[mr a];exact h
def rT{d m:Nat}{e:aE}(h:cA d m e):om (aP (aY e)):=by
 induction h with
 |par _ _ _ a=>exact a
 |int=>rw[dZ];exact⟨_,_,rfl,rfl,rfl⟩
 |bool _ i=>rw[dZ];rcases i with rfl|rfl<;>exact⟨_,_,rfl,rfl,rfl⟩
 |null=>rw[dZ];exact⟨_,_,rfl,rfl,rfl⟩
 |var=>rw[dZ];exact⟨_,_,rfl,rfl,rfl⟩
 |field _ _ _ a=>rw[oW,dQ];exact(zR a).app
 |item _ _ _ a _=>rw[oX,dQ];exact(zR a).app
 |call=>rw[oV];exact⟨_,_,rfl,rfl,rfl⟩
 |new=>rw[dZ];exact⟨_,_,rfl,rfl,rfl⟩
 |make=>rw[oZ];exact⟨_,_,rfl,rfl,rfl⟩
 |len=>rw[oY];exact⟨_,_,rfl,rfl,rfl⟩
 |read=>rw[dZ];exact⟨_,_,rfl,rfl,rfl⟩
 |sign _ c _ _=>
  rw[mv c,hc];rcases c with rfl|rfl<;>exact⟨_,_,rfl,rfl,rfl⟩
 |bin _ c _ _ _ a _=>rw[oU c,dQ];exact(zR a).app
def Uh{k:Int}(h:14<=k)(a8:k<=24):eM (cG k-1) ⟨4,fc k,0,0⟩=k/\Stop (cG k) ⟨4,fc k,0,0⟩/\nh ⟨4,fc k,0,0⟩:=by
 have n:k=14\/k=15\/k=16\/k=17\/k=18\/k=19\/k=20\/k=21\/k=22\/k=23\/k=24:=ae;have key:∀k:Int,(eM (cG k-1) ⟨4,fc k,0,0⟩==k&&((List.range 5).all λl=>decide (l<cG k)||eM l ⟨4,fc k,0,0⟩==0)&&(fc k != [46]&&(fc k != [91]&&fc k != [40])))=X->eM (cG k-1) ⟨4,fc k,0,0⟩=k/\Stop (cG k) ⟨4,fc k,0,0⟩/\nh ⟨4,fc k,0,0⟩:=by
  intro k c;simp only[Bool.and_eq_true,beq_iff_eq,bne_iff_ne]at c;obtain⟨⟨d,e⟩,i,j,m⟩:=c;refine⟨d,⟨λl o p=> ?_,λa=> ?_⟩,mq m⟩
  ·have:=List.all_eq_true.1 e l (List.mem_range.2 ae);simp only[Bool.or_eq_true,decide_eq_true_eq,beq_iff_eq]at this;rcases this with h|h
   ·omega
   ·exact h
  ·rcases a.2 with a|a
   ·exact i a
   ·exact j a
 apply key;rcases n with rfl|rfl|rfl|rfl|rfl|rfl|rfl|rfl|rfl|rfl|rfl<;>decide+kernel
def p6(a:bU):(aE.mk a []).aQ= .mk a.aQ []:=by rw[lv];rfl
def vt(a:bU)(e:aE):(aE.mk a [e]).aQ= .mk a.aQ [e.aQ]:=by rw[lv];rfl
def C7(a:bU)(e f:aE):(aE.mk a [e,f]).aQ= .mk a.aQ [e.aQ,f.aQ]:=by rw[lv];rfl
def ny{a o bt:Int}{t:Tok}{e:aE}(h:aj T a=t)(c:t.kind≠4)(d:bn (λn=>dY T n (st a o)) (e,st bt o)):lk T e a o bt:=
 lk.Hi (mi h c _ rfl) (mi h c _ rfl) d
def Qu{d m:Nat}{e:aE}(h:cA d m e):hM T d m e:=by
 induction h with
 |par _ H hm B=>exact B.par' H hm
 | @int d m n p hm _ _=>
  refine hM.lH hm (show cG 1=7 by decide) (l:=[⟨2,[],n,0⟩]) (rf _ _ rfl) λa o u s w c j _=> ?_
  simp only[bV,List.length_cons,List.length_nil]at c j ⊢;rw[p6];exact ny c.1 (by show(2:Int)≠4;decide) (NA c.1 u ae)
 | @bool d m n p hm N=>
  refine hM.lH hm (show cG 2=7 by decide) (l:=[⟨3,bif n==1 then[116,114,117,101]else[102,97,108,115,101],0,0⟩]) (rf _ _ rfl) λa o u s w c j _=> ?_
  simp only[bV,List.length_cons,List.length_nil]at c j ⊢;rw[p6];refine ny c.1 (by show(3:Int)≠4;decide) (Nt c.1 ?_ u ae);rcases N with rfl|rfl
  ·exact .inr ⟨rfl,rfl⟩
  ·exact .inl ⟨rfl,rfl⟩
 | @null d m x z p hm E=>
  refine hM.lH hm (show cG 3=7 by decide) (l:=⟨3,[110,117,108,108],0,0⟩::aP (cn x z)) (rf _ _ rfl) λa o u s w c j _=> ?_
  simp only[bV,List.length_cons]at c j ⊢;rw[p6,show a+(((aP (cn x z)).length+1:Nat):Int)=a+1+((aP (cn x z)).length:Int) by omega];exact ny c.1 (by show(3:Int)≠4;decide) (Nv (x:=x) (z:=z) c.1 E c.2 u ae)
 | @var d m x p hm E=>
  refine hM.lH hm (show cG 4=7 by decide) (l:=[⟨1,x,0,0⟩]) (rf _ _ rfl) λa o u s w c j hw=> ?_
  simp only[bV,List.length_cons,List.length_nil]at c j hw ⊢;rw[p6];exact ny c.1 (by show(1:Int)≠4;decide) (NK c.1 u ae hw)
 | @field d m x p e hm E _ B=>
  refine hM.lH hm (show cG 5=7 by decide) (l:=aP (b_ 7 e)++[⟨4,[46],0,0⟩,⟨1,x,0,0⟩]) (by rw[oW,dQ];rfl) λa o u s w c j hw=> ?_
  rw[eK]at c;simp only[bV,List.length_append,List.length_cons,List.length_nil]at c j ⊢;obtain⟨t1,t2,t3,-⟩:=c;have P:=(B a o u s w t1 ae (by rw[t2];exact mq aK)).post rfl;rw[vt];intro r G;refine P r (bn.step (λn=> ?_) G);rw[eU,eW (x:=[46]) t2 rfl rfl,aS,fu ae ae,oP t3 ae ae,show aj T (st (a+((aP (b_ 7 e)).length:Int)) o).at_=_ from t2,show a+(((aP (b_ 7 e)).length+(0+1+1):Nat):Int)=a+((aP (b_ 7 e)).length:Int)+1+1 by omega];rfl
 | @item d m p e i hm _ _ ih1 ih2=>
  refine hM.lH hm (show cG 6=7 by decide) (l:=aP (b_ 7 e)++⟨4,[91],0,0⟩::(aP (aY i)++[⟨4,[93],0,0⟩])) (by rw[oX,dQ,hc,dQ];rfl) λa o u s w c j hw=> ?_
  rw[eK,bV,eK]at c;simp only[bV,List.length_append,List.length_cons,List.length_nil]at c j ⊢;obtain⟨t1,t2,t3,t4,-⟩:=c;have P:=(ih1 a o u s w t1 ae (by rw[t2];exact mq aK)).post rfl;have F:=ih2.whole (a:=a+((aP (b_ 7 e)).length:Int)+1) (o:=o+1) ae ae ae t3 rfl ae (by rw[t4];exact mq aK) (by rw[t4];exact UL);rw[C7];intro r G;refine P r (bn.step (g:=λn=>(dF T n 0 (st (a+((aP (b_ 7 e)).length:Int)+1) (o+1))).bind λp=>eU T n (.mk {kind:=6} [e.aQ,p.1]) (dh T [93] p.2)) (λn=> ?_) (F.bind ?_))
  ·rw[eU,fO (x:=[46]) t2 aK,eW (x:=[91]) t2 rfl rfl,aN,aS,qp t2 rfl ae ae s ae,show aj T (st (a+((aP (b_ 7 e)).length:Int)) o).at_=_ from t2]
  ·simp only
   rw[rG t4 rfl ae ae s ae];rw[show a+(((aP (b_ 7 e)).length+((aP (aY i)).length+(0+1)+1):Nat):Int)=a+((aP (b_ 7 e)).length:Int)+1+((aP (aY i)).length:Int)+1 by omega]at G;exact G
 | @call d m x p l hm E H B=>
  refine hM.lH hm (show cG 7=7 by decide) (l:=⟨1,x,0,0⟩::⟨4,[40],0,0⟩::(aP (en (cD l))++[⟨4,[41],0,0⟩])) (by rw[oV,xp,hc,dQ];rfl) λa o u s w c j hw=> ?_
  simp only[bV,List.length_append,List.length_cons,List.length_nil]at c j ⊢;obtain⟨t1,t2,t3⟩:=c;have A:bn (λn=>fN T n (st (a+1) o)) (dX l,st (a+1+1+((aP (en (cD l))).length:Int)+1) o):=by
   cases l with
   |nil=>
    rw[show aP (en (cD []))=[]from rfl]at t3 j ⊢;rw[List.nil_append,bV]at t3;refine bn.step (g:=λ_=>D (dX [],st (a+1+1+(([]:List Tok).length:Int)+1) o)) (λn=> ?_) (bn.some _);simp only[List.length_nil]at j;rw[fN,qp t2 rfl ae ae s ae,eW (x:=[41]) t3.1 rfl rfl,aS,rG t3.1 rfl ae ae s ae];simp[dX]
   |cons e es=>
    rw[J8]at t3 j ⊢;rw[List.append_assoc,eK]at t3;simp only[List.length_append]at j ⊢;obtain⟨N,ar⟩:=Is t3.2;have F:=(B e (List.mem_cons_self)).whole (a:=a+1+1) (o:=o+1) ae ae ae t3.1 rfl ae N ar;have L:=B5 (T:=T) (d:=d) (o:=o) s ae es [e.aQ] (a+1+1+((aP (aY e)).length:Int)) (λy ag=>B y (List.mem_cons_of_mem _ ag)) ae t3.2 ae;obtain⟨t,r,he,W,-⟩:=rT (H e (List.mem_cons_self));have am:aj T (a+1+1)=t:=by
     have:=t3.1;rw[he,bV]at this;exact this.1
    have al:aV T (st (a+1+1) (o+1)) [41]=false:=yX am W rfl aK;refine bn.step (g:=λn=>(dF T n 0 (st (a+1+1) (o+1))).bind λp=>fi T n [p.1] p.2) (λn=> ?_) (F.bind ?_)
    ·rw[fN,qp t2 rfl ae ae s ae,al,aN]
    ·rw[show a+1+1+(((aP (aY e)).length+(hV es).length:Nat):Int)+1=a+1+1+((aP (aY e)).length:Int)+((hV es).length:Int)+1 by omega];exact L
  rw[lv,show a+(((aP (en (cD l))).length+(0+1)+1+1:Nat):Int)=a+1+1+((aP (en (cD l))).length:Int)+1 by omega];refine ny t1 (by show(1:Int)≠4;decide) (bn.step (g:=λn=>(fN T n (st (a+1) o)).bind λp=>D (.mk {kind:=7,name:=x} p.1,p.2)) (λk=> ?_) (A.bind (bn.some _)));have v:=rV (o:=o) t1 (by show(1:Int)≠3;decide);rw[dY,qm t1 (by show(1:Int)≠2;decide),v _ rfl,v _ rfl,v _ rfl,v _ rfl,v _ rfl,v _ rfl,mi (x:=[40]) t1 (by show(1:Int)≠4;decide) rfl,oP t1 u ae,eW (x:=[40]) t2 rfl rfl];rw[show aj T (st a o).at_=_ from t1];rfl
 | @new d m x p hm E=>
  refine hM.lH hm (show cG 8=7 by decide) (l:=[⟨3,[110,101,119],0,0⟩,⟨1,x,0,0⟩]) (rf _ _ rfl) λa o u s w c j hw=> ?_
  simp only[bV,List.length_cons,List.length_nil]at c j ⊢;rw[p6,show a+((0+1+1:Nat):Int)=a+1+1 by omega];exact ny c.1 (by show(3:Int)≠4;decide) (Eo c.1 u ae (NY c.2.1 ae ae))
 | @make d m x z p e hm E _ B=>
  refine hM.lH hm (show cG 9=7 by decide) (l:=⟨3,[110,101,119],0,0⟩::⟨4,[91],0,0⟩::(aP (cn x z)++⟨4,[93],0,0⟩::⟨4,[40],0,0⟩::(aP (aY e)++[⟨4,[41],0,0⟩]))) (by rw[oZ,lW,hd,hc,dQ,hc,hc,dQ];rfl) λa o u s w c j hw=> ?_
  simp only[bV,eK,List.length_append,List.length_cons,List.length_nil]at c j ⊢;obtain⟨t1,t2,t3,t4,t5,t6,t7,-⟩:=c;have F:=B.whole (a:=a+1+1+((aP (cn x z)).length:Int)+1+1) (o:=o+1) ae ae ae t6 rfl ae (by rw[t7];exact mq aK) (by rw[t7];exact xm);rw[vt,show a+(((aP (cn x z)).length+((aP (aY e)).length+(0+1)+1+1)+1+1:Nat):Int)=a+1+1+((aP (cn x z)).length:Int)+1+1+((aP (aY e)).length:Int)+1 by omega];exact ny t1 (by show(3:Int)≠4;decide) (Eo t1 u ae (NX (x:=x) (z:=z) t2 E t3 t4 ae ae (y3 t5 ae ae ae s ae F t7)))
 | @len d m p e hm _ B=>
  refine hM.lH hm (show cG 10=7 by decide) (l:=⟨3,[108,101,110],0,0⟩::⟨4,[40],0,0⟩::(aP (aY e)++[⟨4,[41],0,0⟩])) (by rw[oY,lW,hc,dQ];rfl) λa o u s w c j hw=> ?_
  simp only[bV,eK,List.length_append,List.length_cons,List.length_nil]at c j ⊢;obtain⟨t1,t2,t3,t4,-⟩:=c;have F:=B.whole (a:=a+1+1) (o:=o+1) ae ae ae t3 rfl ae (by rw[t4];exact mq aK) (by rw[t4];exact xm);rw[vt,show a+(((aP (aY e)).length+(0+1)+1+1:Nat):Int)=a+1+1+((aP (aY e)).length:Int)+1 by omega];exact ny t1 (by show(3:Int)≠4;decide) (Nu t1 u ae (y3 t2 ae ae ae s ae F t4))
 | @read d m p hm=>
  refine hM.lH hm (show cG 11=7 by decide) (l:=[⟨3,[114,101,97,100],0,0⟩,⟨4,[40],0,0⟩,⟨4,[41],0,0⟩]) (rf _ _ rfl) λa o u s w c j hw=> ?_
  simp only[bV,List.length_cons,List.length_nil]at c j ⊢;rw[p6,show a+((0+1+1+1:Nat):Int)=a+3 by omega];exact ny c.1 (by show(3:Int)≠4;decide) (Nw c.1 c.2.1 c.2.2.1 u ae s ae)
 | @sign d m k p e hm v _ B=>
  intro a o u s w c j hw;have V:¬(aE.mk {kind:=k,pos:=p} [e]).cc<m:=by
   have:(aE.mk {kind:=k,pos:=p} [e]).cc=6:=by
    rcases v with rfl|rfl
    ·exact(show cG 12=6 by decide)
    ·exact(show cG 13=6 by decide)
   omega
  rw[mr V,mv v,hc]at c j hw ⊢;simp only[bV,List.length_cons]at c j hw ⊢;obtain⟨t1,t2⟩:=c;rw[show a+(((aP (b_ 6 e)).length+1:Nat):Int)=a+1+((aP (b_ 6 e)).length:Int) by omega]at j hw ⊢;have full:Stop 5 (aj T (a+1+((aP (b_ 6 e)).length:Int)))->Full T 5 (aE.mk {kind:=k,pos:=p} [e]).aQ a o (a+1+((aP (b_ 6 e)).length:Int)):=λar=>by
   have F:=(B (a+1) (o+1) ae ae ae t2 j hw).full (bo 6) ar;rw[vt];refine bn.step (g:=λn=>gj T n (st a o)) (λn=>by rw[dF,if_pos rfl]) (bn.step (g:=λn=>hZ T n k (st a o)) (λn=> ?_) (bn.step (g:=λn=>(dF T n 5 (st (a+1) (o+1))).bind λq=>D (.mk {kind:=k} [q.1],dU q.2)) (λn=> ?_) (F.bind ?_)))
   ·rcases v with rfl|rfl
    ·rw[gj,eW (x:=[45]) t1 rfl rfl];rfl
    ·rw[gj,fO (x:=[45]) t1 aK,eW (x:=[33]) t1 rfl rfl];rfl
   ·have E:kw (bif k==12 then[45]else[33])=4:=by rcases v with rfl|rfl<;>rfl
    rw[hZ,show aj T (st a o).at_=_ from t1,qp t1 E u ae s ae]
   ·simp only
    rw[Hr s ae];exact bn.some _
  exact⟨λh=>ae,λ_ ar=>full ar,λlev M _ ar=>Full.o6 M (Full.down ar (4-lev) (lev+1) ae (bo _) (by rw[show lev+1+(4-lev)=5 by omega];exact full (ar.up ae)))⟩
 | @bin d m k p x y hm v O _ _ ah ai=>
  intro a o u s w c j hw;obtain⟨aq,ak⟩:=Pg v O;obtain⟨s1,s2,fX⟩:=Uh v O;have af:¬(aE.mk {kind:=k,pos:=p} [x,y]).cc<m:=by
   show¬cG k<m;omega
  rw[mr af,oU v,dQ,hd,hc,hd]at c j hw ⊢;rw[eK,bV]at c;simp only[List.length_append,List.length_cons]at j hw ⊢;obtain⟨t1,t2,t3⟩:=c;generalize ao:cG k=L at*;rw[show a+(((aP (b_ L x)).length+((aP (b_ (L+1) y)).length+1):Nat):Int)=a+((aP (b_ L x)).length:Int)+1+((aP (b_ (L+1) y)).length:Int) by omega]at j hw ⊢;have an:=ah a o u s ae t1 ae (by rw[t2];exact fX);have Y:=ai (a+((aP (b_ L x)).length:Int)+1) o ae s ae t3 j hw;generalize aP (b_ L x)=K at*;generalize aP (b_ (L+1) y)=Q at*;have ad:Stop L (aj T (a+(K.length:Int)+1+(Q.length:Int)))->tf T (L-1) (aE.mk {kind:=k,pos:=p} [x,y]).aQ a o (a+(K.length:Int)+1+(Q.length:Int)):=λar r G=>by
   have S:=an.o6 (L-1) ae ae (by rw[show L-1+1=L by omega,t2];exact s2);have R:=Y.lev (lev:=L) ak (bo _) ar;rw[C7]at G;refine S r (bn.step (g:=λn=>(dF T n L (st (a+(K.length:Int)+1) o)).bind λq=>fV T n (L-1) (.mk {kind:=k} [x.aQ,q.1]) q.2) (λn=> ?_) (R.bind G));rw[fV,show aj T (st (a+(K.length:Int)) o).at_=_ from t2,s1,show L-1+1=L by omega,fu ae ae];have aa:(k != 0)=true:=by simp only[bne_iff_ne];omega
   rw[aa];rfl
  refine⟨λh=>ae,λh=>ae,λlev M H ar=> ?_⟩;have ab:lev+1<=L:=ae;by_cases ap:lev+1=L
  ·have:=ad (ar.up ae);rw[show L-1=lev by omega]at this;exact this
  ·have F:=(ad (ar.up ab)).full (ar.1 (L-1) ae ae);exact Full.o6 M (Full.down ar (L-1-(lev+1)) (lev+1) ae (bo _) (by rw[show lev+1+(L-1-(lev+1))=L-1 by omega];exact F))
end
section
variable {T:List Tok}
def gH{α β:Type}{x y:Option α}{f g:α->Option β}{r:β}(h:x.bind f=D r)(e:∀p,x=D p->y=D p)(d:∀p,f p=D r->g p=D r):y.bind g=D r:=by
 obtain⟨p,a,c⟩:=dc.1 h;rw[e p a];exact d p c
def fj{α:Type}{c:Bool}{a bt b ct:Option α}{r:α}(h:(bif c then a else b)=D r)(d:a=D r->bt=D r)(e:b=D r->ct=D r):(bif c then bt else ct)=D r:=by
 cases c
 ·exact e h
 ·exact d h
structure Le(T:List Tok)(n:Nat):Prop where
 aq:∀lev s r,dF T n lev s=some r->dF T (n+1) lev s=some r
 aH:∀lev e s r,fV T n lev e s=some r->fV T (n+1) lev e s=some r
 bu:∀s r,gj T n s=some r->gj T (n+1) s=some r
 cq:∀k s r,hZ T n k s=some r->hZ T (n+1) k s=some r
 er:∀e s r,eU T n e s=some r->eU T (n+1) e s=some r
 mc:∀s r,e4 T n s=some r->e4 T (n+1) s=some r
 p2:∀s r,dY T n s=some r->dY T (n+1) s=some r
 nr:∀p s r,gb T n p s=some r->gb T (n+1) p s=some r
 ns:∀s r,fN T n s=some r->fN T (n+1) s=some r
 tx:∀l s r,fi T n l s=some r->fi T (n+1) l s=some r
def GV:∀n,Le T n
 |0=>⟨λ_ _ _ h=>(by rw[dF]at h;cases h),λ_ _ _ _ h=>(by rw[fV]at h;cases h),λ_ _ h=>(by rw[gj]at h;cases h),λ_ _ _ h=>(by rw[hZ]at h;cases h),λ_ _ _ h=>(by rw[eU]at h;cases h),λ_ _ h=>(by rw[e4]at h;cases h),λ_ _ h=>(by rw[dY]at h;cases h),λ_ _ _ h=>(by rw[gb]at h;cases h),λ_ _ h=>(by rw[fN]at h;cases h),λ_ _ _ h=>(by rw[fi]at h;cases h)⟩
 |n+1=>by
  have i:=GV n;refine⟨λlev s r h=> ?_,λlev e s r h=> ?_,λs r h=> ?_,λk s r h=> ?_,λe s r h=> ?_,λs r h=> ?_,λs r h=> ?_,λp s r h=> ?_,λs r h=> ?_,λl s r h=> ?_⟩
  ·rw[dF]at h ⊢;split at h
   ·rename_i a;rw[if_pos a];exact i.bu _ _ h
   ·rename_i a;rw[if_neg a];exact gH h (i.aq _ _) λp=>i.aH _ _ _ _
  ·rw[fV]at h ⊢;exact fj h (λh=>gH h (i.aq _ _) λp=>i.aH _ _ _ _) id
  ·rw[gj]at h ⊢;exact fj h (i.cq _ _ _) λh=>fj h (i.cq _ _ _) λh=>gH h (i.p2 _) λp=>i.er _ _ _
  ·rw[hZ]at h ⊢;exact gH h (i.aq _ _) λp=>id
  ·rw[eU]at h ⊢;exact fj h (i.er _ _ _) λh=>fj h (λh=>gH h (i.aq _ _) λp=>i.er _ _ _) id
  ·rw[e4]at h ⊢;exact gH h (i.aq _ _) λp=>id
  ·rw[dY]at h ⊢;exact fj h id λh=>fj h id λh=>fj h id λh=>fj h (i.nr _ _ _) λh=>fj h (λh=>gH h (i.mc _) λp=>id) λh=>fj h id λh=>fj h (i.mc _ _) λh=>fj h (λh=>gH h (i.ns _) λp=>id) id
  ·rw[gb]at h ⊢;exact fj h (λh=>gH h (i.mc _) λp=>id) id
  ·rw[fN]at h ⊢;exact fj h id λh=>gH h (i.aq _ _) λp=>i.tx _ _ _
  ·rw[fi]at h ⊢;exact fj h (λh=>gH h (i.aq _ _) λp=>i.tx _ _ _) id
structure Ld(T:List Tok)(n:Nat):Prop where
 b:∀s r,ej T n s=some r->ej T (n+1) s=some r
 l:∀l s r,fH T n l s=some r->fH T (n+1) l s=some r
 s:∀s r,hb T n s=some r->hb T (n+1) s=some r
def GU:∀n,Ld T n
 |0=>⟨λ_ _ h=>(by rw[ej]at h;cases h),λ_ _ _ h=>(by rw[fH]at h;cases h),λ_ _ h=>(by rw[hb]at h;cases h)⟩
 |n+1=>by
  have i:=GU n;refine⟨λs r h=> ?_,λl s r h=> ?_,λs r h=> ?_⟩
  ·rw[ej]at h ⊢;exact gH h (i.l _ _) λp=>id
  ·rw[fH]at h ⊢;exact fj h (λh=>gH h (i.s _) λp=>i.l _ _ _) id
  ·rw[hb]at h ⊢;exact gH h (λp h=>fj h id λh=>fj h (λh=>gH h (i.b _) λb h=>fj h (λh=>gH h (i.b _) λc=>id) id) λh=>fj h (λh=>gH h (i.b _) λb=>id) id) λp=>id
def GW:∀(n:Nat) (l:List bB) (s:al) (r:List bB×al),gp T n l s=D r->gp T (n+1) l s=D r
 |0,_,_,_,h=>by rw[gp]at h;cases h
 |n+1,l,s,r,h=>by
  rw[gp]at h ⊢;exact fj h (λh=>fj h id (GW n _ _ _)) id
def GX:∀(n:Nat) (l:List bB) (s:al) (r:List bB×al),e6 T n l s=D r->e6 T (n+1) l s=D r
 |0,_,_,_,h=>by rw[e6]at h;cases h
 |n+1,l,s,r,h=>by
  rw[e6]at h ⊢;exact fj h (λh=>fj h id (GX n _ _ _)) id
def Pu{n:Nat}{s:al}{r:ep×al}(h:iG T n s=D r):iG T (n+1) s=D r:=by
 unfold iG at h ⊢;exact gH h (GW n _ _) λp=>id
def Pt{n:Nat}{s:al}{r:Fn×al}(h:iB T n s=D r):iB T (n+1) s=D r:=by
 unfold iB at h ⊢;exact gH h (GX n _ _) λp h=>gH h ((GU n).b _) λb=>id
def sa:∀(n N:Nat) (g:bE) (s:al) (r:bE×al),eh T N n g s=D r->eh T (N+1) (n+1) g s=D r
 |0,_,_,_,_,h=>by rw[eh]at h;cases h
 |n+1,N,g,s,r,h=>by
  rw[eh]at h ⊢;exact fj h (λh=>fj h (sa n N _ _ _) λh=>fj h (λh=>gH h (λp=>Pu) λp=>sa n N _ _ _) λh=>fj h (sa n N _ _ _) λh=>fj h (λh=>gH h (λp=>Pt) λp=>sa n N _ _ _) (sa n N _ _ _)) id
def GY{α:Type}{f:Nat->Option α}{r:α}(h:∀n,f n=D r->f (n+1)=D r){n:Nat}(a:f n=D r):∀k,f (n+k)=D r
 |0=>a
 |k+1=>h _ (GY h a k)
end
def pad(deep:Nat):aC:=List.replicate (2*deep) 32
def oh:aC:=[118,97,114]
def oe:aC:=[108,101,116]
def lf:aC:=[105,102]
def lY:aC:=[101,108,115,101]
def oi:aC:=[119,104,105,108,101]
def kM:aC:=[114,101,116,117,114,110]
def og:aC:=[112,114,105,110,116]
def nl:bK:= .b [10]
def ag(es:List aE):List bK:=match es with
 |e::_=>aY e
 |[]=>[]
def av(es:List aE):List bK:=match es with
 |_::e::_=>aY e
 |_=>[]
def eX(x:aC)(o:aC)(z:Int):List bK:=cC x::bw [58]::b9::cn o z
def dO(d:aC)(B:List bK):List bK:=b9::bw [123]::nl::(B++[.b d,bw [125]])
def fo(a:b0)(es:List aE)(B:List bK)(ce:Bool)(zC:List bK)(d:aC):List bK:=
 if a.kind=1 then wd oh::b9::(eX a.name a.b4 a.cy++[bw [59]])
 else if a.kind=2 then wd oe::b9::(eX a.name a.b4 a.cy++b9::bw [61]::b9::(ag es++[bw [59]]))
 else if a.kind=3 then cC a.name::b9::bw [61]::b9::(ag es++[bw [59]])
 else if a.kind=4 then ag es++b9::bw [61]::b9::(av es++[bw [59]])
 else if a.kind=7 then wd kM::((match es with
  |e::_=>b9::aY e
  |[]=>[])++[bw [59]])
 else if a.kind=8 then wd og::b9::(ag es++[bw [59]])
 else if a.kind=9 then ag es++[bw [59]]
 else if a.kind=6 then wd oi::b9::(ag es++dO d B)
 else if a.kind=5 then wd lf::b9::(ag es++(dO d B++bif ce then[]else b9::wd lY::dO d zC))
 else[]
mutual
def dL(deep:Nat):bf->List bK
 | .mk a es b c=> .b (pad deep)::(fo a es (bH (deep+1) b) c.isEmpty (bH (deep+1) c) (pad deep)++[nl])
def bH(deep:Nat):List bf->List bK
 |[]=>[]
 |s::r=>dL deep s++bH deep r
end
section
variable {T:List Tok}
def J9(s:aC)(r:List bK):aP (.b s::r)=aP r:=rfl
def uZ(r:List bK):aP (nl::r)=aP r:=rfl
def h2(deep:Nat)(a:b0)(es:List aE)(b c:List bf):aP (dL deep (.mk a es b c))=aP (fo a es (bH (deep+1) b) c.isEmpty (bH (deep+1) c) (pad deep)):=by
 rw[dL,J9,dQ,uZ,q9,List.append_nil]
def A0(x o:aC)(z:Int):aP (eX x o z)=⟨1,x,0,0⟩::⟨4,[58],0,0⟩::aP (cn o z):=rfl
def xq(d:aC)(B:List bK):aP (dO d B)=⟨4,[123],0,0⟩::(aP B++[⟨4,[125],0,0⟩]):=by
 rw[dO,hd,hc,uZ,dQ];rfl
def Nk(i:h3 T){a o bt:Int}{e:aE}(h:Full T 0 e a o bt):bJ T (st a o)=(e,st bt o):=by
 obtain⟨N,h⟩:=h;obtain⟨p,aF⟩:=i (st a o);have c:=GY (f:=λn=>dF T n 0 (st a o)) (λn j=>(GV n).aq _ _ _ j) aF N;rw[show(800000000+N)=N+800000000 from Nat.add_comm _ _]at c;have d:dF T (N+800000000) 0 (st a o)=D (e,st bt o):=h _ ae;rw[d]at c;cases c;unfold bJ;rw[aF]
def sV:Stop 0 ⟨4,[59],0,0⟩:=sW (by decide+kernel) aK
def Jv:Stop 0 ⟨4,[61],0,0⟩:=sW (by decide+kernel) aK
def Ju:Stop 0 ⟨4,[123],0,0⟩:=sW (by decide+kernel) aK
def me(k:h3 T){d:Nat}{e:aE}(h:cA d 0 e){a o:Int}{x:aC}(i:0<=a)(n:0<=o)(l:o+d<=50)(p:bV T a (aP (aY e)))(c:aj T (a+((aP (aY e)).length:Int))=⟨4,x,0,0⟩)(ar:Stop 0 ⟨4,x,0,0⟩)(m:x≠[40])(j:a+((aP (aY e)).length:Int)<=20000000):bJ T (st a o)=(e.aQ,st (a+((aP (aY e)).length:Int)) o):=
 Nk k ((Qu h).whole i n l p rfl j (by rw[c];exact mq m) (by rw[c];exact ar))
def Ba{a o z:Int}{x y:aC}(c:bV T a (aP (eX x y z)))(h:iv y z)(e:0<=a)(d:a+((aP (eX x y z)).length:Int)<=20000000):dd T (st a o)=((x,(y,z)),st (a+((aP (eX x y z)).length:Int)) o):=by
 rw[A0]at c d ⊢;simp only[bV,List.length_cons]at c d ⊢;obtain⟨t1,t2,t3⟩:=c;unfold dd;rw[oP t1 e ae];simp only
 rw[gz t2 rfl ae ae,wh h t3 ae ae];rw[show a+1+1+((aP (cn y z)).length:Int)=a+(((aP (cn y z)).length+1+1:Nat):Int) by omega]
def xP(T:List Tok)(d:Nat)(s:bf):Prop:=∀(deep:Nat) (a o:Int),0<=a->0<=o->o+d<=50->bV T a (aP (dL deep s))->a+((aP (dL deep s)).length:Int)<=20000000->aV T (st (a+((aP (dL deep s)).length:Int)) o) lY=U->bn (λn=>hb T n (st a o)) (s.aQ,st (a+((aP (dL deep s)).length:Int)) o)
def vD(t:Tok):Bool:=rS t||(t.kind==3&&fx t.text [oh,oe,lf,oi,kM,og])
def u6(l:List Tok):Prop:=∃t r,l=t::r/\vD t=X
def om.ar{l m:List Tok}(h:om l):u6 (l++m):=by
 obtain⟨t,r,rfl,h,-⟩:=h;exact⟨t,r++m,rfl,by unfold vD;rw[h,Bool.true_or]⟩
def Oi{d:Nat}{s:bf}(h:ez d s)(deep:Nat):u6 (aP (dL deep s)):=by
 cases h with
 |var=>rw[h2];exact⟨_,_,rfl,rfl⟩
 |lets=>rw[h2];exact⟨_,_,rfl,rfl⟩
 |set=>rw[h2];exact⟨_,_,rfl,rfl⟩
 |put _ he _=>rw[h2];show u6 (aP (aY _++_));rw[dQ];exact(rT he).ar
 |ifs=>rw[h2];exact⟨_,_,rfl,rfl⟩
 | «while» =>rw[h2];exact⟨_,_,rfl,rfl⟩
 |my=>rw[h2];exact⟨_,_,rfl,rfl⟩
 |mz=>rw[h2];exact⟨_,_,rfl,rfl⟩
 |print=>rw[h2];exact⟨_,_,rfl,rfl⟩
 |call _ he=>rw[h2];show u6 (aP (aY _++_));rw[dQ];exact(rT he).ar
def Oh{a o:Int}{t:Tok}(h:aj T a=t)(d:vD t=X):aV T (st a o) [125]=U/\aV T (st a o) lY=false:=by
 unfold vD at d;rcases Bool.or_eq_true_iff.1 d with c|c
 ·exact⟨yX h c rfl aK,yW h c rfl aK⟩
 ·simp only[Bool.and_eq_true,beq_iff_eq]at c;refine⟨mi h ae _ rfl,fO h λe=> ?_⟩;rw[e]at c;exact absurd c.2 aK
def Jr{d:Nat}{deep:Nat}{o a:Int}:∀{l:List bf},(∀s∈l,ez d s)->bV T a (aP (bH deep l)++[⟨4,[125],0,0⟩])->aV T (st a o) lY=U/\(l≠[]->aV T (st a o) [125]=U)
 |[],_,h=>by
  rw[bH,q9,List.nil_append,bV]at h;exact⟨rV h.1 (by show(4:Int)≠3;decide) _ rfl,λh=>absurd rfl h⟩
 |s::r,hw,h=>by
  obtain⟨t,q,e,c⟩:=Oi (hw s (List.mem_cons_self)) deep;rw[bH,dQ,e,List.cons_append,List.cons_append,bV]at h;have:=Oh (o:=o) h.1 c;exact⟨this.2,λ_=>this.1⟩
def GD{d deep:Nat}{o:Int}(m:0<=o)(j:o+d<=50):∀(l acc:List bf) (a:Int),(∀s∈l,ez d s)->(∀s∈l,xP T d s)->0<=a->bV T a (aP (bH deep l)++[⟨4,[125],0,0⟩])->a+((aP (bH deep l)).length:Int)+1<=20000000->bn (λn=>fH T n acc (st a o)) (acc++eD l,st (a+((aP (bH deep l)).length:Int)) o)
 |[],acc,a,_,_,i,c,h=>by
  rw[bH,q9,List.nil_append,bV]at c;refine bn.step (g:=λ_=>D (acc,st a o)) (λn=> ?_) ?_
  ·rw[fH,eW (x:=[125]) c.1 rfl rfl];rfl
  ·rw[bH,q9];simp only[eD,List.append_nil,List.length_nil];rw[show a+((0:Nat):Int)=a by omega];exact bn.some _
 |s::r,acc,a,hw,k,i,c,h=>by
  have u:=(Jr (o:=o) hw c).2 (by simp);rw[bH,dQ]at c h ⊢;rw[List.append_assoc,eK]at c;simp only[List.length_append]at h ⊢;have he:=(Jr (o:=o) (λx e=>hw x (List.mem_cons_of_mem _ e)) c.2).1;have G:=k s (List.mem_cons_self) deep a o i m j c.1 ae he;have q:=GD m j r (acc++[s.aQ]) (a+((aP (dL deep s)).length:Int)) (λx e=>hw x (List.mem_cons_of_mem _ e)) (λx e=>k x (List.mem_cons_of_mem _ e)) ae c.2 ae;refine bn.step (g:=λn=>(hb T n (st a o)).bind λp=>fH T n (acc++[p.1]) p.2) (λn=> ?_) (G.bind ?_)
  ·rw[fH,u];rfl
  ·rw[List.append_assoc]at q;rw[show a+(((aP (dL deep s)).length+(aP (bH deep r)).length:Nat):Int)=a+((aP (dL deep s)).length:Int)+((aP (bH deep r)).length:Int) by omega];exact q
def vl{d deep:Nat}{o a:Int}{zD:aC}{l:List bf}(h:0<=o)(k:o+1+d<=50)(hw:∀s∈l,ez d s)(j:∀s∈l,xP T d s)(i:0<=a)(c:bV T a (aP (dO zD (bH deep l))))(e:a+((aP (dO zD (bH deep l))).length:Int)<=20000000):bn (λn=>ej T n (st a o)) (eD l,st (a+((aP (dO zD (bH deep l))).length:Int)) o):=by
 rw[xq]at c e ⊢;rw[bV]at c;simp only[List.length_cons,List.length_append,List.length_nil]at e ⊢;have L:=GD (T:=T) (d:=d) (deep:=deep) (o:=o+1) ae ae l [] (a+1) hw j ae c.2 ae;have t2:=(eK _ _ _).1 c.2;rw[bV]at t2;refine bn.step (g:=λn=>(fH T n [] (st (a+1) (o+1))).bind λp=>D (p.1,dh T [125] p.2)) (λn=> ?_) (L.bind ?_)
 ·rw[ej,qp c.1 rfl i ae h ae]
 ·simp only[List.nil_append];rw[rG t2.2.1 rfl ae ae h ae,show a+(((aP (bH deep l)).length+(0+1)+1:Nat):Int)=a+1+((aP (bH deep l)).length:Int)+1 by omega];exact bn.some _
end
section
variable {T:List Tok}
def M5{a o z:Int}{x y:aC}(c:bV T a (aP (eX x y z)++[⟨4,[59],0,0⟩]))(e:iv y z)(d:0<=a)(h:a+((aP (eX x y z)).length:Int)+1<=20000000):ko T (st a o)=(.mk {kind:=1,name:=x,b4:=y,cy:=z} [] [] [],st (a+((aP (eX x y z)).length:Int)+1) o):=by
 rw[eK,bV]at c;unfold ko;rw[Ba c.1 e d ae,gz c.2.1 rfl ae ae]
def O7(i:h3 T){d:Nat}{e:aE}(he:cA d 0 e){a o z:Int}{x y:aC}(c:bV T a (aP (eX x y z)++⟨4,[61],0,0⟩::(aP (aY e)++[⟨4,[59],0,0⟩])))(l:iv y z)(h:0<=a)(k:0<=o)(j:o+d<=50)(m:a+((aP (eX x y z)).length:Int)+1+((aP (aY e)).length:Int)+1<=20000000):kE T (st a o)=(.mk {kind:=2,name:=x,b4:=y,cy:=z} [e.aQ] [] [],st (a+((aP (eX x y z)).length:Int)+1+((aP (aY e)).length:Int)+1) o):=by
 rw[eK,bV,eK,bV]at c;obtain⟨t1,t2,t3,t4,-⟩:=c;unfold kE;rw[Ba t1 l h ae];simp only
 rw[gz t2 rfl ae ae,me i he ae k j t3 t4 sV aK ae];simp only
 rw[gz t4 rfl ae ae]
def Qm(h:h3 T){d:Nat}{e:aE}(he:cA d 0 e){a o:Int}(c:bV T a (aP (aY e)++[⟨4,[59],0,0⟩]))(k:0<=a)(j:0<=o)(i:o+d<=50)(l:a+((aP (aY e)).length:Int)+1<=20000000):lI T (st a o)=(.mk {kind:=8} [e.aQ] [] [],st (a+((aP (aY e)).length:Int)+1) o):=by
 rw[eK,bV]at c;unfold lI;rw[me h he ae j i c.1 c.2.1 sV aK ae];simp only
 rw[gz c.2.1 rfl ae ae]
def QO(h:h3 T){d:Nat}{e:aE}(he:cA d 0 e){a o:Int}(c:bV T a (aP (aY e)++[⟨4,[59],0,0⟩]))(m:0<=a)(k:0<=o)(i:o+d<=50)(n:a+((aP (aY e)).length:Int)+1<=20000000):j4 T (st a o)=(.mk {kind:=7} [e.aQ] [] [],st (a+((aP (aY e)).length:Int)+1) o):=by
 rw[eK,bV]at c;obtain⟨t,r,aq,j,-⟩:=rT he;have l:aj T a=t:=by
  have:=c.1;rw[aq,bV]at this;exact this.1
 unfold j4;rw[yX l j rfl aK,aN,me h he ae k i c.1 c.2.1 sV aK ae];simp only
 rw[gz c.2.1 rfl ae ae]
def T_(h:h3 T){d:Nat}{e:aE}(he:cA d 0 e){a o:Int}{x:aC}(n:ek x=X)(j:bV T a (⟨1,x,0,0⟩::⟨4,[61],0,0⟩::(aP (aY e)++[⟨4,[59],0,0⟩])))(k:0<=a)(i:0<=o)(l:o+d<=50)(s:a+1+1+((aP (aY e)).length:Int)+1<=20000000):fW T (st a o)=(.mk {kind:=3,name:=x} [e.aQ] [] [],st (a+1+1+((aP (aY e)).length:Int)+1) o):=by
 rw[bV,bV,eK,bV]at j;obtain⟨t1,t2,t3,t4,-⟩:=j;have c:aP (aY (.mk {kind:=4,name:=x,pos:=0} []))=[⟨1,x,0,0⟩]:=rf _ _ rfl;have q:=me h (cA.var (d:=0) (m:=0) (x:=x) (p:=0) ae n) (a:=a) (o:=o) (x:=[61]) k i ae (by rw[c];exact⟨t1,trivial⟩) (by rw[c];exact t2) Jv aK (by rw[c];simp only[List.length_cons,List.length_nil];omega);rw[c,p6]at q;unfold fW;rw[q];simp only[List.length_cons,List.length_nil];rw[show a+((0+1:Nat):Int)=a+1 by omega,eW (x:=[61]) t2 rfl rfl,aS];unfold mY hp;rw[show gn (.mk (bU.aQ {kind:=4,name:=x,pos:=0}) [])=U from rfl,aN,gz t2 rfl ae ae,me h he ae i l t3 t4 sV aK ae];simp only
 rw[gz t4 rfl ae ae];rfl
def Qr(c:h3 T){d:Nat}{e f:aE}(j:e.kind=5\/e.kind=6)(he:cA d 0 e)(p:cA d 0 f){a o:Int}(l:bV T a (aP (aY e)++⟨4,[61],0,0⟩::(aP (aY f)++[⟨4,[59],0,0⟩])))(m:0<=a)(k:0<=o)(i:o+d<=50)(s:a+((aP (aY e)).length:Int)+1+((aP (aY f)).length:Int)+1<=20000000):fW T (st a o)=(.mk {kind:=4} [e.aQ,f.aQ] [] [],st (a+((aP (aY e)).length:Int)+1+((aP (aY f)).length:Int)+1) o):=by
 rw[eK,bV,eK,bV]at l;obtain⟨t1,t2,t3,t4,-⟩:=l;unfold fW;rw[me c he m k i t1 t2 Jv aK ae];simp only
 rw[eW (x:=[61]) t2 rfl rfl,aS];unfold mY hp;have q:gn e.aQ=false:=by
  unfold gn;rw[r0];rcases j with h|h<;>rw[h]<;>rfl
 have n:(e.aQ.kind==4)=false:=by
  rw[r0];rcases j with h|h<;>rw[h]<;>rfl
 rw[q,aN,gz t2 rfl ae ae,me c p ae k i t3 t4 sV aK ae,n,aN];simp only
 rw[gz t4 rfl ae ae]
def M7(i:h3 T){d:Nat}{e:aE}(k:e.kind=7)(he:cA d 0 e){a o:Int}(c:bV T a (aP (aY e)++[⟨4,[59],0,0⟩]))(m:0<=a)(l:0<=o)(j:o+d<=50)(n:a+((aP (aY e)).length:Int)+1<=20000000):fW T (st a o)=(.mk {kind:=9} [e.aQ] [] [],st (a+((aP (aY e)).length:Int)+1) o):=by
 rw[eK,bV]at c;unfold fW;rw[me i he ae l j c.1 c.2.1 sV aK ae];simp only
 have h:(e.aQ.kind != 7)=false:=by rw[r0,k];rfl
 rw[fO (x:=[61]) c.2.1 aK,aN,h,Bool.and_false,aN,gz c.2.1 rfl ae ae]
def pH{a o:Int}{x:aC}{f:Nat->ad bf}(h:aj T a=⟨3,x,0,0⟩){s':bf}{b:Int}(d:∀n,(bif aV T (st a o) [118,97,114]||aV T (st a o) [108,101,116]then D (bif x==[108,101,116]then kE T (aw (st a o))else ko T (aw (st a o)))
  else bif aV T (st a o) [105,102]then(ej T n (bJ T (aw (st a o))).2).bind λb=>bif aV T b.2 [101,108,115,101]then
   (ej T n (aw b.2)).bind λc=>D (.mk {kind:=5} [(bJ T (aw (st a o))).1] b.1 c.1,c.2)else D (.mk {kind:=5} [(bJ T (aw (st a o))).1] b.1 [],b.2)
  else bif aV T (st a o) [119,104,105,108,101]then(ej T n (bJ T (aw (st a o))).2).bind λb=>D (.mk {kind:=6} [(bJ T (aw (st a o))).1] b.1 [],b.2)
  else bif aV T (st a o) [114,101,116,117,114,110]then D (j4 T (aw (st a o)))
  else bif aV T (st a o) [112,114,105,110,116]then D (lI T (aw (st a o)))
  else D (fW T (st a o)))=f n) (e:bn f (s',st b o)):bn (λn=>hb T n (st a o)) (s'.at 0,st b o):=by
 refine bn.step (g:=λn=>(f n).bind λp=>D (p.1.at 0,p.2)) (λn=> ?_) (e.bind (bn.some _));rw[hb,show aj T (st a o).at_=_ from h];simp only
 rw[d n]
def AN{a o:Int}{t:Tok}(h:aj T a=t)(aF:t.pos=0)(c:∀x,kw x=3->fx x yV=U->aV T (st a o) x=U){s':bf}{b:Int}(d:fW T (st a o)=(s',st b o)):bn (λn=>hb T n (st a o)) (s'.at 0,st b o):=by
 refine bn.step (g:=λn=>D (s'.at 0,st b o)) (λn=> ?_) (bn.some _);rw[hb,c _ rfl aK,c _ rfl aK,c _ rfl aK,c _ rfl aK,c _ rfl aK,c _ rfl aK,d,show aj T (st a o).at_=_ from h,aF];rfl
def gf{a o:Int}{x y:aC}(h:aj T a=⟨3,x,0,0⟩)(c:x≠y):aV T (st a o) y=false:=fO h c
def Od(v:h3 T){d:Nat}{s:bf}(h:ez d s):xP T d s:=by
 induction h with
 | @var d x y z p P u=>
  intro deep a o k l m i j he;rw[h2,show aP (fo {kind:=1,name:=x,b4:=y,cy:=z,pos:=p} [] (bH (deep+1) []) ([]:List bf).isEmpty (bH (deep+1) []) (pad deep))=⟨3,oh,0,0⟩::(aP (eX x y z)++[⟨4,[59],0,0⟩])from by
   show aP (wd oh::b9::(eX x y z++[bw [59]]))=_;rw[lW,hd,dQ];rfl]at i j ⊢
  rw[bV]at i;simp only[List.length_cons,List.length_append,List.length_nil]at j ⊢;rw[ik,show a+(((aP (eX x y z)).length+(0+1)+1:Nat):Int)=a+1+((aP (eX x y z)).length:Int)+1 by omega];refine pH (s':= .mk {kind:=1,name:=x,b4:=y,cy:=z} [] [] []) i.1 (f:=λ_=>D (.mk {kind:=1,name:=x,b4:=y,cy:=z} [] [] [],st (a+1+((aP (eX x y z)).length:Int)+1) o)) (λn=> ?_) (bn.some _);rw[eW (x:=[118,97,114]) i.1 rfl rfl,fu k ae,M5 i.2 u ae ae];rfl
 | @lets d x y z p e P u hw=>
  intro deep a o k l m i j he;rw[h2,show aP (fo {kind:=2,name:=x,b4:=y,cy:=z,pos:=p} [e] (bH (deep+1) []) ([]:List bf).isEmpty (bH (deep+1) []) (pad deep))=⟨3,oe,0,0⟩::(aP (eX x y z)++⟨4,[61],0,0⟩::(aP (aY e)++[⟨4,[59],0,0⟩]))from by
   show aP (wd oe::b9::(eX x y z++b9::bw [61]::b9::(aY e++[bw [59]])))=_;rw[lW,hd,dQ,hd,hc,hd,dQ];rfl]at i j ⊢
  rw[bV]at i;simp only[List.length_cons,List.length_append,List.length_nil]at j ⊢;rw[ik,show a+(((aP (eX x y z)).length+((aP (aY e)).length+(0+1)+1)+1:Nat):Int)=a+1+((aP (eX x y z)).length:Int)+1+((aP (aY e)).length:Int)+1 by omega];refine pH (s':= .mk {kind:=2,name:=x,b4:=y,cy:=z} [e.aQ] [] []) i.1 (f:=λ_=>D (.mk {kind:=2,name:=x,b4:=y,cy:=z} [e.aQ] [] [],st (a+1+((aP (eX x y z)).length:Int)+1+((aP (aY e)).length:Int)+1) o)) (λn=> ?_) (bn.some _);rw[eW (x:=[108,101,116]) i.1 rfl rfl,Bool.or_true,aS,fu k ae,O7 v hw i.2 u ae l m ae];rfl
 | @set d x p e P hw=>
  intro deep a o k l m i j he;rw[h2,show aP (fo {kind:=3,name:=x,pos:=p} [e] (bH (deep+1) []) ([]:List bf).isEmpty (bH (deep+1) []) (pad deep))=⟨1,x,0,0⟩::⟨4,[61],0,0⟩::(aP (aY e)++[⟨4,[59],0,0⟩])from by
   show aP (cC x::b9::bw [61]::b9::(aY e++[bw [59]]))=_;rw[xp,hd,hc,hd,dQ];rfl]at i j ⊢
  have aa:=i;rw[bV]at i;simp only[List.length_cons,List.length_append,List.length_nil]at j ⊢;rw[ik,show a+(((aP (aY e)).length+(0+1)+1+1:Nat):Int)=a+1+1+((aP (aY e)).length:Int)+1 by omega];exact AN i.1 rfl (λy u _=>rV i.1 (by show(1:Int)≠3;decide) y u) (T_ v hw P aa k l m ae)
 | @put d p e f N hw V=>
  intro deep a o k l m i j he;rw[h2,show aP (fo {kind:=4,pos:=p} [e,f] (bH (deep+1) []) ([]:List bf).isEmpty (bH (deep+1) []) (pad deep))=aP (aY e)++⟨4,[61],0,0⟩::(aP (aY f)++[⟨4,[59],0,0⟩])from by
   show aP (aY e++b9::bw [61]::b9::(aY f++[bw [59]]))=_;rw[dQ,hd,hc,hd,dQ];rfl]at i j ⊢
  obtain⟨t,r,aq,M,O⟩:=rT hw;have A:aj T a=t:=by
   have:=((eK _ _ _).1 i).1;rw[aq,bV]at this;exact this.1
  have aF:(aj T a).pos=0:=by rw[A];exact O
  simp only[List.length_cons,List.length_append,List.length_nil]at j ⊢;rw[ik,show a+(((aP (aY e)).length+((aP (aY f)).length+(0+1)+1):Nat):Int)=a+((aP (aY e)).length:Int)+1+((aP (aY f)).length:Int)+1 by omega];exact AN rfl aF (λy u hm=>yW A M u hm) (Qr v N hw V i k l m ae)
 | @ifs d p e b c hw L R Q ab=>
  intro deep a o k l m i j he;have K:aP (fo {kind:=5,pos:=p} [e] (bH (deep+1) b) c.isEmpty (bH (deep+1) c) (pad deep))=⟨3,lf,0,0⟩::(aP (aY e)++(aP (dO (pad deep) (bH (deep+1) b))++bif c.isEmpty then[]else⟨3,lY,0,0⟩::aP (dO (pad deep) (bH (deep+1) c)))):=by
   show aP (wd lf::b9::(aY e++(dO (pad deep) (bH (deep+1) b)++bif c.isEmpty then[]else b9::wd lY::dO (pad deep) (bH (deep+1) c))))=_;rw[lW,hd,dQ,dQ];cases c.isEmpty<;>rfl
  rw[h2,K]at i j he ⊢;rw[bV,eK,eK]at i;simp only[List.length_cons,List.length_append]at j he ⊢;obtain⟨t1,t2,t3,t4⟩:=i;have jc:aj T (a+1+((aP (aY e)).length:Int))=⟨4,[123],0,0⟩:=by rw[xq,bV]at t3;exact t3.1
  have q:=me v hw (a:=a+1) (o:=o) ae l ae t2 jc Ju aK ae;have B:=vl (T:=T) (d:=d) (o:=o) l ae L Q ae t3 ae;generalize aP (dO (pad deep) (bH (deep+1) b))=w at*;generalize aP (aY e)=le at*;have F:aV T (st a o) [118,97,114]=false:=gf t1 aK;have G:aV T (st a o) [108,101,116]=false:=gf t1 aK;have H:aV T (st a o) [105,102]=true:=eW t1 rfl rfl;rw[ik];cases E:c.isEmpty with
  |true=>
   rw[E,aS,List.length_nil]at j he;rw[aS,List.length_nil];have S:c=[]:=List.isEmpty_iff.1 E;subst S;rw[show a+((le.length+(w.length+0)+1:Nat):Int)=a+1+(le.length:Int)+(w.length:Int) by omega]at he ⊢;refine pH (s':= .mk {kind:=5} [e.aQ] (eD b) []) t1 (f:=λn=>(ej T n (st (a+1+(le.length:Int)) o)).bind λb=>bif aV T b.2 [101,108,115,101]then(ej T n (aw b.2)).bind λc=>D (.mk {kind:=5} [e.aQ] b.1 c.1,c.2)else D (.mk {kind:=5} [e.aQ] b.1 [],b.2)) (λn=> ?_) (B.bind ?_)
   ·rw[F,G,H,fu k ae,q];rfl
   ·simp only
    rw[show aV T (st (a+1+(le.length:Int)+(w.length:Int)) o) [101,108,115,101]=U from he];simp only[aN];exact bn.some _
  |false=>
   rw[E,aN]at t4;rw[E,aN,List.length_cons]at j he;rw[aN,List.length_cons];rw[bV]at t4;have zC:=vl (T:=T) (d:=d) (o:=o) l ae R ab ae t4.2 ae;generalize aP (dO (pad deep) (bH (deep+1) c))=lc at*;rw[show a+((le.length+(w.length+(lc.length+1))+1:Nat):Int)=a+1+(le.length:Int)+(w.length:Int)+1+(lc.length:Int) by omega];refine pH (s':= .mk {kind:=5} [e.aQ] (eD b) (eD c)) t1 (f:=λn=>(ej T n (st (a+1+(le.length:Int)) o)).bind λb=>bif aV T b.2 [101,108,115,101]then(ej T n (aw b.2)).bind λc=>D (.mk {kind:=5} [e.aQ] b.1 c.1,c.2)else D (.mk {kind:=5} [e.aQ] b.1 [],b.2)) (λn=> ?_) (B.bind ?_)
   ·rw[F,G,H,fu k ae,q];rfl
   ·simp only
    rw[eW (x:=[101,108,115,101]) t4.1 rfl rfl];simp only[aS];rw[fu ae ae];exact zC.bind (bn.some _)
 | @«while» d p e b hw L Q=>
  intro deep a o k l m i j he;have K:aP (fo {kind:=6,pos:=p} [e] (bH (deep+1) b) ([]:List bf).isEmpty (bH (deep+1) []) (pad deep))=⟨3,oi,0,0⟩::(aP (aY e)++aP (dO (pad deep) (bH (deep+1) b))):=by
   show aP (wd oi::b9::(aY e++dO (pad deep) (bH (deep+1) b)))=_;rw[lW,hd,dQ]
  rw[h2,K]at i j he ⊢;rw[bV,eK]at i;simp only[List.length_cons,List.length_append]at j he ⊢;obtain⟨t1,t2,t3⟩:=i;have jc:aj T (a+1+((aP (aY e)).length:Int))=⟨4,[123],0,0⟩:=by rw[xq,bV]at t3;exact t3.1
  have q:=me v hw (a:=a+1) (o:=o) ae l ae t2 jc Ju aK ae;have B:=vl (T:=T) (d:=d) (o:=o) l ae L Q ae t3 ae;generalize aP (dO (pad deep) (bH (deep+1) b))=w at*;generalize aP (aY e)=le at*;have F:aV T (st a o) [118,97,114]=false:=gf t1 aK;have G:aV T (st a o) [108,101,116]=false:=gf t1 aK;have H:aV T (st a o) [105,102]=false:=gf t1 aK;have ad:aV T (st a o) [119,104,105,108,101]=true:=eW t1 rfl rfl;rw[ik,show a+((le.length+w.length+1:Nat):Int)=a+1+(le.length:Int)+(w.length:Int) by omega];refine pH (s':= .mk {kind:=6} [e.aQ] (eD b) []) t1 (f:=λn=>(ej T n (st (a+1+(le.length:Int)) o)).bind λb=>D (.mk {kind:=6} [e.aQ] b.1 [],b.2)) (λn=> ?_) (B.bind (bn.some _))
  rw[F,G,H,ad,fu k ae,q];rfl
 | @my d p=>
  intro deep a o k l m i j he;rw[h2,show aP (fo {kind:=7,pos:=p} [] (bH (deep+1) []) ([]:List bf).isEmpty (bH (deep+1) []) (pad deep))=[⟨3,kM,0,0⟩,⟨4,[59],0,0⟩]from rfl]at i j ⊢;simp only[bV,List.length_cons,List.length_nil]at i j ⊢;rw[ik,show a+((0+1+1:Nat):Int)=a+1+1 by omega];refine pH (s':= .mk {kind:=7} [] [] []) i.1 (f:=λ_=>D (.mk {kind:=7} [] [] [],st (a+1+1) o)) (λn=> ?_) (bn.some _);have W:j4 T (st (a+1) o)=(.mk {kind:=7} [] [] [],st (a+1+1) o):=by
   unfold j4;rw[eW (x:=[59]) i.2.1 rfl rfl,aS,gz i.2.1 rfl ae ae]
  rw[show aV T (st a o) [118,97,114]=U from gf i.1 aK,show aV T (st a o) [108,101,116]=U from gf i.1 aK,show aV T (st a o) [105,102]=U from gf i.1 aK,show aV T (st a o) [119,104,105,108,101]=U from gf i.1 aK,eW (x:=[114,101,116,117,114,110]) i.1 rfl rfl,fu k ae,W];rfl
 | @mz d p e hw=>
  intro deep a o k l m i j he;rw[h2,show aP (fo {kind:=7,pos:=p} [e] (bH (deep+1) []) ([]:List bf).isEmpty (bH (deep+1) []) (pad deep))=⟨3,kM,0,0⟩::(aP (aY e)++[⟨4,[59],0,0⟩])from by
   show aP (wd kM::(b9::aY e++[bw [59]]))=_;rw[lW,List.cons_append,hd,dQ];rfl]at i j ⊢
  rw[bV]at i;simp only[List.length_cons,List.length_append,List.length_nil]at j ⊢;rw[ik,show a+(((aP (aY e)).length+(0+1)+1:Nat):Int)=a+1+((aP (aY e)).length:Int)+1 by omega];refine pH (s':= .mk {kind:=7} [e.aQ] [] []) i.1 (f:=λ_=>D (.mk {kind:=7} [e.aQ] [] [],st (a+1+((aP (aY e)).length:Int)+1) o)) (λn=> ?_) (bn.some _);rw[show aV T (st a o) [118,97,114]=U from gf i.1 aK,show aV T (st a o) [108,101,116]=U from gf i.1 aK,show aV T (st a o) [105,102]=U from gf i.1 aK,show aV T (st a o) [119,104,105,108,101]=U from gf i.1 aK,eW (x:=[114,101,116,117,114,110]) i.1 rfl rfl,fu k ae,QO v hw i.2 ae l m ae]
  rfl
 | @print d p e hw=>
  intro deep a o k l m i j he;rw[h2,show aP (fo {kind:=8,pos:=p} [e] (bH (deep+1) []) ([]:List bf).isEmpty (bH (deep+1) []) (pad deep))=⟨3,og,0,0⟩::(aP (aY e)++[⟨4,[59],0,0⟩])from by
   show aP (wd og::b9::(aY e++[bw [59]]))=_;rw[lW,hd,dQ];rfl]at i j ⊢
  rw[bV]at i;simp only[List.length_cons,List.length_append,List.length_nil]at j ⊢;rw[ik,show a+(((aP (aY e)).length+(0+1)+1:Nat):Int)=a+1+((aP (aY e)).length:Int)+1 by omega];refine pH (s':= .mk {kind:=8} [e.aQ] [] []) i.1 (f:=λ_=>D (.mk {kind:=8} [e.aQ] [] [],st (a+1+((aP (aY e)).length:Int)+1) o)) (λn=> ?_) (bn.some _);rw[show aV T (st a o) [118,97,114]=U from gf i.1 aK,show aV T (st a o) [108,101,116]=U from gf i.1 aK,show aV T (st a o) [105,102]=U from gf i.1 aK,show aV T (st a o) [119,104,105,108,101]=U from gf i.1 aK,show aV T (st a o) [114,101,116,117,114,110]=U from gf i.1 aK,eW (x:=[112,114,105,110,116]) i.1 rfl rfl,fu k ae,Qm v hw i.2 ae l m ae]
  rfl
 | @call d p e N hw=>
  intro deep a o k l m i j he;rw[h2,show aP (fo {kind:=9,pos:=p} [e] (bH (deep+1) []) ([]:List bf).isEmpty (bH (deep+1) []) (pad deep))=aP (aY e)++[⟨4,[59],0,0⟩]from by
   show aP (aY e++[bw [59]])=_;rw[dQ];rfl]at i j ⊢
  obtain⟨t,r,aq,M,O⟩:=rT hw;have A:aj T a=t:=by
   have:=((eK _ _ _).1 i).1;rw[aq,bV]at this;exact this.1
  have aF:(aj T a).pos=0:=by rw[A];exact O
  simp only[List.length_cons,List.length_append,List.length_nil]at j ⊢;rw[ik,show a+(((aP (aY e)).length+(0+1):Nat):Int)=a+((aP (aY e)).length:Int)+1 by omega];exact AN rfl aF (λy u hm=>yW A M u hm) (M7 v N hw i k l m ae)
end
def s4:aC:=[114,101,99,111,114,100]
def s3:aC:=[103,108,111,98,97,108]
def od:aC:=[102,117,110,99]
def c6(p:bB):List bK:=eX p.name p.b4 p.cy
def eN:List bB->List bK
 |[]=>[]
 |p::r=> .b [32,32]::(c6 p++bw [59]::nl::eN r)
def jq:List bB->List bK
 |[]=>[]
 |p::r=>bw [44]::b9::(c6 p++jq r)
def fQ:List bB->List bK
 |[]=>[]
 |p::r=>c6 p++jq r
def o0(r:ep):List bK:=wd s4::b9::cC r.name::b9::bw [123]::nl::(eN r.fields++[bw [125],nl])
def qt(p:bB):List bK:=wd s3::b9::(c6 p++[bw [59],nl])
def qs(f:Fn):List bK:=wd od::b9::cC f.name::bw [40]::(fQ f.params++bw [41]::((bif f.has then bw [58]::b9::cn f.c4 f.rd else[])++(dO [] (bH 1 f.body)++[nl])))
inductive dV where
 |r (x:ep)
 |g (x:bB)
 |f (x:Fn)
def iW:dV->List bK
 | .r x=>o0 x
 | .g x=>qt x
 | .f x=>qs x
def cm:List dV->List bK
 |[]=>[]
 |i::l=>iW i++cm l
def bE.add(g:bE):dV->bE
 | .r x=>{g with b7:=g.b7++[x]}
 | .g x=>{g with globals:=g.globals++[x]}
 | .f x=>{g with funcs:=g.funcs++[x]}
def bE.fh(g:bE):List dV->bE
 |[]=>g
 |i::l=>(g.add i).fh l
structure fM(p:bB):Prop where
 n:ek p.name=true
 o:iv p.b4 p.cy
structure ox(r:ep):Prop where
 n:ek r.name=true
 l:r.fields.length<=8
 f:∀p∈r.fields,fM p
structure ow(f:Fn):Prop where
 n:ek f.name=true
 l:f.params.length<=6
 p:∀p∈f.params,fM p
 r:(f.has=true/\iv f.c4 f.rd)\/(f.has=false/\f.c4=[]/\f.rd=0)
 b:∃d:Nat,d+1<=50/\∀s∈f.body,ez d s
def rp:dV->Prop
 | .r x=>ox x
 | .g x=>fM x
 | .f x=>ow x
section
variable {T:List Tok}
def zV{a o:Int}{p:bB}(aF:fM p)(c:bV T a (aP (c6 p)))(e:0<=a)(d:a+((aP (c6 p)).length:Int)<=20000000):c7 T (st a o)=(p.aQ,st (a+((aP (c6 p)).length:Int)) o)/\(aj T a).kind=1:=by
 unfold c6 at c d ⊢;have q:=Ba c aF.o e d (o:=o);rw[A0,bV]at c;unfold c7;rw[q,show aj T (st a o).at_=_ from c.1];exact⟨rfl,rfl⟩
def gI:List bB->List Tok
 |[]=>[]
 |p::r=>aP (c6 p)++⟨4,[59],0,0⟩::gI r
def J_:∀l:List bB,aP (eN l)=gI l
 |[]=>rfl
 |p::r=>by rw[eN,J9,dQ,hc,uZ,J_ r,gI]
def En{o:Int}:∀(l acc:List bB) (a:Int),(∀p∈l,fM p)->acc.length+l.length<=8->0<=a->bV T a (gI l++[⟨4,[125],0,0⟩])->a+((gI l).length:Int)+1<=20000000->bn (λn=>gp T n acc (st a o)) (acc++l.map bB.aQ,st (a+((gI l).length:Int)) o)
 |[],acc,a,_,_,d,c,e=>by
  rw[gI,List.nil_append,bV]at c;refine bn.step (g:=λ_=>D (acc,st a o)) (λn=> ?_) ?_
  ·rw[gp,eW (x:=[125]) c.1 rfl rfl];rfl
  ·simp only[gI,List.map_nil,List.append_nil,List.length_nil];rw[show a+((0:Nat):Int)=a by omega];exact bn.some _
 |p::r,acc,a,hw,i,d,c,e=>by
  rw[gI,List.append_assoc,List.cons_append,eK,bV]at c;simp only[gI,List.length_append,List.length_cons]at e i ⊢;obtain⟨q,s⟩:=zV (hw p (List.mem_cons_self)) c.1 d ae (o:=o);have m:aV T (st a o) [125]=false:=mi (t:=aj T a) rfl ae _ rfl;have h:=En r (acc++[p.aQ]) (a+((aP (c6 p)).length:Int)+1) (λx k=>hw x (List.mem_cons_of_mem _ k)) (by simp only[List.length_append,List.length_cons,List.length_nil];omega) ae c.2.2 ae (o:=o);refine bn.step (g:=λn=>gp T n (acc++[p.aQ]) (st (a+((aP (c6 p)).length:Int)+1) o)) (λn=> ?_) ?_
  ·have j:(acc.length==8)=false:=by
    have:acc.length≠8:=ae;simpa using this
   rw[gp,m,j,Bool.and_false,q];simp only[aN];rw[gz c.2.1 rfl ae ae];rfl
  ·rw[List.append_assoc]at h;rw[List.map_cons,show a+(((aP (c6 p)).length+((gI r).length+1):Nat):Int)=a+((aP (c6 p)).length:Int)+1+((gI r).length:Int) by omega];exact h
def jF:List bB->List Tok
 |[]=>[]
 |p::r=>⟨4,[44],0,0⟩::(aP (c6 p)++jF r)
def fq:List bB->List Tok
 |[]=>[]
 |p::r=>aP (c6 p)++jF r
def Ka:∀l:List bB,aP (jq l)=jF l
 |[]=>rfl
 |p::r=>by rw[jq,hc,hd,dQ,Ka r,jF]
def U0:∀l:List bB,aP (fQ l)=fq l
 |[]=>rfl
 |p::r=>by rw[fQ,dQ,Ka r,fq]
def HR{a:Int}{p:bB}{m:List Tok}(c:bV T a (aP (c6 p)++m)):(aj T a).kind=1:=by
 rw[eK,c6,A0,bV]at c;rw[c.1.1]
def HG{o:Int}:∀(r:List bB) (p:bB) (acc:List bB) (a:Int),(∀x∈p::r,fM x)->acc.length+r.length+1<=6->0<=a->bV T a (aP (c6 p)++(jF r++[⟨4,[41],0,0⟩]))->a+((aP (c6 p)).length:Int)+((jF r).length:Int)+1<=20000000->bn (λn=>e6 T n acc (st a o)) (acc++p.aQ::r.map bB.aQ,st (a+((aP (c6 p)).length:Int)+((jF r).length:Int)) o)
 |r,p,acc,a,hw,u,m,h,s=>by
  have w:=HR h;have c:=(eK _ _ _).1 h;have q:=(zV (hw p (List.mem_cons_self)) c.1 m ae (o:=o)).1;have j:aV T (st a o) [41]=false:=mi (t:=aj T a) rfl ae _ rfl;have e:(acc.length==6)=false:=by
   have:acc.length≠6:=ae;simpa using this
  cases r with
  |nil=>
   have t2:=c.2;rw[jF,List.nil_append,bV]at t2;have k:=eW (o:=o) (x:=[41]) t2.1 rfl rfl;simp only[jF,List.length_nil,List.map_nil];rw[show a+((aP (c6 p)).length:Int)+((0:Nat):Int)=a+((aP (c6 p)).length:Int) by omega];refine bn.step (g:=λn=>e6 T n (acc++[p.aQ]) (st (a+((aP (c6 p)).length:Int)) o)) (λn=> ?_) (bn.step (g:=λ_=>D (acc++[p.aQ],st (a+((aP (c6 p)).length:Int)) o)) (λn=> ?_) (bn.some _))
   ·rw[e6,j,e,Bool.and_false,q];simp only[aN];rw[k];rfl
   ·rw[e6,k,Bool.not_true,Bool.and_false,aN]
  |cons d r=>
   have t2:=c.2;rw[jF,List.cons_append,List.append_assoc,bV]at t2;simp only[jF,List.length_cons,List.length_append]at s u ⊢;have y:=HR t2.2;have l:iy T (st (a+((aP (c6 p)).length:Int)) o)=st (a+((aP (c6 p)).length:Int)+1) o:=by
    unfold iy;rw[gz t2.1 rfl ae ae,mi (x:=[41]) (t:=aj T (a+((aP (c6 p)).length:Int)+1)) rfl ae rfl];rfl
   have i:=HG r d (acc++[p.aQ]) (a+((aP (c6 p)).length:Int)+1) (λx v=>hw x (List.mem_cons_of_mem _ v)) (by simp only[List.length_append,List.length_cons,List.length_nil];omega) ae t2.2 ae (o:=o);refine bn.step (g:=λn=>e6 T n (acc++[p.aQ]) (st (a+((aP (c6 p)).length:Int)+1) o)) (λn=> ?_) ?_
   ·rw[e6,j,e,Bool.and_false,q];simp only[aN];rw[fO (x:=[41]) t2.1 aK,l];rfl
   ·rw[List.append_assoc]at i;rw[List.map_cons,show a+((aP (c6 p)).length:Int)+(((aP (c6 d)).length+(jF r).length+1:Nat):Int)=a+((aP (c6 p)).length:Int)+1+((aP (c6 d)).length:Int)+((jF r).length:Int) by omega];exact i
def Qa{o:Int}{l:List bB}{a:Int}(hw:∀p∈l,fM p)(h:l.length<=6)(d:0<=a)(c:bV T a (fq l++[⟨4,[41],0,0⟩]))(e:a+((fq l).length:Int)+1<=20000000):bn (λn=>e6 T n [] (st a o)) (l.map bB.aQ,st (a+((fq l).length:Int)) o):=by
 cases l with
 |nil=>
  rw[fq,List.nil_append,bV]at c;refine bn.step (g:=λ_=>D ([],st a o)) (λn=> ?_) ?_
  ·rw[e6,eW (x:=[41]) c.1 rfl rfl];rfl
  ·simp only[fq,List.map_nil,List.length_nil];rw[show a+((0:Nat):Int)=a by omega];exact bn.some _
 |cons p r=>
  rw[fq,List.append_assoc]at c;simp only[fq,List.length_append,List.length_cons]at e h ⊢;have:=HG r p [] a hw (by simp only[List.length_nil];omega) d c ae (o:=o);rw[List.map_cons,show a+(((aP (c6 p)).length+(jF r).length:Nat):Int)=a+((aP (c6 p)).length:Int)+((jF r).length:Int) by omega];exact this
def U1(r:ep):aP (o0 r)=⟨3,s4,0,0⟩::⟨1,r.name,0,0⟩::⟨4,[123],0,0⟩::(gI r.fields++[⟨4,[125],0,0⟩]):=by
 rw[o0,lW,hd,xp,hd,hc,uZ,dQ,J_];rfl
def UY(p:bB):aP (qt p)=⟨3,s3,0,0⟩::(aP (c6 p)++[⟨4,[59],0,0⟩]):=by
 rw[qt,lW,hd,dQ];rfl
def js(f:Fn):List Tok:=bif f.has then⟨4,[58],0,0⟩::aP (cn f.c4 f.rd)else[]
def UX(f:Fn):aP (qs f)=⟨3,od,0,0⟩::⟨1,f.name,0,0⟩::⟨4,[40],0,0⟩::(fq f.params++⟨4,[41],0,0⟩::(js f++aP (dO [] (bH 1 f.body)))):=by
 rw[qs,lW,hd,xp,hc,dQ,U0,hc,dQ,dQ,uZ,q9,List.append_nil]
 congr 5
 unfold js;cases f.has<;>rfl
def QG{a o:Int}{r:ep}(c:ox r)(d:bV T (a+1) (⟨1,r.name,0,0⟩::⟨4,[123],0,0⟩::(gI r.fields++[⟨4,[125],0,0⟩])))(e:0<=a)(h:a+4+((gI r.fields).length:Int)<=20000000):bn (λn=>iG T n (st (a+1) o)) (r.aQ,st (a+4+((gI r.fields).length:Int)) o):=by
 simp only[bV]at d;obtain⟨t1,t2,t3⟩:=d;have F:=En r.fields [] (a+1+1+1) c.f (by simpa using c.l) ae t3 ae (o:=o);have t4:=((eK _ _ _).1 t3).2;rw[bV]at t4;refine bn.eq (g:=λn=>(gp T n [] (st (a+1+1+1) o)).bind λp=>D (⟨r.name,p.1,0⟩,bh T [125] p.2)) (λn=> ?_) (F.bind ?_)
 ·unfold iG;rw[oP t1 ae ae];simp only
  rw[gz t2 rfl ae ae,show aj T (st (a+1) o).at_=_ from t1]
 ·simp only[List.nil_append];rw[gz t4.1 rfl ae ae,show a+4+((gI r.fields).length:Int)=a+1+1+1+((gI r.fields).length:Int)+1 by omega];exact bn.some _
def N6(q:h3 T){a:Int}{f:Fn}(h:ow f)(m:bV T (a+1) (⟨1,f.name,0,0⟩::⟨4,[40],0,0⟩::(fq f.params++⟨4,[41],0,0⟩::(js f++aP (dO [] (bH 1 f.body))))))(w:0<=a)(e:a+4+((fq f.params).length:Int)+((js f).length:Int)+((aP (dO [] (bH 1 f.body))).length:Int)<=20000000):bn (λn=>iB T n (st (a+1) 0)) (f.aQ,st (a+4+((fq f.params).length:Int)+((js f).length:Int)+((aP (dO [] (bH 1 f.body))).length:Int)) 0):=by
 obtain⟨d,y,k⟩:=h.b;simp only[bV,eK]at m;obtain⟨t1,t2,t3,t4,t5,t6⟩:=m;have A:=Qa (a:=a+1+1+1) h.p h.l ae ((eK _ _ _).2 ⟨t3,t4,trivial⟩) ae (o:=0);have jc:=t6;rw[xq,bV]at jc;have ad:e7 T (st (a+1+1+1+((fq f.params).length:Int)+1) 0)=((f.has,f.c4,f.rd),st (a+1+1+1+((fq f.params).length:Int)+1+((js f).length:Int)) 0):=by
  unfold e7;rcases h.r with⟨c,j⟩|⟨c,j,u⟩
  ·have i:js f=⟨4,[58],0,0⟩::aP (cn f.c4 f.rd):=by unfold js;rw[c];rfl
   rw[i]at t5 e ⊢;rw[bV]at t5;simp only[List.length_cons]at e ⊢;rw[eW (x:=[58]) t5.1 rfl rfl,aS,fu ae ae,wh j t5.2 ae ae,c];rw[show a+1+1+1+((fq f.params).length:Int)+1+(((aP (cn f.c4 f.rd)).length+1:Nat):Int)=a+1+1+1+((fq f.params).length:Int)+1+1+((aP (cn f.c4 f.rd)).length:Int) by omega]
  ·have i:js f=[]:=by unfold js;rw[c];rfl
   rw[i]at t6 jc e ⊢;simp only[List.length_nil]at t6 jc e ⊢;have v:aj T (a+1+1+1+((fq f.params).length:Int)+1)=⟨4,[123],0,0⟩:=by
    have:=jc.1;rw[show a+1+1+1+((fq f.params).length:Int)+1+((0:Nat):Int)=a+1+1+1+((fq f.params).length:Int)+1 by omega]at this;exact this
   rw[fO (x:=[58]) v aK,aN,c,j,u];rw[show a+1+1+1+((fq f.params).length:Int)+1+((0:Nat):Int)=a+1+1+1+((fq f.params).length:Int)+1 by omega]
 have B:=vl (T:=T) (d:=d) (o:=0) ae ae k (λs ar=>Od q (k s ar)) ae t6 ae;refine bn.eq (g:=λn=>(e6 T n [] (st (a+1+1+1) 0)).bind λp=>(ej T n (e7 T (bh T [41] p.2)).2).bind λb=>D (⟨f.name,p.1,(e7 T (bh T [41] p.2)).1.1,(e7 T (bh T [41] p.2)).1.2.1,(e7 T (bh T [41] p.2)).1.2.2,b.1,0⟩,b.2)) (λn=> ?_) (A.bind ?_)
 ·unfold iB;rw[oP t1 ae ae];simp only
  rw[gz t2 rfl ae ae,show aj T (st (a+1) 0).at_=_ from t1]
 ·simp only
  rw[gz t4 rfl ae ae,ad];simp only
  rw[show a+4+((fq f.params).length:Int)+((js f).length:Int)+((aP (dO [] (bH 1 f.body))).length:Int)=a+1+1+1+((fq f.params).length:Int)+1+((js f).length:Int)+((aP (dO [] (bH 1 f.body))).length:Int) by omega];exact B.bind (bn.some _)
def BL:∀(l:List dV) (g:bE),g.b7.length<=(g.fh l).b7.length/\g.globals.length<=(g.fh l).globals.length/\g.funcs.length<=(g.fh l).funcs.length
 |[],g=>⟨bo _,bo _,bo _⟩
 |i::l,g=>by
  have a:=BL l (g.add i);rw[bE.fh];cases i<;>simp only[bE.add,List.length_append,List.length_cons,List.length_nil]at a ⊢ <;>omega
def zF{α:Type}{l:List α}{n:Nat}(h:l.length+1<=n):(l.length==n)=false:=by
 have:l.length≠n:=ae;simpa using this
def HV(E:h3 T):∀(l:List dV) (g:bE) (a:Int),(∀i∈l,rp i)->(g.fh l).b7.length<=12->(g.fh l).globals.length<=8->(g.fh l).funcs.length<=16->0<=a->bV T a (aP (cm l))->(aj T (a+((aP (cm l)).length:Int))).kind=0->a+((aP (cm l)).length:Int)<=20000000->∃K,∀N n,K<=N->K<=n->eh T N n g.aQ (st a 0)=D ((g.fh l).aQ,st (a+((aP (cm l)).length:Int)) 0)
 |[],g,a,_,_,_,_,h,_,e,_=>by
  simp only[cm,q9,List.length_nil]at e ⊢;rw[show a+((0:Nat):Int)=a by omega]at e ⊢;refine⟨1,λN n _ y=> ?_⟩;obtain⟨m,rfl⟩:∃m,n=m+1:=⟨n-1,ae⟩;rw[eh,show(aj T (st a 0).at_).kind=0 from e];rfl
 |i::l,g,a,hw,z,A,B,h,k,e,c=>by
  have w:=hw i (List.mem_cons_self);have P:∀j∈l,rp j:=λj O=>hw j (List.mem_cons_of_mem _ O)
  rw[cm,dQ]at k e c ⊢;rw[eK]at k;simp only[List.length_append]at e c ⊢;rw[show a+(((aP (iW i)).length+(aP (cm l)).length:Nat):Int)=a+((aP (iW i)).length:Int)+((aP (cm l)).length:Int) by omega]at e c ⊢;rw[bE.fh]at z A B ⊢;obtain⟨H,M,b3⟩:=BL l (g.add i);obtain⟨K,d⟩:=HV E l (g.add i) (a+((aP (iW i)).length:Int)) P z A B ae k.2 e c;generalize ((g.add i).fh l)=G at*;generalize (aP (cm l)).length=L at*;cases i with
  |r x=>
   have t1:=k.1;rw[show iW (.r x)=o0 x from rfl,U1]at t1 d c ⊢;rw[bV]at t1;simp only[List.length_cons,List.length_append,List.length_nil]at d c ⊢;simp only[bE.add,List.length_append,List.length_cons,List.length_nil]at H;obtain⟨v,ad⟩:=QG w t1.2 h ae (o:=0);refine⟨max K v+1,λN n F y=> ?_⟩;obtain⟨m,rfl⟩:∃m,n=m+1:=⟨n-1,ae⟩;have p:isRec T (st a 0)=true:=eW t1.1 rfl rfl;have s:iT T (st a 0)=false:=gf t1.1 aK;have u:isFun T (st a 0)=false:=gf t1.1 aK;rw[eh,show aj T (st a 0).at_=_ from t1.1,p,s,u,show(g.aQ.b7.length==12)=U from zF (by simp only[bE.aQ,List.length_map];omega),fu h ae,show iG T N (st (a+1) 0)=_ from ad N ae]
   have:=d N m ae ae;rw[show(g.add (.r x)).aQ={g.aQ with b7:=g.aQ.b7++[x.aQ]}from by simp[bE.add,bE.aQ],show a+(((gI x.fields).length+(0+1)+1+1+1:Nat):Int)=a+4+((gI x.fields).length:Int) by omega]at this;rw[show a+(((gI x.fields).length+(0+1)+1+1+1:Nat):Int)=a+4+((gI x.fields).length:Int) by omega,<-this];rfl
  |g x=>
   have t1:=k.1;rw[show iW (.g x)=qt x from rfl,UY]at t1 d c ⊢;rw[bV,eK,bV]at t1;simp only[List.length_cons,List.length_append,List.length_nil]at d c ⊢;simp only[bE.add,List.length_append,List.length_cons,List.length_nil]at M;have q:=(zV w t1.2.1 ae ae (o:=0)).1;refine⟨K+1,λN n F y=> ?_⟩;obtain⟨m,rfl⟩:∃m,n=m+1:=⟨n-1,ae⟩;have p:isRec T (st a 0)=false:=gf t1.1 aK;have s:iT T (st a 0)=true:=eW t1.1 rfl rfl;have u:isFun T (st a 0)=false:=gf t1.1 aK;rw[eh,show aj T (st a 0).at_=_ from t1.1,p,s,u,show(g.aQ.globals.length==8)=U from zF (by simp only[bE.aQ,List.length_map];omega),fu h ae,q];simp only
   rw[gz t1.2.2.1 rfl ae ae];have:=d N m ae ae;rw[show(g.add (.g x)).aQ={g.aQ with globals:=g.aQ.globals++[x.aQ]}from by simp[bE.add,bE.aQ],show a+(((aP (c6 x)).length+(0+1)+1:Nat):Int)=a+1+((aP (c6 x)).length:Int)+1 by omega]at this;rw[show a+(((aP (c6 x)).length+(0+1)+1:Nat):Int)=a+1+((aP (c6 x)).length:Int)+1 by omega,<-this];rfl
  |f x=>
   have t1:=k.1;rw[show iW (.f x)=qs x from rfl,UX]at t1 d c ⊢;rw[bV]at t1;simp only[List.length_cons,List.length_append,List.length_nil]at d c ⊢;simp only[bE.add,List.length_append,List.length_cons,List.length_nil]at b3;obtain⟨v,ad⟩:=N6 E w t1.2 h ae;refine⟨max K v+1,λN n F y=> ?_⟩;obtain⟨m,rfl⟩:∃m,n=m+1:=⟨n-1,ae⟩;have p:isRec T (st a 0)=false:=gf t1.1 aK;have s:iT T (st a 0)=false:=gf t1.1 aK;have u:isFun T (st a 0)=true:=eW t1.1 rfl rfl;rw[eh,show aj T (st a 0).at_=_ from t1.1,p,s,u,show(g.aQ.funcs.length==16)=U from zF (by simp only[bE.aQ,List.length_map];omega),fu h ae,show iB T N (st (a+1) 0)=_ from ad N ae]
   have:=d N m ae ae;rw[show(g.add (.f x)).aQ={g.aQ with funcs:=g.aQ.funcs++[x.aQ]}from by simp[bE.add,bE.aQ],show a+(((fq x.params).length+((js x).length+(aP (dO [] (bH 1 x.body))).length+1)+1+1+1:Nat):Int)=a+4+((fq x.params).length:Int)+((js x).length:Int)+((aP (dO [] (bH 1 x.body))).length:Int) by omega]at this;rw[show a+(((fq x.params).length+((js x).length+(aP (dO [] (bH 1 x.body))).length+1)+1+1+1:Nat):Int)=a+4+((fq x.params).length:Int)+((js x).length:Int)+((aP (dO [] (bH 1 x.body))).length:Int) by omega,<-this];rfl
