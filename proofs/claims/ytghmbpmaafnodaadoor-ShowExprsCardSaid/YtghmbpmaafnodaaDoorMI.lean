/-
  Texts of one proof, laid together: Pe Pf Pg Ph Pj Pq Pt Pu.
-/
import Derived.Test.YtghmbpmaafnodaaDoorMH
set_option linter.unusedVariables false
set_option linter.unusedSimpArgs false
set_option linter.defProp false
open Option renaming some→D
open Bool renaming true→X,false→U
namespace Go.Proofs.YtghmbpmaafnodaaDoor
open Go.bs
def bB(x:aC):bF:= .t ⟨4,x,0,0⟩
def wd(x:aC):bF:= .t ⟨3,x,0,0⟩
def cp(x:aC):bF:= .t ⟨1,x,0,0⟩
def cA:bF:= .b [32]
def oX(x:aC):bF:=bif fm x then wd x else cp x
def rep(n:Nat)(p:bF):List bF:=List.replicate n p
def cj(x:aC)(z:Int):List bF:=rep z.toNat (bB [91])++oX x::rep z.toNat (bB [93])
def ez(k:Int):aC:=match([[43],[45],[42],[47],[37],[60],[60,61],[61,61],[33,61],[38,38],[124,124]]:List aC)[(k-14).toNat]? with
 |some x=>x
 |none=>[]
def par(c:Bool)(l:List bF):List bF:=bif c then bB [40]::(l++[bB [41]])else l
def fx(m:Nat)(q:Nat×List bF):List bF:=par (decide (q.1<m)) q.2
def dI:List (Nat×List bF)->List bF
 |[]=>[]
 |[q]=>q.2
 |q::r=>q.2++bB [44]::cA::dI r
def gH(a:List (Nat×List bF)):Nat×List bF:=a[0]?.getD (0,[])
def a6(a:List (Nat×List bF)):Nat×List bF:=a[1]?.getD (0,[])
def kO(a:bG)(c:List (Nat×List bF)):List bF:=
 if a.kind=1 then[.t ⟨2,[],a.n,0⟩]
 else if a.kind=2 then[wd (bif a.n==1 then[116,114,117,101]else[102,97,108,115,101])]
 else if a.kind=3 then wd [110,117,108,108]::cA::cj a.cf a.cS
 else if a.kind=4 then[cp a.name]
 else if a.kind=5 then fx 7 (gH c)++[bB [46],cp a.name]
 else if a.kind=6 then fx 7 (gH c)++bB [91]::((a6 c).2++[bB [93]])
 else if a.kind=7 then cp a.name::bB [40]::(dI c++[bB [41]])
 else if a.kind=8 then[wd [110,101,119],cA,cp a.cf]
 else if a.kind=9 then wd [110,101,119]::cA::bB [91]::(cj a.cf a.cS++bB [93]::bB [40]::((gH c).2++[bB [41]]))
 else if a.kind=10 then wd [108,101,110]::bB [40]::((gH c).2++[bB [41]])
 else if a.kind=11 then[wd [114,101,97,100],bB [40],bB [41]]
 else if a.kind=12 then bB [45]::fx 6 (gH c)
 else if a.kind=13 then bB [33]::fx 6 (gH c)
 else fx (cm a.kind) (gH c)++cA::bB (ez a.kind)::cA::fx (cm a.kind+1) (a6 c)
mutual
def bd:aA->List bF
 | .mk a ks=>kO a (cq ks)
def cq:List aA->List (Nat×List bF)
 |[]=>[]
 |e::es=>(e.b0,bd e)::cq es
end
def bV(m:Nat)(e:aA):List bF:=fx m (e.b0,bd e)
def dH(a:bG)(ks:List aA):bd (.mk a ks)=kO a (cq ks):=by rw[bd]
def kN{m:Nat}{e:aA}(h:¬e.b0<m):bV m e=bd e:=by unfold bV fx par;rw[decide_eq_false h];rfl
def n6{m:Nat}{e:aA}(h:e.b0<m):bV m e=bB [40]::(bd e++[bB [41]]):=by unfold bV fx par;rw[decide_eq_true h];rfl
def tv(e:aA):bV 0 e=bd e:=kN af
def bs{α:Type}(f:Nat->Option α)(r:α):Prop:=∃N,∀n,N<=n->f n=D r
def bs.step{α:Type}{f g:Nat->Option α}{r:α}(e:∀n,f (n+1)=g n)(h:bs g r):bs f r:=by
 obtain⟨N,h⟩:=h;refine⟨N+1,λn a=> ?_⟩;obtain⟨m,rfl⟩:∃m,n=m+1:=⟨n-1,af⟩;rw[e,h m af]
def bs.bind{α β:Type}{f:Nat->Option α}{g:Nat->α->Option β}{p:α}{r:β}(h:bs f p)(k:bs (λn=>g n p) r):bs (λn=>(f n).bind (g n)) r:=by
 obtain⟨N,h⟩:=h;obtain⟨M,k⟩:=k;exact⟨max N M,λn a=>by show(f n).bind (g n)=D r;rw[h n af];exact k n af⟩
def bs.some{α:Type}(r:α):bs (λ_=>D r) r:=⟨0,λ_ _=>rfl⟩
def bs.eq{α:Type}{f g:Nat->Option α}{r:α}(e:∀n,f n=g n)(h:bs g r):bs f r:=by
 obtain⟨N,h⟩:=h;exact⟨N,λn a=>by rw[e,h n a]⟩
def dt(T:List Tok):Int->List Tok->Prop
 |_,[]=>True
 |a,t::r=>al T a=t/\dt T (a+1) r
def jV{T:List Tok}:∀(l m:List Tok) (a:Int),dt T a (l++m)↔dt T a l/\dt T (a+l.length) m
 |[],m,a=>by simp[dt]
 |t::l,m,a=>by
  rw[List.cons_append,dt,dt,jV l m,List.length_cons,and_assoc];have:a+1+(l.length:Int)=a+((l.length+1:Nat):Int):=af;rw[this]
abbrev st(a o:Int):au:=⟨a,o,0,0⟩
section
variable {T:List Tok}
def h9{a o:Int}(c:0<=a)(d:a<=20000000):aF (st a o)=st (a+1) o:=by
 unfold aF st;rw[show iO (a+1)=a+1 from wrap_i64 af af]
def jb{a o:Int}{t:Tok}(h:al T a=t)(x:aC):aY T (st a o) x=(t.kind==kw x&&t.text==x):=by
 unfold aY ck;rw[h];rfl
def Kd{a o:Int}{x:aC}(h:al T a=⟨4,x,0,0⟩)(c:kw x=4)(y:aC):aY T (st a o) y=(x==y):=by
 rw[jb h];by_cases e:x=y
 ·subst e;simp[c]
 ·simp[e]
def uD{a o:Int}{x:aC}{k:Int}{n:Int}(h:al T a=⟨k,x,n,0⟩)(e:k=kw x)(c:0<=a)(d:a<=20000000):bo T x (st a o)=st (a+1) o:=by
 unfold bo;rw[jb h,e];simp only[beq_self_eq_true,Bool.and_self,aW];exact h9 c d
def pN{a o:Int}{x:aC}(h:al T a=⟨4,x,0,0⟩)(e:kw x=4)(c:0<=a)(d:a<=20000000)(i:0<=o)(j:o+1<=50):cJ T x (st a o)=st (a+1) (o+1):=by
 unfold cJ;rw[show decide ((50:Int)<=(st a o).bU)=U from decide_eq_false (by show¬(50:Int)<=o;omega),Bool.and_false,aR,uD h e.symm c d];unfold eN st;rw[show iO (o+1)=o+1 from wrap_i64 af af]
def D3{a o:Int}(c:0<=o)(d:o<=50):eh (st a (o+1))=st a o:=by
 unfold eh st;rw[show iO (o+1-1)=o from by rw[show o+1-1=o by omega];exact wrap_i64 af af]
def qY{a o:Int}{x:aC}(h:al T a=⟨4,x,0,0⟩)(j:kw x=4)(c:0<=a)(d:a<=20000000)(e:0<=o)(i:o<=50):dc T x (st a (o+1))=st (a+1) o:=by
 unfold dc;rw[uD h j.symm c d,D3 e i]
def rE{a o:Int}{x:aC}(h:al T a=⟨1,x,0,0⟩)(c:0<=a)(d:a<=20000000):bA T (st a o)=(x,st (a+1) o):=by
 unfold bA;rw[h,h9 c d];rfl
def s5{a o:Int}{t:Tok}(h:al T a=t){x:aC}(c:t.kind≠kw x):aY T (st a o) x=false:=by
 rw[jb h];have:(t.kind==kw x)=false:=by simpa using c
 rw[this,Bool.false_and]
def x0(n:Nat)(x:aC):bz (rep n (bB x))=List.replicate n ⟨4,x,0,0⟩:=by
 induction n with
 |zero=>rfl
 |succ n a=>unfold rep at a ⊢;rw[List.replicate_succ,bB,bz,<-bB,a,List.replicate_succ]
def DS{o:Int}{r:Tok}(e:(r.kind==4&&r.text==[91])=U):∀(k n:Nat) (d a:Int),k<=n->dt T a (List.replicate k ⟨4,[91],0,0⟩)->al T (a+k)=r->0<=a->a+k<=20000000->eF T n d (st a o)= .inl (d+k,st (a+k) o)
 |0,0,d,a,_,_,c,_,_=>by
  rw[eF,jb (by simpa using c)];rw[show kw [91]=4 from rfl,e];simp
 |0,n+1,d,a,_,_,c,_,_=>by
  rw[eF,jb (by simpa using c)];rw[show kw [91]=4 from rfl,e];simp
 |k+1,0,_,_,h,_,_,_,_=>af
 |k+1,n+1,d,a,h,i,c,j,l=>by
  rw[List.replicate_succ,dt]at i;rw[eF,Kd i.1 rfl,beq_self_eq_true,aW,h9 j af,DS e k n (d+1) (a+1) af i.2 (by rw[<-c];congr 1;omega) af af];rw[show d+1+(k:Int)=d+((k+1:Nat):Int) by omega,show a+1+(k:Int)=a+((k+1:Nat):Int) by omega]
def Gb{o:Int}{x:aC}(d:kw x=4):∀(k:Nat) (a:Int),dt T a (List.replicate k ⟨4,x,0,0⟩)->0<=a->a+k<=20000000->takeN T x k (st a o)=st (a+k) o
 |0,a,_,_,_=>by simp[takeN]
 |k+1,a,c,e,h=>by
  rw[List.replicate_succ,dt]at c;rw[takeN,uD c.1 d.symm e af,Gb d k (a+1) c.2 af af];rw[show a+1+(k:Int)=a+((k+1:Nat):Int) by omega]
def PA(x:aC)(z:Int):bz (cj x z)=List.replicate z.toNat ⟨4,[91],0,0⟩++(⟨bif fm x then 3 else 1,x,0,0⟩::List.replicate z.toNat ⟨4,[93],0,0⟩):=by
 unfold cj;rw[hL,x0]
 congr 1
 unfold oX;cases fm x
 ·rw[aR,cp,bz,x0];rfl
 ·rw[aW,wd,bz,x0];rfl
def DB{x:aC}(h:dP x=X):fm x=false:=by
 unfold dP at h;simp only[Bool.and_eq_true,Bool.not_eq_true']at h;exact h.2.2.2.1
def DX{a o z:Int}{x:aC}(h:ix x z)(d:dt T a (bz (cj x z)))(k:0<=a)(i:a+(bz (cj x z)).length<=20000000):cI T (st a o)=((x,z),st (a+(bz (cj x z)).length) o):=by
 obtain⟨z0,z3,e⟩:=h;rw[PA]at d i ⊢;rw[jV,dt,List.length_replicate]at d;simp only[List.length_append,List.length_cons,List.length_replicate]at i ⊢;obtain⟨t1,t2,t3⟩:=d;have l:((⟨bif fm x then 3 else 1,x,0,0⟩:Tok).kind==4&&(⟨bif fm x then 3 else 1,x,0,0⟩:Tok).text==[91])=false:=by
  cases fm x<;>rfl
 unfold cI;rw[DS l z.toNat 3 0 a af t1 t2 k af];simp only
 unfold eX;have j:(0:Int)+(z.toNat:Int)=z:=af;have c:a+(z.toNat:Int)+1+(z.toNat:Int)=a+((z.toNat+(z.toNat+1):Nat):Int):=af;have g:=h9 (a:=a+z.toNat) (o:=o) af af;have sk:=Gb (T:=T) (o:=o) (x:=[93]) rfl z.toNat (a+z.toNat+1) t3 af af;rw[j];rcases e with e|rfl|rfl
 ·have hw:=DB e;rw[hw,aR]at t2;rw[s5 (x:=[105,110,116]) t2 (show(1:Int)≠3 by decide),s5 (x:=[98,111,111,108]) t2 (show(1:Int)≠3 by decide),rE t2 af af,Bool.or_self,aR,sk,c]
 ·rw[jb t2,show(fm [105,110,116])=X from bf];simp only[aW,show kw [105,110,116]=3 from rfl,beq_self_eq_true,Bool.and_self,Bool.true_or,g,sk,c];rw[t2]
 ·rw[jb t2,jb t2,show(fm [98,111,111,108])=X from bf];simp only[aW,show kw [98,111,111,108]=3 from rfl,beq_self_eq_true,Bool.and_self,Bool.or_true,g,sk,c];rw[t2]
end
section
variable {T:List Tok}
def Stop(lev:Nat)(w:Tok):Prop:=(∀l,lev<=l->l<=4->dW l w=0)/\¬(w.kind=4/\(w.text=[46]\/w.text=[91]))
def Stop.up{l m:Nat}{w:Tok}(h:Stop l w)(hm:l<=m):Stop m w:=⟨λk c a=>h.1 k af a,h.2⟩
def jS(T:List Tok)(e:aA)(a o a':Int):Prop:=∀r,bs (λn=>eg T n e (st a' o)) r->bs (λn=>fl T n (st a o)) r
def qJ(T:List Tok)(lev:Nat)(e:aA)(a o a':Int):Prop:=∀r,bs (λn=>e_ T n lev e (st a' o)) r->bs (λn=>dd T n lev (st a o)) r
def Full(T:List Tok)(lev:Nat)(e:aA)(a o a':Int):Prop:=bs (λn=>dd T n lev (st a o)) (e,st a' o)
def qJ.full{lev:Nat}{e:aA}{a o a':Int}(h:qJ T lev e a o a')(hw:dW lev (al T a')=0):Full T lev e a o a':=by
 refine h _ (bs.step (g:=λ_=>D (e,st a' o)) (λn=> ?_) (bs.some _));rw[e_];rw[show dW lev (al T (st a' o).at_)=0 from hw];rfl
def Full.mK{lev:Nat}(d:lev<=4){e:aA}{a o a':Int}(h:Full T (lev+1) e a o a'):qJ T lev e a o a':=by
 intro r c;refine bs.step (g:=λn=>(dd T n (lev+1) (st a o)).bind λp=>e_ T n lev p.1 p.2) (λn=> ?_) (h.bind c);rw[dd,if_neg af]
def Full.down{e:aA}{a o a':Int}{m:Nat}(ax:Stop m (al T a')):∀(k lev:Nat),lev+k<=5->m<=lev->Full T (lev+k) e a o a'->Full T lev e a o a'
 |0,_,_,_,h=>h
 |k+1,lev,c,hm,h=>(Full.mK af (Full.down ax k (lev+1) af af (by rw[show lev+1+k=lev+(k+1) by omega];exact h))).full (ax.1 lev hm af)
def jS.full{e:aA}{a o a':Int}(h:jS T e a o a')(ax:Stop 5 (al T a')):Full T 5 e a o a':=by
 refine bs.step (g:=λn=>fl T n (st a o)) (λn=>by rw[dd,if_pos rfl]) (h _ ?_);refine bs.step (g:=λ_=>D (e,st a' o)) (λn=> ?_) (bs.some _);have d:aY T (st a' o) [46]=false:=by
  rw[jb rfl];cases c:((al T a').kind==kw [46]&&(al T a').text==[46])with
  |false=>rfl
  |true=>
   simp only[Bool.and_eq_true,beq_iff_eq]at c;exact absurd ⟨c.1,.inl c.2⟩ ax.2
 have i:aY T (st a' o) [91]=false:=by
  rw[jb rfl];cases c:((al T a').kind==kw [91]&&(al T a').text==[91])with
  |false=>rfl
  |true=>
   simp only[Bool.and_eq_true,beq_iff_eq]at c;exact absurd ⟨c.1,.inr c.2⟩ ax.2
 rw[eg,d,i];rfl
def jS.DU{e:aA}{a o a':Int}(c:aY T (st a o) [45]=U)(d:aY T (st a o) [33]=U)(h:bs (λn=>dy T n (st a o)) (e,st a' o)):jS T e a o a':=by
 intro r i;refine bs.step (g:=λn=>(dy T n (st a o)).bind λp=>eg T n p.1 p.2) (λn=> ?_) (h.bind i);rw[fl,c,d];rfl
structure ll(T:List Tok)(m:Nat)(e:aA)(a o a':Int):Prop where
 post:m=7->jS T e a o a'
 full:6<=m->Stop 5 (al T a')->Full T 5 e a o a'
 mK:∀lev,lev<=4->lev+1<=max m 1->Stop (lev+1) (al T a')->qJ T lev e a o a'
def ll.DW{e:aA}{a o a':Int}(h:jS T e a o a')(m:Nat):ll T m e a o a':=
 ⟨λ_=>h,λ_ ax=>h.full ax,λlev c _ ax=>Full.mK c (Full.down ax (4-lev) (lev+1) af (bj _) (by rw[show lev+1+(4-lev)=5 by omega];exact h.full (ax.up af)))⟩
def ll.all{m:Nat}{e:aA}{a o a':Int}(h:ll T m e a o a')(ax:Stop 0 (al T a')):Full T 0 e a o a':=
 (h.mK 0 af af (ax.up af)).full (ax.1 0 af af)
def ll.lev{m lev:Nat}{e:aA}{a o a':Int}(h:ll T m e a o a')(d:lev<=5)(hm:lev+1<=m)(ax:Stop lev (al T a')):Full T lev e a o a':=by
 by_cases c:lev=5
 ·subst c;exact h.full af ax
 ·exact(h.mK lev af af (ax.up af)).full (ax.1 lev (bj _) af)
def kx(w:Tok):Prop:=(w.kind==4&&w.text==[40])=U
def xP{x:aC}(h:((List.range 5).all λl=>dW l ⟨4,x,0,0⟩==0)=X)(aZ:x≠[46]/\x≠[91]):Stop 0 ⟨4,x,0,0⟩:=by
 refine⟨λl _ c=> ?_,λa=> ?_⟩
 ·have:=List.all_eq_true.1 h l (List.mem_range.2 af);simpa using this
 ·rcases a.2 with h|h
  ·exact aZ.1 h
  ·exact aZ.2 h
def wi{a o:Int}{t:Tok}(h:al T a=t)(c:t.kind≠3):∀x,kw x=3->aY T (st a o) x=false:=λx d=>s5 h (by rw[d];exact c)
def pw{a o:Int}{t:Tok}(h:al T a=t)(c:t.kind≠4):∀x,kw x=4->aY T (st a o) x=false:=λx d=>s5 h (by rw[d];exact c)
def gD{a o:Int}{t:Tok}(h:al T a=t){x:aC}(c:t.text≠x):aY T (st a o) x=false:=by
 rw[jb h];have:(t.text==x)=false:=by simpa using c
 rw[this,Bool.and_false]
def h_{a o:Int}{t:Tok}(h:al T a=t){x:aC}(c:t.kind=kw x)(d:t.text=x):aY T (st a o) x=true:=by
 rw[jb h,c,d];simp
def wg{a o a':Int}{e:aA}(h:al T a=⟨4,[40],0,0⟩)(d:0<=a)(l:a'<=20000000)(m:a<=a')(c:0<=o)(k:o+1<=50)(j:Full T 0 e (a+1) (o+1) a')(i:al T a'=⟨4,[41],0,0⟩):bs (λn=>ep T n (st a o)) (e,st (a'+1) o):=by
 refine bs.step (g:=λn=>(dd T n 0 (st (a+1) (o+1))).bind λp=>D (p.1,dc T [41] p.2)) (λn=> ?_) (j.bind ?_)
 ·rw[ep,pN h rfl d af c k]
 ·simp only
  rw[qY i rfl af af c af];exact bs.some _
def uA:Stop 0 ⟨4,[41],0,0⟩:=xP (by decide+kernel) bf
def Pl:Stop 0 ⟨4,[93],0,0⟩:=xP (by decide+kernel) bf
def Pk:Stop 0 ⟨4,[44],0,0⟩:=xP (by decide+kernel) bf
def Lu{a o a':Int}{e:aA}(h:al T a=⟨4,[40],0,0⟩)(c:0<=a)(d:a'<=20000000)(i:a<=a')(l:0<=o)(m:o+1<=50)(k:Full T 0 e (a+1) (o+1) a')(j:al T a'=⟨4,[41],0,0⟩):jS T e a o (a'+1):=by
 refine jS.DU (gD h bf) (gD h bf) (bs.step (g:=λn=>ep T n (st a o)) (λn=> ?_) (wg h c d i l m k j));have hw:=wi (o:=o) h bf;rw[dy,hw _ rfl,hw _ rfl,hw _ rfl,hw _ rfl,hw _ rfl,hw _ rfl,h_ h rfl rfl,show(al T (st a o).at_).kind=4 by rw[h]];simp
end
section
variable {T:List Tok}
def gA(T:List Tok)(d m:Nat)(e:aA):Prop:=∀(a o:Int),0<=a->0<=o->o+d<=50->dt T a (bz (bV m e))->a+((bz (bV m e)).length:Int)<=20000000->kx (al T (a+((bz (bV m e)).length:Int)))->ll T m e.bt a o (a+((bz (bV m e)).length:Int))
def lE{x:aC}(h:x≠[40]):kx ⟨4,x,0,0⟩:=by
 unfold kx;have:(x==[40])=false:=by simpa using h
 simp[this]
def gA.kd{d m:Nat}{e:aA}(hm:m<=7)(p:e.b0=7){l:List Tok}(k:bz (bd e)=l)(H:∀(a o:Int),0<=a->0<=o->o+d<=50->dt T a l->a+(l.length:Int)<=20000000->kx (al T (a+(l.length:Int)))->jS T e.bt a o (a+(l.length:Int))):gA T d m e:=by
 intro a o i n j h c hw;rw[kN af,k]at h c hw ⊢;exact ll.DW (H a o i n j h c hw) m
def gA.whole{d:Nat}{e:aA}(h:gA T d 0 e){a o a':Int}(c:0<=a)(l:0<=o)(k:o+d<=50)(m:dt T a (bz (bd e)))(j:a'=a+((bz (bd e)).length:Int))(i:a'<=20000000)(hw:kx (al T a'))(ax:Stop 0 (al T a')):Full T 0 e.bt a o a':=by
 subst j;have:=h a o c l k (by rw[tv];exact m) (by rw[tv];exact i) (by rw[tv];exact hw);rw[tv]at this;exact this.all ax
def jm(x:aC)(r:List bF):bz (bB x::r)=⟨4,x,0,0⟩::bz r:=rfl
def Gj(x:aC)(r:List bF):bz (wd x::r)=⟨3,x,0,0⟩::bz r:=rfl
def Pz(x:aC)(r:List bF):bz (cp x::r)=⟨1,x,0,0⟩::bz r:=rfl
def uG(r:List bF):bz (cA::r)=bz r:=rfl
def Py:bz []=[]:=rfl
def gA.par'{d m:Nat}{e:aA}(n:gA T d 0 e)(k:e.b0<m)(hm:m<=7):gA T (d+1) m e:=by
 intro a o i l p c h hw;rw[n6 k,jm,hL,jm,Py]at c h hw ⊢;rw[dt,jV,dt]at c;simp only[List.length_cons,List.length_append,List.length_nil]at h hw ⊢;have j:=n.whole (a:=a+1) (o:=o+1) af af af c.2.1 rfl af (by rw[c.2.2.1];exact lE bf) (by rw[c.2.2.1];exact uA);have:=Lu c.1 i af af l af j c.2.2.1;rw[show a+(((bz (bd e)).length+(0+1)+1:Nat):Int)=a+1+((bz (bd e)).length:Int)+1 by omega];exact ll.DW this m
def Jo{a o n:Int}(h:al T a=⟨2,[],n,0⟩)(c:0<=a)(d:a<=20000000):bs (λk=>dy T k (st a o)) (.mk {kind:=1,n:=n} [],st (a+1) o):=
 bs.step (g:=λ_=>D (.mk {kind:=1,n:=n} [],st (a+1) o)) (λk=>by
  rw[dy];simp only[h,h9 c d];rfl) (bs.some _)
def n4{a o:Int}{t:Tok}(h:al T a=t)(c:t.kind≠2):((st a o).aG==0&&(al T (st a o).at_).kind==2)=false:=by
 rw[show al T (st a o).at_=t from h];have:(t.kind==2)=false:=by simpa using c
 rw[this,Bool.and_false]
def Jh{a o n:Int}{x:aC}(h:al T a=⟨3,x,0,0⟩)(e:(x=[116,114,117,101]/\n=1)\/(x=[102,97,108,115,101]/\n=0))(c:0<=a)(d:a<=20000000):bs (λk=>dy T k (st a o)) (.mk {kind:=2,n:=n} [],st (a+1) o):=
 bs.step (g:=λ_=>D (.mk {kind:=2,n:=n} [],st (a+1) o)) (λk=>by
  rw[dy,n4 h (by show(3:Int)≠2;decide)];rcases e with⟨rfl,rfl⟩|⟨rfl,rfl⟩
  ·rw[h_ (x:=[116,114,117,101]) h rfl rfl,Bool.true_or,aW,aR,h9 c d];rw[show al T (st a o).at_=_ from h];rfl
  ·rw[h_ (x:=[102,97,108,115,101]) h rfl rfl,Bool.or_true,aW,aR,h9 c d];rw[show al T (st a o).at_=_ from h];rfl) (bs.some _)
def Jj{a o z:Int}{x:aC}(h:al T a=⟨3,[110,117,108,108],0,0⟩)(i:ix x z)(e:dt T (a+1) (bz (cj x z)))(c:0<=a)(d:a+1+((bz (cj x z)).length:Int)<=20000000):bs (λk=>dy T k (st a o)) (.mk {kind:=3,cf:=x,cS:=z} [],st (a+1+((bz (cj x z)).length:Int)) o):=
 bs.step (g:=λ_=>D (.mk {kind:=3,cf:=x,cS:=z} [],st (a+1+((bz (cj x z)).length:Int)) o)) (λk=>by
  rw[dy,n4 h (by show(3:Int)≠2;decide),gD (x:=[116,114,117,101]) h bf,gD (x:=[102,97,108,115,101]) h bf,h_ (x:=[110,117,108,108]) h rfl rfl,h9 c af,DX i e af d];rw[show al T (st a o).at_=_ from h];rfl) (bs.some _)
def Jx{a o:Int}{x:aC}(h:al T a=⟨1,x,0,0⟩)(d:0<=a)(e:a+1<=20000000)(hw:kx (al T (a+1))):bs (λk=>dy T k (st a o)) (.mk {kind:=4,name:=x} [],st (a+1) o):=
 bs.step (g:=λ_=>D (.mk {kind:=4,name:=x} [],st (a+1) o)) (λk=>by
  have c:=wi (o:=o) h (by show(1:Int)≠3;decide);have aI:aY T (st (a+1) o) [40]=false:=by rw[jb rfl];exact hw
  rw[dy,n4 h (by show(1:Int)≠2;decide),c _ rfl,c _ rfl,c _ rfl,c _ rfl,c _ rfl,c _ rfl,pw (x:=[40]) h (by show(1:Int)≠4;decide) rfl,rE h d af,aI];rw[show al T (st a o).at_=_ from h];rfl) (bs.some _)
def Jk{a o:Int}(h:al T a=⟨3,[114,101,97,100],0,0⟩)(aZ:al T (a+1)=⟨4,[40],0,0⟩)(d:al T (a+1+1)=⟨4,[41],0,0⟩)(e:0<=a)(j:a+3<=20000000)(c:0<=o)(i:o+1<=50):bs (λk=>dy T k (st a o)) (.mk {kind:=11} [],st (a+3) o):=
 bs.step (g:=λ_=>D (.mk {kind:=11} [],st (a+3) o)) (λk=>by
  rw[dy,n4 h (by show(3:Int)≠2;decide),gD (x:=[116,114,117,101]) h bf,gD (x:=[102,97,108,115,101]) h bf,gD (x:=[110,117,108,108]) h bf,gD (x:=[110,101,119]) h bf,gD (x:=[108,101,110]) h bf,h_ (x:=[114,101,97,100]) h rfl rfl,h9 e af,pN aZ rfl af af c i,qY d rfl af af c af];rw[show al T (st a o).at_=_ from h,show a+1+1+1=a+3 by omega];rfl) (bs.some _)
def Ji{a o a':Int}{e:aA}(h:al T a=⟨3,[108,101,110],0,0⟩)(c:0<=a)(i:a+1<=20000000)(d:bs (λn=>ep T n (st (a+1) o)) (e,st a' o)):bs (λk=>dy T k (st a o)) (.mk {kind:=10} [e],st a' o):=
 bs.step (g:=λn=>(ep T n (st (a+1) o)).bind λp=>D (.mk {kind:=10} [p.1],p.2)) (λk=>by
  rw[dy,n4 h (by show(3:Int)≠2;decide),gD (x:=[116,114,117,101]) h bf,gD (x:=[102,97,108,115,101]) h bf,gD (x:=[110,117,108,108]) h bf,gD (x:=[110,101,119]) h bf,h_ (x:=[108,101,110]) h rfl rfl,h9 c af];rw[show al T (st a o).at_=_ from h];rfl) (d.bind (bs.some _))
def Bh{a o:Int}{r:aA×au}(h:al T a=⟨3,[110,101,119],0,0⟩)(c:0<=a)(e:a+1<=20000000)(d:bs (λn=>fj T n 0 (st (a+1) o)) r):bs (λk=>dy T k (st a o)) r:=
 bs.step (g:=λn=>fj T n 0 (st (a+1) o)) (λk=>by
  rw[dy,n4 h (by show(3:Int)≠2;decide),gD (x:=[116,114,117,101]) h bf,gD (x:=[102,97,108,115,101]) h bf,gD (x:=[110,117,108,108]) h bf,h_ (x:=[110,101,119]) h rfl rfl,h9 c af];rw[show al T (st a o).at_=_ from h];rfl) d
def JG{a o:Int}{x:aC}(h:al T a=⟨1,x,0,0⟩)(c:0<=a)(d:a+1<=20000000):bs (λn=>fj T n 0 (st a o)) (.mk {kind:=8,cf:=x} [],st (a+1) o):=
 bs.step (g:=λ_=>D (.mk {kind:=8,cf:=x} [],st (a+1) o)) (λk=>by
  rw[fj,pw (x:=[91]) h (by show(1:Int)≠4;decide) rfl,rE h c af];rfl) (bs.some _)
def JF{a o z a':Int}{x:aC}{e:aA}(h:al T a=⟨4,[91],0,0⟩)(l:ix x z)(j:dt T (a+1) (bz (cj x z)))(d:al T (a+1+((bz (cj x z)).length:Int))=⟨4,[93],0,0⟩)(c:0<=a)(m:a+1+((bz (cj x z)).length:Int)+1<=20000000)(i:bs (λn=>ep T n (st (a+1+((bz (cj x z)).length:Int)+1) o)) (e,st a' o)):bs (λn=>fj T n 0 (st a o)) (.mk {kind:=9,cf:=x,cS:=z} [e],st a' o):=
 bs.step (g:=λn=>(ep T n (st (a+1+((bz (cj x z)).length:Int)+1) o)).bind λp=>D (.mk {kind:=9,cf:=x,cS:=z} [p.1],p.2)) (λk=>by
  rw[fj,h_ (x:=[91]) h rfl rfl,aW,h9 c af,DX l j af af,uD d rfl af af]) (i.bind (bs.some _))
def gI:List aA->List Tok
 |[]=>[]
 |e::es=>⟨4,[44],0,0⟩::(bz (bd e)++gI es)
def Gi:∀(es:List aA) (e:aA),bz (dI (cq (e::es)))=bz (bd e)++gI es
 |[],e=>by rw[cq,cq,dI,gI,List.append_nil]
 |f::es,e=>by
  rw[cq,show cq (f::es)=(f.b0,bd f)::cq es from rfl,dI]
  ·rw[hL,jm,uG,<-show cq (f::es)=(f.b0,bd f)::cq es from rfl,Gi es f,gI]
  ·simp
def EL{a:Int}:∀{es:List aA},dt T a (gI es++[⟨4,[41],0,0⟩])->kx (al T a)/\Stop 0 (al T a)
 |[],h=>by
  rw[show gI []++[⟨4,[41],0,0⟩]=[⟨4,[41],0,0⟩]from rfl,dt]at h;rw[h.1];exact⟨lE bf,uA⟩
 |e::es,h=>by
  rw[gI,List.cons_append,dt]at h;rw[h.1];exact⟨lE bf,Pk⟩
def yU{d:Nat}{o:Int}(k:0<=o)(q:o+1+d<=50):∀(es acc:List aA) (a:Int),(∀e∈es,gA T d 0 e)->0<=a->dt T a (gI es++[⟨4,[41],0,0⟩])->a+((gI es).length:Int)+1<=20000000->bs (λn=>eE T n acc (st a (o+1))) (acc++eM es,st (a+((gI es).length:Int)+1) o)
 |[],acc,a,_,h,c,i=>by
  have l:al T a=⟨4,[41],0,0⟩:=by
   rw[show gI []++[⟨4,[41],0,0⟩]=[⟨4,[41],0,0⟩]from rfl,dt]at c;exact c.1
  refine bs.step (g:=λ_=>D (acc,st (a+1) o)) (λn=> ?_) ?_
  ·rw[eE,gD (x:=[44]) l bf,aR,qY l rfl h (by simp only[gI,List.length_nil]at i;omega) k af]
  ·simp only[gI,eM,List.append_nil,List.length_nil];rw[show a+((0:Nat):Int)+1=a+1 by omega];exact bs.some _
 |e::es,acc,a,j,h,c,i=>by
  rw[gI,List.cons_append,List.append_assoc,dt,jV]at c;simp only[gI,List.length_cons,List.length_append]at i;obtain⟨u,ax⟩:=EL c.2.2;have s:=(j e (List.mem_cons_self)).whole (a:=a+1) (o:=o+1) af af af c.2.1 rfl af u ax;have m:=yU k q es (acc++[e.bt]) (a+1+((bz (bd e)).length:Int)) (λx v=>j x (List.mem_cons_of_mem _ v)) af c.2.2 af;refine bs.step (g:=λn=>(dd T n 0 (st (a+1) (o+1))).bind λp=>eE T n (acc++[p.1]) p.2) (λn=> ?_) (s.bind ?_)
  ·rw[eE,h_ (x:=[44]) c.1 rfl rfl,aW,h9 h af]
  ·simp only[gI,eM,List.length_cons,List.length_append];rw[List.append_assoc]at m;rw[show a+(((bz (bd e)).length+(gI es).length+1:Nat):Int)+1=a+1+((bz (bd e)).length:Int)+((gI es).length:Int)+1 by omega];exact m
end
section
variable {T:List Tok}
def JQ:List aC:=[[116,114,117,101],[102,97,108,115,101],[110,117,108,108],[110,101,119],[108,101,110],[114,101,97,100]]
def sZ(t:Tok):Bool:=t.kind==1||(t.kind==2||((t.kind==3&&e4 t.text JQ)||(t.kind==4&&e4 t.text [[40],[45],[33]])))
def ma(l:List Tok):Prop:=∃t r,l=t::r/\sZ t=X/\t.pos=0
def JR{a o:Int}{t:Tok}(h:al T a=t)(c:sZ t=X){x:aC}(i:kw x=4)(hm:e4 x [[40],[45],[33]]=U):aY T (st a o) x=false:=by
 by_cases d:t.kind=4
 ·unfold sZ at c;rw[d]at c;simp only[show((4:Int)==1)=U from rfl,show((4:Int)==2)=U from rfl,show((4:Int)==3)=U from rfl,show((4:Int)==4)=X from rfl,Bool.false_or,Bool.true_and,Bool.false_and,Bool.or_false]at c;refine gD h λe=> ?_
  rw[e,hm]at c;cases c
 ·exact pw h d _ i
def ma.app{l m:List Tok}(h:ma l):ma (l++m):=by
 obtain⟨t,r,rfl,h⟩:=h;exact⟨t,r++m,rfl,h⟩
def qs(a:bG)(ks:List aA){l:List Tok}(h:bz (kO a (cq ks))=l):bz (bd (.mk a ks))=l:=by rw[dH];exact h
def n7(e:aA):cq [e]=[(e.b0,bd e)]:=by rw[cq,cq]
def D5(e f:aA):cq [e,f]=[(e.b0,bd e),(f.b0,bd f)]:=by rw[cq,n7]
def mC{k p:Int}(h:14<=k)(a b:aA):bd (.mk {kind:=k,pos:=p} [a,b])=bV (cm k) a++cA::bB (ez k)::cA::bV (cm k+1) b:=by
 rw[dH,D5];unfold kO;simp only
 rw[if_neg af,if_neg af,if_neg af,if_neg af,if_neg af,if_neg af,if_neg af,if_neg af,if_neg af,if_neg af,if_neg af,if_neg af,if_neg af];rfl
def mE(x:aC)(p:Int)(e:aA):bd (.mk {kind:=5,name:=x,pos:=p} [e])=bV 7 e++[bB [46],cp x]:=by rw[dH,n7];rfl
def mF(p:Int)(e i:aA):bd (.mk {kind:=6,pos:=p} [e,i])=bV 7 e++bB [91]::(bd i++[bB [93]]):=by rw[dH,D5];rfl
def kP{k p:Int}(h:k=12\/k=13)(e:aA):bd (.mk {kind:=k,pos:=p} [e])=bB (bif k==12 then[45]else[33])::bV 6 e:=by
 rcases h with rfl|rfl<;>(rw[dH,n7];rfl)
def mD(x:aC)(p:Int)(l:List aA):bd (.mk {kind:=7,name:=x,pos:=p} l)=cp x::bB [40]::(dI (cq l)++[bB [41]]):=by rw[dH];rfl
def mH(x:aC)(z p:Int)(e:aA):bd (.mk {kind:=9,cf:=x,cS:=z,pos:=p} [e])=wd [110,101,119]::cA::bB [91]::(cj x z++bB [93]::bB [40]::(bd e++[bB [41]])):=by rw[dH,n7];rfl
def mG(p:Int)(e:aA):bd (.mk {kind:=10,pos:=p} [e])=wd [108,101,110]::bB [40]::(bd e++[bB [41]]):=by rw[dH,n7];rfl
def w_{m:Nat}{e:aA}(h:ma (bz (bd e))):ma (bz (bV m e)):=by
 by_cases a:e.b0<m
 ·rw[n6 a,jm];exact⟨_,_,rfl,rfl,rfl⟩
 ·rw[kN a];exact h
def JS{d m:Nat}{e:aA}(h:ct d m e):ma (bz (bd e)):=by
 induction h with
 |par _ _ _ a=>exact a
 |int=>rw[dH];exact⟨_,_,rfl,rfl,rfl⟩
 |bool _ i=>rw[dH];rcases i with rfl|rfl<;>exact⟨_,_,rfl,rfl,rfl⟩
 |null=>rw[dH];exact⟨_,_,rfl,rfl,rfl⟩
 |var=>rw[dH];exact⟨_,_,rfl,rfl,rfl⟩
 |field _ _ _ a=>rw[mE,hL];exact(w_ a).app
 |item _ _ _ a _=>rw[mF,hL];exact(w_ a).app
 |call=>rw[mD];exact⟨_,_,rfl,rfl,rfl⟩
 |new=>rw[dH];exact⟨_,_,rfl,rfl,rfl⟩
 |make=>rw[mH];exact⟨_,_,rfl,rfl,rfl⟩
 |len=>rw[mG];exact⟨_,_,rfl,rfl,rfl⟩
 |read=>rw[dH];exact⟨_,_,rfl,rfl,rfl⟩
 |sign _ c _ _=>
  rw[kP c,jm];rcases c with rfl|rfl<;>exact⟨_,_,rfl,rfl,rfl⟩
 |bin _ c _ _ _ a _=>rw[mC c,hL];exact(w_ a).app
def OY{k:Int}(h:14<=k)(aZ:k<=24):dW (cm k-1) ⟨4,ez k,0,0⟩=k/\Stop (cm k) ⟨4,ez k,0,0⟩/\kx ⟨4,ez k,0,0⟩:=by
 have n:k=14\/k=15\/k=16\/k=17\/k=18\/k=19\/k=20\/k=21\/k=22\/k=23\/k=24:=af;have key:∀k:Int,(dW (cm k-1) ⟨4,ez k,0,0⟩==k&&((List.range 5).all λl=>decide (l<cm k)||dW l ⟨4,ez k,0,0⟩==0)&&(ez k != [46]&&(ez k != [91]&&ez k != [40])))=X->dW (cm k-1) ⟨4,ez k,0,0⟩=k/\Stop (cm k) ⟨4,ez k,0,0⟩/\kx ⟨4,ez k,0,0⟩:=by
  intro k c;simp only[Bool.and_eq_true,beq_iff_eq,bne_iff_ne]at c;obtain⟨⟨d,e⟩,i,j,m⟩:=c;refine⟨d,⟨λl o p=> ?_,λa=> ?_⟩,lE m⟩
  ·have:=List.all_eq_true.1 e l (List.mem_range.2 af);simp only[Bool.or_eq_true,decide_eq_true_eq,beq_iff_eq]at this;rcases this with h|h
   ·omega
   ·exact h
  ·rcases a.2 with a|a
   ·exact i a
   ·exact j a
 apply key;rcases n with rfl|rfl|rfl|rfl|rfl|rfl|rfl|rfl|rfl|rfl|rfl<;>decide+kernel
def pn(a:bG):(aA.mk a []).bt= .mk a.bt []:=by rw[j2];rfl
def sP(a:bG)(e:aA):(aA.mk a [e]).bt= .mk a.bt [e.bt]:=by rw[j2];rfl
def zY(a:bG)(e f:aA):(aA.mk a [e,f]).bt= .mk a.bt [e.bt,f.bt]:=by rw[j2];rfl
def lD{a o a':Int}{t:Tok}{e:aA}(h:al T a=t)(c:t.kind≠4)(d:bs (λn=>dy T n (st a o)) (e,st a' o)):jS T e a o a':=
 jS.DU (pw h c _ rfl) (pw h c _ rfl) d
def LC{d m:Nat}{e:aA}(h:ct d m e):gA T d m e:=by
 induction h with
 |par _ H hm B=>exact B.par' H hm
 | @int d m n p hm _ _=>
  refine gA.kd hm (show cm 1=7 by decide) (l:=[⟨2,[],n,0⟩]) (qs _ _ rfl) λa o u s w c j _=> ?_
  simp only[dt,List.length_cons,List.length_nil]at c j ⊢;rw[pn];exact lD c.1 (by show(2:Int)≠4;decide) (Jo c.1 u af)
 | @bool d m n p hm N=>
  refine gA.kd hm (show cm 2=7 by decide) (l:=[⟨3,bif n==1 then[116,114,117,101]else[102,97,108,115,101],0,0⟩]) (qs _ _ rfl) λa o u s w c j _=> ?_
  simp only[dt,List.length_cons,List.length_nil]at c j ⊢;rw[pn];refine lD c.1 (by show(3:Int)≠4;decide) (Jh c.1 ?_ u af);rcases N with rfl|rfl
  ·exact .inr ⟨rfl,rfl⟩
  ·exact .inl ⟨rfl,rfl⟩
 | @null d m x z p hm E=>
  refine gA.kd hm (show cm 3=7 by decide) (l:=⟨3,[110,117,108,108],0,0⟩::bz (cj x z)) (qs _ _ rfl) λa o u s w c j _=> ?_
  simp only[dt,List.length_cons]at c j ⊢;rw[pn,show a+(((bz (cj x z)).length+1:Nat):Int)=a+1+((bz (cj x z)).length:Int) by omega];exact lD c.1 (by show(3:Int)≠4;decide) (Jj (x:=x) (z:=z) c.1 E c.2 u af)
 | @var d m x p hm E=>
  refine gA.kd hm (show cm 4=7 by decide) (l:=[⟨1,x,0,0⟩]) (qs _ _ rfl) λa o u s w c j hw=> ?_
  simp only[dt,List.length_cons,List.length_nil]at c j hw ⊢;rw[pn];exact lD c.1 (by show(1:Int)≠4;decide) (Jx c.1 u af hw)
 | @field d m x p e hm E _ B=>
  refine gA.kd hm (show cm 5=7 by decide) (l:=bz (bV 7 e)++[⟨4,[46],0,0⟩,⟨1,x,0,0⟩]) (by rw[mE,hL];rfl) λa o u s w c j hw=> ?_
  rw[jV]at c;simp only[dt,List.length_append,List.length_cons,List.length_nil]at c j ⊢;obtain⟨t1,t2,t3,-⟩:=c;have P:=(B a o u s w t1 af (by rw[t2];exact lE bf)).post rfl;rw[sP];intro r G;refine P r (bs.step (λn=> ?_) G);rw[eg,h_ (x:=[46]) t2 rfl rfl,aW,h9 af af,rE t3 af af,show al T (st (a+((bz (bV 7 e)).length:Int)) o).at_=_ from t2,show a+(((bz (bV 7 e)).length+(0+1+1):Nat):Int)=a+((bz (bV 7 e)).length:Int)+1+1 by omega];rfl
 | @item d m p e i hm _ _ ih1 ih2=>
  refine gA.kd hm (show cm 6=7 by decide) (l:=bz (bV 7 e)++⟨4,[91],0,0⟩::(bz (bd i)++[⟨4,[93],0,0⟩])) (by rw[mF,hL,jm,hL];rfl) λa o u s w c j hw=> ?_
  rw[jV,dt,jV]at c;simp only[dt,List.length_append,List.length_cons,List.length_nil]at c j ⊢;obtain⟨t1,t2,t3,t4,-⟩:=c;have P:=(ih1 a o u s w t1 af (by rw[t2];exact lE bf)).post rfl;have F:=ih2.whole (a:=a+((bz (bV 7 e)).length:Int)+1) (o:=o+1) af af af t3 rfl af (by rw[t4];exact lE bf) (by rw[t4];exact Pl);rw[zY];intro r G;refine P r (bs.step (g:=λn=>(dd T n 0 (st (a+((bz (bV 7 e)).length:Int)+1) (o+1))).bind λp=>eg T n (.mk {kind:=6} [e.bt,p.1]) (dc T [93] p.2)) (λn=> ?_) (F.bind ?_))
  ·rw[eg,gD (x:=[46]) t2 bf,h_ (x:=[91]) t2 rfl rfl,aR,aW,pN t2 rfl af af s af,show al T (st (a+((bz (bV 7 e)).length:Int)) o).at_=_ from t2]
  ·simp only
   rw[qY t4 rfl af af s af];rw[show a+(((bz (bV 7 e)).length+((bz (bd i)).length+(0+1)+1):Nat):Int)=a+((bz (bV 7 e)).length:Int)+1+((bz (bd i)).length:Int)+1 by omega]at G;exact G
 | @call d m x p l hm E H B=>
  refine gA.kd hm (show cm 7=7 by decide) (l:=⟨1,x,0,0⟩::⟨4,[40],0,0⟩::(bz (dI (cq l))++[⟨4,[41],0,0⟩])) (by rw[mD,Pz,jm,hL];rfl) λa o u s w c j hw=> ?_
  simp only[dt,List.length_append,List.length_cons,List.length_nil]at c j ⊢;obtain⟨t1,t2,t3⟩:=c;have A:bs (λn=>e2 T n (st (a+1) o)) (eM l,st (a+1+1+((bz (dI (cq l))).length:Int)+1) o):=by
   cases l with
   |nil=>
    rw[show bz (dI (cq []))=[]from rfl]at t3 j ⊢;rw[List.nil_append,dt]at t3;refine bs.step (g:=λ_=>D (eM [],st (a+1+1+(([]:List Tok).length:Int)+1) o)) (λn=> ?_) (bs.some _);simp only[List.length_nil]at j;rw[e2,pN t2 rfl af af s af,h_ (x:=[41]) t3.1 rfl rfl,aW,qY t3.1 rfl af af s af];simp[eM]
   |cons e es=>
    rw[Gi]at t3 j ⊢;rw[List.append_assoc,jV]at t3;simp only[List.length_append]at j ⊢;obtain⟨N,ax⟩:=EL t3.2;have F:=(B e (List.mem_cons_self)).whole (a:=a+1+1) (o:=o+1) af af af t3.1 rfl af N ax;have L:=yU (T:=T) (d:=d) (o:=o) s af es [e.bt] (a+1+1+((bz (bd e)).length:Int)) (λy ag=>B y (List.mem_cons_of_mem _ ag)) af t3.2 af;obtain⟨t,r,he,W,-⟩:=JS (H e (List.mem_cons_self));have am:al T (a+1+1)=t:=by
     have:=t3.1;rw[he,dt]at this;exact this.1
    have ak:aY T (st (a+1+1) (o+1)) [41]=false:=JR am W rfl bf;refine bs.step (g:=λn=>(dd T n 0 (st (a+1+1) (o+1))).bind λp=>eE T n [p.1] p.2) (λn=> ?_) (F.bind ?_)
    ·rw[e2,pN t2 rfl af af s af,ak,aR]
    ·rw[show a+1+1+(((bz (bd e)).length+(gI es).length:Nat):Int)+1=a+1+1+((bz (bd e)).length:Int)+((gI es).length:Int)+1 by omega];exact L
  rw[j2,show a+(((bz (dI (cq l))).length+(0+1)+1+1:Nat):Int)=a+1+1+((bz (dI (cq l))).length:Int)+1 by omega];refine lD t1 (by show(1:Int)≠4;decide) (bs.step (g:=λn=>(e2 T n (st (a+1) o)).bind λp=>D (.mk {kind:=7,name:=x} p.1,p.2)) (λk=> ?_) (A.bind (bs.some _)));have v:=wi (o:=o) t1 (by show(1:Int)≠3;decide);rw[dy,n4 t1 (by show(1:Int)≠2;decide),v _ rfl,v _ rfl,v _ rfl,v _ rfl,v _ rfl,v _ rfl,pw (x:=[40]) t1 (by show(1:Int)≠4;decide) rfl,rE t1 u af,h_ (x:=[40]) t2 rfl rfl];rw[show al T (st a o).at_=_ from t1];rfl
 | @new d m x p hm E=>
  refine gA.kd hm (show cm 8=7 by decide) (l:=[⟨3,[110,101,119],0,0⟩,⟨1,x,0,0⟩]) (qs _ _ rfl) λa o u s w c j hw=> ?_
  simp only[dt,List.length_cons,List.length_nil]at c j ⊢;rw[pn,show a+((0+1+1:Nat):Int)=a+1+1 by omega];exact lD c.1 (by show(3:Int)≠4;decide) (Bh c.1 u af (JG c.2.1 af af))
 | @make d m x z p e hm E _ B=>
  refine gA.kd hm (show cm 9=7 by decide) (l:=⟨3,[110,101,119],0,0⟩::⟨4,[91],0,0⟩::(bz (cj x z)++⟨4,[93],0,0⟩::⟨4,[40],0,0⟩::(bz (bd e)++[⟨4,[41],0,0⟩]))) (by rw[mH,Gj,uG,jm,hL,jm,jm,hL];rfl) λa o u s w c j hw=> ?_
  simp only[dt,jV,List.length_append,List.length_cons,List.length_nil]at c j ⊢;obtain⟨t1,t2,t3,t4,t5,t6,t7,-⟩:=c;have F:=B.whole (a:=a+1+1+((bz (cj x z)).length:Int)+1+1) (o:=o+1) af af af t6 rfl af (by rw[t7];exact lE bf) (by rw[t7];exact uA);rw[sP,show a+(((bz (cj x z)).length+((bz (bd e)).length+(0+1)+1+1)+1+1:Nat):Int)=a+1+1+((bz (cj x z)).length:Int)+1+1+((bz (bd e)).length:Int)+1 by omega];exact lD t1 (by show(3:Int)≠4;decide) (Bh t1 u af (JF (x:=x) (z:=z) t2 E t3 t4 af af (wg t5 af af af s af F t7)))
 | @len d m p e hm _ B=>
  refine gA.kd hm (show cm 10=7 by decide) (l:=⟨3,[108,101,110],0,0⟩::⟨4,[40],0,0⟩::(bz (bd e)++[⟨4,[41],0,0⟩])) (by rw[mG,Gj,jm,hL];rfl) λa o u s w c j hw=> ?_
  simp only[dt,jV,List.length_append,List.length_cons,List.length_nil]at c j ⊢;obtain⟨t1,t2,t3,t4,-⟩:=c;have F:=B.whole (a:=a+1+1) (o:=o+1) af af af t3 rfl af (by rw[t4];exact lE bf) (by rw[t4];exact uA);rw[sP,show a+(((bz (bd e)).length+(0+1)+1+1:Nat):Int)=a+1+1+((bz (bd e)).length:Int)+1 by omega];exact lD t1 (by show(3:Int)≠4;decide) (Ji t1 u af (wg t2 af af af s af F t4))
 | @read d m p hm=>
  refine gA.kd hm (show cm 11=7 by decide) (l:=[⟨3,[114,101,97,100],0,0⟩,⟨4,[40],0,0⟩,⟨4,[41],0,0⟩]) (qs _ _ rfl) λa o u s w c j hw=> ?_
  simp only[dt,List.length_cons,List.length_nil]at c j ⊢;rw[pn,show a+((0+1+1+1:Nat):Int)=a+3 by omega];exact lD c.1 (by show(3:Int)≠4;decide) (Jk c.1 c.2.1 c.2.2.1 u af s af)
 | @sign d m k p e hm v _ B=>
  intro a o u s w c j hw;have V:¬(aA.mk {kind:=k,pos:=p} [e]).b0<m:=by
   have:(aA.mk {kind:=k,pos:=p} [e]).b0=6:=by
    rcases v with rfl|rfl
    ·exact(show cm 12=6 by decide)
    ·exact(show cm 13=6 by decide)
   omega
  rw[kN V,kP v,jm]at c j hw ⊢;simp only[dt,List.length_cons]at c j hw ⊢;obtain⟨t1,t2⟩:=c;rw[show a+(((bz (bV 6 e)).length+1:Nat):Int)=a+1+((bz (bV 6 e)).length:Int) by omega]at j hw ⊢;have full:Stop 5 (al T (a+1+((bz (bV 6 e)).length:Int)))->Full T 5 (aA.mk {kind:=k,pos:=p} [e]).bt a o (a+1+((bz (bV 6 e)).length:Int)):=λax=>by
   have F:=(B (a+1) (o+1) af af af t2 j hw).full (bj 6) ax;rw[sP];refine bs.step (g:=λn=>fl T n (st a o)) (λn=>by rw[dd,if_pos rfl]) (bs.step (g:=λn=>gN T n k (st a o)) (λn=> ?_) (bs.step (g:=λn=>(dd T n 5 (st (a+1) (o+1))).bind λq=>D (.mk {kind:=k} [q.1],eh q.2)) (λn=> ?_) (F.bind ?_)))
   ·rcases v with rfl|rfl
    ·rw[fl,h_ (x:=[45]) t1 rfl rfl];rfl
    ·rw[fl,gD (x:=[45]) t1 bf,h_ (x:=[33]) t1 rfl rfl];rfl
   ·have E:kw (bif k==12 then[45]else[33])=4:=by rcases v with rfl|rfl<;>rfl
    rw[gN,show al T (st a o).at_=_ from t1,pN t1 E u af s af]
   ·simp only
    rw[D3 s af];exact bs.some _
  exact⟨λh=>af,λ_ ax=>full ax,λlev M _ ax=>Full.mK M (Full.down ax (4-lev) (lev+1) af (bj _) (by rw[show lev+1+(4-lev)=5 by omega];exact full (ax.up af)))⟩
 | @bin d m k p x y hm v O _ _ ah ai=>
  intro a o u s w c j hw;obtain⟨aq,aj⟩:=KP v O;obtain⟨s1,s2,fc⟩:=OY v O;have ad:¬(aA.mk {kind:=k,pos:=p} [x,y]).b0<m:=by
   show¬cm k<m;omega
  rw[kN ad,mC v,hL,uG,jm,uG]at c j hw ⊢;rw[jV,dt]at c;simp only[List.length_append,List.length_cons]at j hw ⊢;obtain⟨t1,t2,t3⟩:=c;generalize ao:cm k=L at*;rw[show a+(((bz (bV L x)).length+((bz (bV (L+1) y)).length+1):Nat):Int)=a+((bz (bV L x)).length:Int)+1+((bz (bV (L+1) y)).length:Int) by omega]at j hw ⊢;have an:=ah a o u s af t1 af (by rw[t2];exact fc);have Y:=ai (a+((bz (bV L x)).length:Int)+1) o af s af t3 j hw;generalize bz (bV L x)=K at*;generalize bz (bV (L+1) y)=Q at*;have ae:Stop L (al T (a+(K.length:Int)+1+(Q.length:Int)))->qJ T (L-1) (aA.mk {kind:=k,pos:=p} [x,y]).bt a o (a+(K.length:Int)+1+(Q.length:Int)):=λax r G=>by
   have S:=an.mK (L-1) af af (by rw[show L-1+1=L by omega,t2];exact s2);have R:=Y.lev (lev:=L) aj (bj _) ax;rw[zY]at G;refine S r (bs.step (g:=λn=>(dd T n L (st (a+(K.length:Int)+1) o)).bind λq=>e_ T n (L-1) (.mk {kind:=k} [x.bt,q.1]) q.2) (λn=> ?_) (R.bind G));rw[e_,show al T (st (a+(K.length:Int)) o).at_=_ from t2,s1,show L-1+1=L by omega,h9 af af];have aa:(k != 0)=true:=by simp only[bne_iff_ne];omega
   rw[aa];rfl
  refine⟨λh=>af,λh=>af,λlev M H ax=> ?_⟩;have ab:lev+1<=L:=af;by_cases ap:lev+1=L
  ·have:=ae (ax.up af);rw[show L-1=lev by omega]at this;exact this
  ·have F:=(ae (ax.up ab)).full (ax.1 (L-1) af af);exact Full.mK M (Full.down ax (L-1-(lev+1)) (lev+1) af (bj _) (by rw[show lev+1+(L-1-(lev+1))=L-1 by omega];exact F))
end
section
variable {T:List Tok}
def jZ{α β:Type}{x y:Option α}{f g:α->Option β}{r:β}(h:x.bind f=D r)(e:∀p,x=D p->y=D p)(d:∀p,f p=D r->g p=D r):y.bind g=D r:=by
 obtain⟨p,a,c⟩:=cZ.1 h;rw[e p a];exact d p c
def hQ{α:Type}{c:Bool}{a a' b cl:Option α}{r:α}(h:(bif c then a else b)=D r)(d:a=D r->a'=D r)(e:b=D r->cl=D r):(bif c then a' else cl)=D r:=by
 cases c
 ·exact e h
 ·exact d h
structure Ho(T:List Tok)(n:Nat):Prop where
 an:∀lev s r,dd T n lev s=some r->dd T (n+1) lev s=some r
 aE:∀lev e s r,e_ T n lev e s=some r->e_ T (n+1) lev e s=some r
 bn:∀s r,fl T n s=some r->fl T (n+1) s=some r
 b8:∀k s r,gN T n k s=some r->gN T (n+1) k s=some r
 dK:∀e s r,eg T n e s=some r->eg T (n+1) e s=some r
 kG:∀s r,ep T n s=some r->ep T (n+1) s=some r
 nK:∀s r,dy T n s=some r->dy T (n+1) s=some r
 lu:∀p s r,fj T n p s=some r->fj T (n+1) p s=some r
 q3:∀s r,e2 T n s=some r->e2 T (n+1) s=some r
 q4:∀l s r,eE T n l s=some r->eE T (n+1) l s=some r
def Dy:∀n,Ho T n
 |0=>⟨λ_ _ _ h=>(by rw[dd]at h;cases h),λ_ _ _ _ h=>(by rw[e_]at h;cases h),λ_ _ h=>(by rw[fl]at h;cases h),λ_ _ _ h=>(by rw[gN]at h;cases h),λ_ _ _ h=>(by rw[eg]at h;cases h),λ_ _ h=>(by rw[ep]at h;cases h),λ_ _ h=>(by rw[dy]at h;cases h),λ_ _ _ h=>(by rw[fj]at h;cases h),λ_ _ h=>(by rw[e2]at h;cases h),λ_ _ _ h=>(by rw[eE]at h;cases h)⟩
 |n+1=>by
  have i:=Dy n;refine⟨λlev s r h=> ?_,λlev e s r h=> ?_,λs r h=> ?_,λk s r h=> ?_,λe s r h=> ?_,λs r h=> ?_,λs r h=> ?_,λp s r h=> ?_,λs r h=> ?_,λl s r h=> ?_⟩
  ·rw[dd]at h ⊢;split at h
   ·rename_i a;rw[if_pos a];exact i.bn _ _ h
   ·rename_i a;rw[if_neg a];exact jZ h (i.an _ _) λp=>i.aE _ _ _ _
  ·rw[e_]at h ⊢;exact hQ h (λh=>jZ h (i.an _ _) λp=>i.aE _ _ _ _) id
  ·rw[fl]at h ⊢;exact hQ h (i.b8 _ _ _) λh=>hQ h (i.b8 _ _ _) λh=>jZ h (i.nK _) λp=>i.dK _ _ _
  ·rw[gN]at h ⊢;exact jZ h (i.an _ _) λp=>id
  ·rw[eg]at h ⊢;exact hQ h (i.dK _ _ _) λh=>hQ h (λh=>jZ h (i.an _ _) λp=>i.dK _ _ _) id
  ·rw[ep]at h ⊢;exact jZ h (i.an _ _) λp=>id
  ·rw[dy]at h ⊢;exact hQ h id λh=>hQ h id λh=>hQ h id λh=>hQ h (i.lu _ _ _) λh=>hQ h (λh=>jZ h (i.kG _) λp=>id) λh=>hQ h id λh=>hQ h (i.kG _ _) λh=>hQ h (λh=>jZ h (i.q3 _) λp=>id) id
  ·rw[fj]at h ⊢;exact hQ h (λh=>jZ h (i.kG _) λp=>id) id
  ·rw[e2]at h ⊢;exact hQ h id λh=>jZ h (i.an _ _) λp=>i.q4 _ _ _
  ·rw[eE]at h ⊢;exact hQ h (λh=>jZ h (i.an _ _) λp=>i.q4 _ _ _) id
end
def pad(deep:Nat):aC:=List.replicate (2*deep) 32
def qw:aC:=[118,97,114]
def qu:aC:=[108,101,116]
def l9:aC:=[105,102]
def sr:aC:=[101,108,115,101]
def qx:aC:=[119,104,105,108,101]
def nt:aC:=[114,101,116,117,114,110]
def qv:aC:=[112,114,105,110,116]
def nl:bF:= .b [10]
def ag(es:List aA):List bF:=match es with
 |e::_=>bd e
 |[]=>[]
def av(es:List aA):List bF:=match es with
 |_::e::_=>bd e
 |_=>[]
def kb(x:aC)(o:aC)(z:Int):List bF:=cp x::bB [58]::cA::cj o z
def ib(d:aC)(B:List bF):List bF:=cA::bB [123]::nl::(B++[.b d,bB [125]])
def ic(a:b9)(es:List aA)(B:List bF)(ce:Bool)(zC:List bF)(d:aC):List bF:=
 if a.kind=1 then wd qw::cA::(kb a.name a.cf a.cS++[bB [59]])
 else if a.kind=2 then wd qu::cA::(kb a.name a.cf a.cS++cA::bB [61]::cA::(ag es++[bB [59]]))
 else if a.kind=3 then cp a.name::cA::bB [61]::cA::(ag es++[bB [59]])
 else if a.kind=4 then ag es++cA::bB [61]::cA::(av es++[bB [59]])
 else if a.kind=7 then wd nt::((match es with
  |e::_=>cA::bd e
  |[]=>[])++[bB [59]])
 else if a.kind=8 then wd qv::cA::(ag es++[bB [59]])
 else if a.kind=9 then ag es++[bB [59]]
 else if a.kind=6 then wd qx::cA::(ag es++ib d B)
 else if a.kind=5 then wd l9::cA::(ag es++(ib d B++bif ce then[]else cA::wd sr::ib d zC))
 else[]
mutual
def gV(deep:Nat):bM->List bF
 | .mk a es b c=> .b (pad deep)::(ic a es (cU (deep+1) b) c.isEmpty (cU (deep+1) c) (pad deep)++[nl])
def cU(deep:Nat):List bM->List bF
 |[]=>[]
 |s::r=>gV deep s++cU deep r
end
section
variable {T:List Tok}
def Ch(t:Tok):Bool:=sZ t||(t.kind==3&&e4 t.text [qw,qu,l9,qx,nt,qv])
def Hn(l:List Tok):Prop:=∃t r,l=t::r/\Ch t=X
def ma.ax{l m:List Tok}(h:ma l):Hn (l++m):=by
 obtain⟨t,r,rfl,h,-⟩:=h;exact⟨t,r++m,rfl,by unfold Ch;rw[h,Bool.true_or]⟩
end
section
variable {T:List Tok}
end
def su:aC:=[114,101,99,111,114,100]
def ss:aC:=[103,108,111,98,97,108]
def ns:aC:=[102,117,110,99]
def gb(p:ch):List bF:=kb p.name p.cf p.cS
def eY:List ch->List bF
 |[]=>[]
 |p::r=> .b [32,32]::(gb p++bB [59]::nl::eY r)
def n8:List ch->List bF
 |[]=>[]
 |p::r=>bB [44]::cA::(gb p++n8 r)
def hq:List ch->List bF
 |[]=>[]
 |p::r=>gb p++n8 r
def tx(r:fo):List bF:=wd su::cA::cp r.name::cA::bB [123]::nl::(eY r.fields++[bB [125],nl])
def tw(p:ch):List bF:=wd ss::cA::(gb p++[bB [59],nl])
def xa(f:Fn):List bF:=wd ns::cA::cp f.name::bB [40]::(hq f.params++bB [41]::((bif f.has then bB [58]::cA::cj f.dS f.rd else[])++(ib [] (cU 1 f.body)++[nl])))
inductive fh where
 |r (x:fo)
 |g (x:ch)
 |f (x:Fn)
def pO:fh->List bF
 | .r x=>tx x
 | .g x=>tw x
 | .f x=>xa x
def cT:List fh->List bF
 |[]=>[]
 |i::l=>pO i++cT l
def dv.add(g:dv):fh->dv
 | .r x=>{g with dk:=g.dk++[x]}
 | .g x=>{g with globals:=g.globals++[x]}
 | .f x=>{g with funcs:=g.funcs++[x]}
def dv.u9(g:dv):List fh->dv
 |[]=>g
 |i::l=>(g.add i).u9 l
structure hg(p:ch):Prop where
 n:dP p.name=true
 o:ix p.cf p.cS
structure o6(r:fo):Prop where
 n:dP r.name=true
 l:r.fields.length<=8
 f:∀p∈r.fields,hg p
structure o5(f:Fn):Prop where
 n:dP f.name=true
 l:f.params.length<=6
 p:∀p∈f.params,hg p
 r:(f.has=true/\ix f.dS f.rd)\/(f.has=false/\f.dS=[]/\f.rd=0)
 b:∃d:Nat,d+1<=50/\∀s∈f.body,ey d s
section
variable {T:List Tok}
