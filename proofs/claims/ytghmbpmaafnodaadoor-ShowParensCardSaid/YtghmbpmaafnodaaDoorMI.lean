/-
  Texts of one proof, laid together: Pe Pf Pg Ph Pj Pq Pt Pu.
-/
import Derived.Test.YtghmbpmaafnodaaDoorMH
set_option linter.unusedVariables false
set_option linter.unusedSimpArgs false
set_option linter.defProp false
open Option renaming some→D
open Bool renaming true→X,false→U
namespace Go.Proofs.YtghmbpmaafnodaaDoor
open Go.b9
def bQ(x:aJ):bN:= .t ⟨4,x,0,0⟩
def wd(x:aJ):bN:= .t ⟨3,x,0,0⟩
def ch(x:aJ):bN:= .t ⟨1,x,0,0⟩
def ct:bN:= .b [32]
def q0(x:aJ):bN:=bif jn x then wd x else ch x
def rep(n:Nat)(p:bN):List bN:=List.replicate n p
def cX(x:aJ)(z:Int):List bN:=rep z.toNat (bQ [91])++q0 x::rep z.toNat (bQ [93])
def gv(k:Int):aJ:=match([[43],[45],[42],[47],[37],[60],[60,61],[61,61],[33,61],[38,38],[124,124]]:List aJ)[(k-14).toNat]? with
 |some x=>x
 |none=>[]
def par(c:Bool)(l:List bN):List bN:=bif c then bQ [40]::(l++[bQ [41]])else l
def e_(m:Nat)(q:Nat×List bN):List bN:=par (decide (q.1<m)) q.2
def eA:List (Nat×List bN)->List bN
 |[]=>[]
 |[q]=>q.2
 |q::r=>q.2++bQ [44]::ct::eA r
def f_(a:List (Nat×List bN)):Nat×List bN:=a[0]?.getD (0,[])
def aZ(a:List (Nat×List bN)):Nat×List bN:=a[1]?.getD (0,[])
def kR(a:bM)(c:List (Nat×List bN)):List bN:=
 if a.kind=1 then[.t ⟨2,[],a.n,0⟩]
 else if a.kind=2 then[wd (bif a.n==1 then[116,114,117,101]else[102,97,108,115,101])]
 else if a.kind=3 then wd [110,117,108,108]::ct::cX a.cf a.c4
 else if a.kind=4 then[ch a.name]
 else if a.kind=5 then e_ 7 (f_ c)++[bQ [46],ch a.name]
 else if a.kind=6 then e_ 7 (f_ c)++bQ [91]::((aZ c).2++[bQ [93]])
 else if a.kind=7 then ch a.name::bQ [40]::(eA c++[bQ [41]])
 else if a.kind=8 then[wd [110,101,119],ct,ch a.cf]
 else if a.kind=9 then wd [110,101,119]::ct::bQ [91]::(cX a.cf a.c4++bQ [93]::bQ [40]::((f_ c).2++[bQ [41]]))
 else if a.kind=10 then wd [108,101,110]::bQ [40]::((f_ c).2++[bQ [41]])
 else if a.kind=11 then[wd [114,101,97,100],bQ [40],bQ [41]]
 else if a.kind=12 then bQ [45]::e_ 6 (f_ c)
 else if a.kind=13 then bQ [33]::e_ 6 (f_ c)
 else e_ (c6 a.kind) (f_ c)++ct::bQ (gv a.kind)::ct::e_ (c6 a.kind+1) (aZ c)
mutual
def bm:aL->List bN
 | .mk a ks=>kR a (c7 ks)
def c7:List aL->List (Nat×List bN)
 |[]=>[]
 |e::es=>(e.cr,bm e)::c7 es
end
def cl(m:Nat)(e:aL):List bN:=e_ m (e.cr,bm e)
def eH(a:bM)(ks:List aL):bm (.mk a ks)=kR a (c7 ks):=by rw[bm]
def r1{m:Nat}{e:aL}(h:¬e.cr<m):cl m e=bm e:=by unfold cl e_ par;rw[decide_eq_false h];rfl
def vj{m:Nat}{e:aL}(h:e.cr<m):cl m e=bQ [40]::(bm e++[bQ [41]]):=by unfold cl e_ par;rw[decide_eq_true h];rfl
def r0(e:aL):cl 0 e=bm e:=r1 af
def b9{α:Type}(f:Nat->Option α)(r:α):Prop:=∃N,∀n,N<=n->f n=D r
def b9.step{α:Type}{f g:Nat->Option α}{r:α}(e:∀n,f (n+1)=g n)(h:b9 g r):b9 f r:=by
 obtain⟨N,h⟩:=h;refine⟨N+1,λn a=> ?_⟩;obtain⟨m,rfl⟩:∃m,n=m+1:=⟨n-1,af⟩;rw[e,h m af]
def b9.bind{α β:Type}{f:Nat->Option α}{g:Nat->α->Option β}{p:α}{r:β}(h:b9 f p)(k:b9 (λn=>g n p) r):b9 (λn=>(f n).bind (g n)) r:=by
 obtain⟨N,h⟩:=h;obtain⟨M,k⟩:=k;exact⟨max N M,λn a=>by show(f n).bind (g n)=D r;rw[h n af];exact k n af⟩
def b9.some{α:Type}(r:α):b9 (λ_=>D r) r:=⟨0,λ_ _=>rfl⟩
def b9.eq{α:Type}{f g:Nat->Option α}{r:α}(e:∀n,f n=g n)(h:b9 g r):b9 f r:=by
 obtain⟨N,h⟩:=h;exact⟨N,λn a=>by rw[e,h n a]⟩
def tm(T:List Tok):Int->List Tok->Prop
 |_,[]=>True
 |a,t::r=>au T a=t/\tm T (a+1) r
abbrev st(a ai:Int):aw:=⟨a,ai,0,0⟩
section
variable {T:List Tok}
def AK{a ai:Int}{t:Tok}(h:au T a=t)(x:aJ):a1 T (st a ai) x=(t.kind==kw x&&t.text==x):=by
 unfold a1 b_;rw[h];rfl
end
section
variable {T:List Tok}
def Stop(lev:Nat)(w:Tok):Prop:=(∀l,lev<=l->l<=4->ez l w=0)/\¬(w.kind=4/\(w.text=[46]\/w.text=[91]))
def Stop.up{l m:Nat}{w:Tok}(h:Stop l w)(hm:l<=m):Stop m w:=⟨λk c a=>h.1 k af a,h.2⟩
def tg(T:List Tok)(e:aL)(a ai bZ:Int):Prop:=∀r,b9 (λn=>fh T n e (st bZ ai)) r->b9 (λn=>jl T n (st a ai)) r
def q_(T:List Tok)(lev:Nat)(e:aL)(a ai bZ:Int):Prop:=∀r,b9 (λn=>hI T n lev e (st bZ ai)) r->b9 (λn=>dP T n lev (st a ai)) r
def Full(T:List Tok)(lev:Nat)(e:aL)(a ai bZ:Int):Prop:=b9 (λn=>dP T n lev (st a ai)) (e,st bZ ai)
def q_.full{lev:Nat}{e:aL}{a ai bZ:Int}(h:q_ T lev e a ai bZ)(hw:ez lev (au T bZ)=0):Full T lev e a ai bZ:=by
 refine h _ (b9.step (g:=λ_=>D (e,st bZ ai)) (λn=> ?_) (b9.some _));rw[hI];rw[show ez lev (au T (st bZ ai).at_)=0 from hw];rfl
def Full.vv{lev:Nat}(d:lev<=4){e:aL}{a ai bZ:Int}(h:Full T (lev+1) e a ai bZ):q_ T lev e a ai bZ:=by
 intro r c;refine b9.step (g:=λn=>(dP T n (lev+1) (st a ai)).bind λp=>hI T n lev p.1 p.2) (λn=> ?_) (h.bind c);rw[dP,if_neg af]
def tg.full{e:aL}{a ai bZ:Int}(h:tg T e a ai bZ)(aB:Stop 5 (au T bZ)):Full T 5 e a ai bZ:=by
 refine b9.step (g:=λn=>jl T n (st a ai)) (λn=>by rw[dP,if_pos rfl]) (h _ ?_);refine b9.step (g:=λ_=>D (e,st bZ ai)) (λn=> ?_) (b9.some _);have d:a1 T (st bZ ai) [46]=false:=by
  rw[AK rfl];cases c:((au T bZ).kind==kw [46]&&(au T bZ).text==[46])with
  |false=>rfl
  |true=>
   simp only[Bool.and_eq_true,beq_iff_eq]at c;exact absurd ⟨c.1,.inl c.2⟩ aB.2
 have i:a1 T (st bZ ai) [91]=false:=by
  rw[AK rfl];cases c:((au T bZ).kind==kw [91]&&(au T bZ).text==[91])with
  |false=>rfl
  |true=>
   simp only[Bool.and_eq_true,beq_iff_eq]at c;exact absurd ⟨c.1,.inr c.2⟩ aB.2
 rw[fh,d,i];rfl
structure pA(T:List Tok)(m:Nat)(e:aL)(a ai bZ:Int):Prop where
 post:m=7->tg T e a ai bZ
 full:6<=m->Stop 5 (au T bZ)->Full T 5 e a ai bZ
 vv:∀lev,lev<=4->lev+1<=max m 1->Stop (lev+1) (au T bZ)->q_ T lev e a ai bZ
def pA.all{m:Nat}{e:aL}{a ai bZ:Int}(h:pA T m e a ai bZ)(aB:Stop 0 (au T bZ)):Full T 0 e a ai bZ:=
 (h.vv 0 af af (aB.up af)).full (aB.1 0 af af)
def pA.lev{m lev:Nat}{e:aL}{a ai bZ:Int}(h:pA T m e a ai bZ)(d:lev<=5)(hm:lev+1<=m)(aB:Stop lev (au T bZ)):Full T lev e a ai bZ:=by
 by_cases c:lev=5
 ·subst c;exact h.full af aB
 ·exact(h.vv lev af af (aB.up af)).full (aB.1 lev (bk _) af)
def wV(w:Tok):Prop:=(w.kind==4&&w.text==[40])=U
end
section
variable {T:List Tok}
def wI(T:List Tok)(d m:Nat)(e:aL):Prop:=∀(a ai:Int),0<=a->0<=ai->ai+d<=50->tm T a (hd (cl m e))->a+((hd (cl m e)).length:Int)<=20000000->wV (au T (a+((hd (cl m e)).length:Int)))->pA T m e.eh a ai (a+((hd (cl m e)).length:Int))
def wI.whole{d:Nat}{e:aL}(h:wI T d 0 e){a ai bZ:Int}(c:0<=a)(l:0<=ai)(k:ai+d<=50)(m:tm T a (hd (bm e)))(j:bZ=a+((hd (bm e)).length:Int))(i:bZ<=20000000)(hw:wV (au T bZ))(aB:Stop 0 (au T bZ)):Full T 0 e.eh a ai bZ:=by
 subst j;have:=h a ai c l k (by rw[r0];exact m) (by rw[r0];exact i) (by rw[r0];exact hw);rw[r0]at this;exact this.all aB
end
section
variable {T:List Tok}
def Hp:List aJ:=[[116,114,117,101],[102,97,108,115,101],[110,117,108,108],[110,101,119],[108,101,110],[114,101,97,100]]
def Ax(t:Tok):Bool:=t.kind==1||(t.kind==2||((t.kind==3&&gG t.text Hp)||(t.kind==4&&gG t.text [[40],[45],[33]])))
def px(l:List Tok):Prop:=∃t r,l=t::r/\Ax t=X/\t.pos=0
def px.app{l m:List Tok}(h:px l):px (l++m):=by
 obtain⟨t,r,rfl,h⟩:=h;exact⟨t,r++m,rfl,h⟩
def mP(e:aL):c7 [e]=[(e.cr,bm e)]:=by rw[c7,c7]
def B8(e f:aL):c7 [e,f]=[(e.cr,bm e),(f.cr,bm f)]:=by rw[c7,mP]
def qp{k p:Int}(h:14<=k)(a b:aL):bm (.mk {kind:=k,pos:=p} [a,b])=cl (c6 k) a++ct::bQ (gv k)::ct::cl (c6 k+1) b:=by
 rw[eH,B8];unfold kR;simp only
 rw[if_neg af,if_neg af,if_neg af,if_neg af,if_neg af,if_neg af,if_neg af,if_neg af,if_neg af,if_neg af,if_neg af,if_neg af,if_neg af];rfl
def qs(x:aJ)(p:Int)(e:aL):bm (.mk {kind:=5,name:=x,pos:=p} [e])=cl 7 e++[bQ [46],ch x]:=by rw[eH,mP];rfl
def qt(p:Int)(e i:aL):bm (.mk {kind:=6,pos:=p} [e,i])=cl 7 e++bQ [91]::(bm i++[bQ [93]]):=by rw[eH,B8];rfl
def mQ{k p:Int}(h:k=12\/k=13)(e:aL):bm (.mk {kind:=k,pos:=p} [e])=bQ (bif k==12 then[45]else[33])::cl 6 e:=by
 rcases h with rfl|rfl<;>(rw[eH,mP];rfl)
def qq(x:aJ)(p:Int)(l:List aL):bm (.mk {kind:=7,name:=x,pos:=p} l)=ch x::bQ [40]::(eA (c7 l)++[bQ [41]]):=by rw[eH];rfl
def qv(x:aJ)(z p:Int)(e:aL):bm (.mk {kind:=9,cf:=x,c4:=z,pos:=p} [e])=wd [110,101,119]::ct::bQ [91]::(cX x z++bQ [93]::bQ [40]::(bm e++[bQ [41]])):=by rw[eH,mP];rfl
def qu(p:Int)(e:aL):bm (.mk {kind:=10,pos:=p} [e])=wd [108,101,110]::bQ [40]::(bm e++[bQ [41]]):=by rw[eH,mP];rfl
end
section
variable {T:List Tok}
end
def pad(deep:Nat):aJ:=List.replicate (2*deep) 32
def pf:aJ:=[118,97,114]
def pd:aJ:=[108,101,116]
def lk:aJ:=[105,102]
def q2:aJ:=[101,108,115,101]
def pg:aJ:=[119,104,105,108,101]
def me:aJ:=[114,101,116,117,114,110]
def pe:aJ:=[112,114,105,110,116]
def nl:bN:= .b [10]
def ag(es:List aL):List bN:=match es with
 |e::_=>bm e
 |[]=>[]
def av(es:List aL):List bN:=match es with
 |_::e::_=>bm e
 |_=>[]
def jG(x:aJ)(ai:aJ)(z:Int):List bN:=ch x::bQ [58]::ct::cX ai z
def hL(d:aJ)(B:List bN):List bN:=ct::bQ [123]::nl::(B++[.b d,bQ [125]])
def hM(a:b1)(es:List aL)(B:List bN)(ce:Bool)(zC:List bN)(d:aJ):List bN:=
 if a.kind=1 then wd pf::ct::(jG a.name a.cf a.c4++[bQ [59]])
 else if a.kind=2 then wd pd::ct::(jG a.name a.cf a.c4++ct::bQ [61]::ct::(ag es++[bQ [59]]))
 else if a.kind=3 then ch a.name::ct::bQ [61]::ct::(ag es++[bQ [59]])
 else if a.kind=4 then ag es++ct::bQ [61]::ct::(av es++[bQ [59]])
 else if a.kind=7 then wd me::((match es with
  |e::_=>ct::bm e
  |[]=>[])++[bQ [59]])
 else if a.kind=8 then wd pe::ct::(ag es++[bQ [59]])
 else if a.kind=9 then ag es++[bQ [59]]
 else if a.kind=6 then wd pg::ct::(ag es++hL d B)
 else if a.kind=5 then wd lk::ct::(ag es++(hL d B++bif ce then[]else ct::wd q2::hL d zC))
 else[]
mutual
def gp(deep:Nat):bE->List bN
 | .mk a es b c=> .b (pad deep)::(hM a es (cH (deep+1) b) c.isEmpty (cH (deep+1) c) (pad deep)++[nl])
def cH(deep:Nat):List bE->List bN
 |[]=>[]
 |s::r=>gp deep s++cH deep r
end
section
variable {T:List Tok}
def Ay(t:Tok):Bool:=Ax t||(t.kind==3&&gG t.text [pf,pd,lk,pg,me,pe])
def Fa(l:List Tok):Prop:=∃t r,l=t::r/\Ay t=X
def px.aB{l m:List Tok}(h:px l):Fa (l++m):=by
 obtain⟨t,r,rfl,h,-⟩:=h;exact⟨t,r++m,rfl,by unfold Ay;rw[h,Bool.true_or]⟩
end
section
variable {T:List Tok}
end
def q4:aJ:=[114,101,99,111,114,100]
def q3:aJ:=[103,108,111,98,97,108]
def mc:aJ:=[102,117,110,99]
def fF(p:b7):List bN:=jG p.name p.cf p.c4
def eG:List b7->List bN
 |[]=>[]
 |p::r=> .b [32,32]::(fF p++bQ [59]::nl::eG r)
def mR:List b7->List bN
 |[]=>[]
 |p::r=>bQ [44]::ct::(fF p++mR r)
def gI:List b7->List bN
 |[]=>[]
 |p::r=>fF p++mR r
def r3(r:e0):List bN:=wd q4::ct::ch r.name::ct::bQ [123]::nl::(eG r.fields++[bQ [125],nl])
def r2(p:b7):List bN:=wd q3::ct::(fF p++[bQ [59],nl])
def vk(f:Fn):List bN:=wd mc::ct::ch f.name::bQ [40]::(gI f.params++bQ [41]::((bif f.has then bQ [58]::ct::cX f.dF f.rd else[])++(hL [] (cH 1 f.body)++[nl])))
inductive eY where
 |r (x:e0)
 |g (x:b7)
 |f (x:Fn)
def oz:eY->List bN
 | .r x=>r3 x
 | .g x=>r2 x
 | .f x=>vk x
def cG:List eY->List bN
 |[]=>[]
 |i::l=>oz i++cG l
def dm.add(g:dm):eY->dm
 | .r x=>{g with da:=g.da++[x]}
 | .g x=>{g with globals:=g.globals++[x]}
 | .f x=>{g with funcs:=g.funcs++[x]}
def dm.tr(g:dm):List eY->dm
 |[]=>g
 |i::l=>(g.add i).tr l
structure gA(p:b7):Prop where
 n:en p.name=true
 ai:jW p.cf p.c4
structure nS(r:e0):Prop where
 n:en r.name=true
 l:r.fields.length<=8
 f:∀p∈r.fields,gA p
structure nR(f:Fn):Prop where
 n:en f.name=true
 l:f.params.length<=6
 p:∀p∈f.params,gA p
 r:(f.has=true/\jW f.dF f.rd)\/(f.has=false/\f.dF=[]/\f.rd=0)
 b:∃d:Nat,d+1<=50/\∀s∈f.body,ea d s
section
variable {T:List Tok}
