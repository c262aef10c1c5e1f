/-
  Texts of one proof, laid together: Pe Pf Pg Ph Pj Pq Pt Pu.
-/
import Derived.Test.YtghmbpmaafnodaaDoorMH
set_option linter.unusedVariables false
set_option linter.unusedSimpArgs false
set_option linter.defProp false
open Option renaming some→D
open Bool renaming true→X,false→U
namespace Go.Proofs.YtghmbpmaafnodaaDoor
open Go.b9
def bQ(x:aK):bN:= .t ⟨4,x,0,0⟩
def wd(x:aK):bN:= .t ⟨3,x,0,0⟩
def cg(x:aK):bN:= .t ⟨1,x,0,0⟩
def cq:bN:= .b [32]
def q1(x:aK):bN:=bif jl x then wd x else cg x
def rep(n:Nat)(p:bN):List bN:=List.replicate n p
def cX(x:aK)(z:Int):List bN:=rep z.toNat (bQ [91])++q1 x::rep z.toNat (bQ [93])
def gx(k:Int):aK:=match([[43],[45],[42],[47],[37],[60],[60,61],[61,61],[33,61],[38,38],[124,124]]:List aK)[(k-14).toNat]? with
 |some x=>x
 |none=>[]
def par(c:Bool)(l:List bN):List bN:=bif c then bQ [40]::(l++[bQ [41]])else l
def e_(m:Nat)(q:Nat×List bN):List bN:=par (decide (q.1<m)) q.2
def eA:List (Nat×List bN)->List bN
 |[]=>[]
 |[q]=>q.2
 |q::r=>q.2++bQ [44]::cq::eA r
def gb(a:List (Nat×List bN)):Nat×List bN:=a[0]?.getD (0,[])
def aY(a:List (Nat×List bN)):Nat×List bN:=a[1]?.getD (0,[])
def kO(a:bM)(c:List (Nat×List bN)):List bN:=
 if a.kind=1 then[.t ⟨2,[],a.n,0⟩]
 else if a.kind=2 then[wd (bif a.n==1 then[116,114,117,101]else[102,97,108,115,101])]
 else if a.kind=3 then wd [110,117,108,108]::cq::cX a.cc a.c4
 else if a.kind=4 then[cg a.name]
 else if a.kind=5 then e_ 7 (gb c)++[bQ [46],cg a.name]
 else if a.kind=6 then e_ 7 (gb c)++bQ [91]::((aY c).2++[bQ [93]])
 else if a.kind=7 then cg a.name::bQ [40]::(eA c++[bQ [41]])
 else if a.kind=8 then[wd [110,101,119],cq,cg a.cc]
 else if a.kind=9 then wd [110,101,119]::cq::bQ [91]::(cX a.cc a.c4++bQ [93]::bQ [40]::((gb c).2++[bQ [41]]))
 else if a.kind=10 then wd [108,101,110]::bQ [40]::((gb c).2++[bQ [41]])
 else if a.kind=11 then[wd [114,101,97,100],bQ [40],bQ [41]]
 else if a.kind=12 then bQ [45]::e_ 6 (gb c)
 else if a.kind=13 then bQ [33]::e_ 6 (gb c)
 else e_ (c6 a.kind) (gb c)++cq::bQ (gx a.kind)::cq::e_ (c6 a.kind+1) (aY c)
mutual
def bn:aL->List bN
 | .mk a ks=>kO a (c7 ks)
def c7:List aL->List (Nat×List bN)
 |[]=>[]
 |e::es=>(e.cp,bn e)::c7 es
end
def ck(m:Nat)(e:aL):List bN:=e_ m (e.cp,bn e)
def eJ(a:bM)(ks:List aL):bn (.mk a ks)=kO a (c7 ks):=by rw[bn]
def r3{m:Nat}{e:aL}(h:¬e.cp<m):ck m e=bn e:=by unfold ck e_ par;rw[decide_eq_false h];rfl
def vm{m:Nat}{e:aL}(h:e.cp<m):ck m e=bQ [40]::(bn e++[bQ [41]]):=by unfold ck e_ par;rw[decide_eq_true h];rfl
def r2(e:aL):ck 0 e=bn e:=r3 af
def b9{α:Type}(f:Nat->Option α)(r:α):Prop:=∃N,∀n,N<=n->f n=D r
def b9.step{α:Type}{f g:Nat->Option α}{r:α}(e:∀n,f (n+1)=g n)(h:b9 g r):b9 f r:=by
 obtain⟨N,h⟩:=h;refine⟨N+1,λn a=> ?_⟩;obtain⟨m,rfl⟩:∃m,n=m+1:=⟨n-1,af⟩;rw[e,h m af]
def b9.bind{α β:Type}{f:Nat->Option α}{g:Nat->α->Option β}{p:α}{r:β}(h:b9 f p)(k:b9 (λn=>g n p) r):b9 (λn=>(f n).bind (g n)) r:=by
 obtain⟨N,h⟩:=h;obtain⟨M,k⟩:=k;exact⟨max N M,λn a=>by show(f n).bind (g n)=D r;rw[h n af];exact k n af⟩
def b9.some{α:Type}(r:α):b9 (λ_=>D r) r:=⟨0,λ_ _=>rfl⟩
def b9.eq{α:Type}{f g:Nat->Option α}{r:α}(e:∀n,f n=g n)(h:b9 g r):b9 f r:=by
 obtain⟨N,h⟩:=h;exact⟨N,λn a=>by rw[e,h n a]⟩
def tr(T:List Tok):Int->List Tok->Prop
 |_,[]=>True
 |a,t::r=>au T a=t/\tr T (a+1) r
abbrev st(a ai:Int):av:=⟨a,ai,0,0⟩
section
variable {T:List Tok}
def AI{a ai:Int}{t:Tok}(h:au T a=t)(x:aK):a1 T (st a ai) x=(t.kind==kw x&&t.text==x):=by
 unfold a1 b_;rw[h];rfl
end
section
variable {T:List Tok}
def Stop(lev:Nat)(w:Tok):Prop:=(∀l,lev<=l->l<=4->ez l w=0)/\¬(w.kind=4/\(w.text=[46]\/w.text=[91]))
def Stop.up{l m:Nat}{w:Tok}(h:Stop l w)(hm:l<=m):Stop m w:=⟨λk c a=>h.1 k af a,h.2⟩
def tk(T:List Tok)(e:aL)(a ai b0:Int):Prop:=∀r,b9 (λn=>fi T n e (st b0 ai)) r->b9 (λn=>ji T n (st a ai)) r
def rb(T:List Tok)(lev:Nat)(e:aL)(a ai b0:Int):Prop:=∀r,b9 (λn=>hJ T n lev e (st b0 ai)) r->b9 (λn=>dP T n lev (st a ai)) r
def Full(T:List Tok)(lev:Nat)(e:aL)(a ai b0:Int):Prop:=b9 (λn=>dP T n lev (st a ai)) (e,st b0 ai)
def rb.full{lev:Nat}{e:aL}{a ai b0:Int}(h:rb T lev e a ai b0)(hw:ez lev (au T b0)=0):Full T lev e a ai b0:=by
 refine h _ (b9.step (g:=λ_=>D (e,st b0 ai)) (λn=> ?_) (b9.some _));rw[hJ];rw[show ez lev (au T (st b0 ai).at_)=0 from hw];rfl
def Full.vz{lev:Nat}(d:lev<=4){e:aL}{a ai b0:Int}(h:Full T (lev+1) e a ai b0):rb T lev e a ai b0:=by
 intro r c;refine b9.step (g:=λn=>(dP T n (lev+1) (st a ai)).bind λp=>hJ T n lev p.1 p.2) (λn=> ?_) (h.bind c);rw[dP,if_neg af]
def tk.full{e:aL}{a ai b0:Int}(h:tk T e a ai b0)(aB:Stop 5 (au T b0)):Full T 5 e a ai b0:=by
 refine b9.step (g:=λn=>ji T n (st a ai)) (λn=>by rw[dP,if_pos rfl]) (h _ ?_);refine b9.step (g:=λ_=>D (e,st b0 ai)) (λn=> ?_) (b9.some _);have d:a1 T (st b0 ai) [46]=false:=by
  rw[AI rfl];cases c:((au T b0).kind==kw [46]&&(au T b0).text==[46])with
  |false=>rfl
  |true=>
   simp only[Bool.and_eq_true,beq_iff_eq]at c;exact absurd ⟨c.1,.inl c.2⟩ aB.2
 have i:a1 T (st b0 ai) [91]=false:=by
  rw[AI rfl];cases c:((au T b0).kind==kw [91]&&(au T b0).text==[91])with
  |false=>rfl
  |true=>
   simp only[Bool.and_eq_true,beq_iff_eq]at c;exact absurd ⟨c.1,.inr c.2⟩ aB.2
 rw[fi,d,i];rfl
structure pz(T:List Tok)(m:Nat)(e:aL)(a ai b0:Int):Prop where
 post:m=7->tk T e a ai b0
 full:6<=m->Stop 5 (au T b0)->Full T 5 e a ai b0
 vz:∀lev,lev<=4->lev+1<=max m 1->Stop (lev+1) (au T b0)->rb T lev e a ai b0
def pz.all{m:Nat}{e:aL}{a ai b0:Int}(h:pz T m e a ai b0)(aB:Stop 0 (au T b0)):Full T 0 e a ai b0:=
 (h.vz 0 af af (aB.up af)).full (aB.1 0 af af)
def pz.lev{m lev:Nat}{e:aL}{a ai b0:Int}(h:pz T m e a ai b0)(d:lev<=5)(hm:lev+1<=m)(aB:Stop lev (au T b0)):Full T lev e a ai b0:=by
 by_cases c:lev=5
 ·subst c;exact h.full af aB
 ·exact(h.vz lev af af (aB.up af)).full (aB.1 lev (bj _) af)
def wT(w:Tok):Prop:=(w.kind==4&&w.text==[40])=U
end
section
variable {T:List Tok}
def wK(T:List Tok)(d m:Nat)(e:aL):Prop:=∀(a ai:Int),0<=a->0<=ai->ai+d<=50->tr T a (hd (ck m e))->a+((hd (ck m e)).length:Int)<=20000000->wT (au T (a+((hd (ck m e)).length:Int)))->pz T m e.eh a ai (a+((hd (ck m e)).length:Int))
def wK.whole{d:Nat}{e:aL}(h:wK T d 0 e){a ai b0:Int}(c:0<=a)(l:0<=ai)(k:ai+d<=50)(m:tr T a (hd (bn e)))(j:b0=a+((hd (bn e)).length:Int))(i:b0<=20000000)(hw:wT (au T b0))(aB:Stop 0 (au T b0)):Full T 0 e.eh a ai b0:=by
 subst j;have:=h a ai c l k (by rw[r2];exact m) (by rw[r2];exact i) (by rw[r2];exact hw);rw[r2]at this;exact this.all aB
end
section
variable {T:List Tok}
def Hq:List aK:=[[116,114,117,101],[102,97,108,115,101],[110,117,108,108],[110,101,119],[108,101,110],[114,101,97,100]]
def Av(t:Tok):Bool:=t.kind==1||(t.kind==2||((t.kind==3&&gI t.text Hq)||(t.kind==4&&gI t.text [[40],[45],[33]])))
def pw(l:List Tok):Prop:=∃t r,l=t::r/\Av t=X/\t.pos=0
def pw.app{l m:List Tok}(h:pw l):pw (l++m):=by
 obtain⟨t,r,rfl,h⟩:=h;exact⟨t,r++m,rfl,h⟩
def mT(e:aL):c7 [e]=[(e.cp,bn e)]:=by rw[c7,c7]
def B6(e f:aL):c7 [e,f]=[(e.cp,bn e),(f.cp,bn f)]:=by rw[c7,mT]
def qo{k p:Int}(h:14<=k)(a b:aL):bn (.mk {kind:=k,pos:=p} [a,b])=ck (c6 k) a++cq::bQ (gx k)::cq::ck (c6 k+1) b:=by
 rw[eJ,B6];unfold kO;simp only
 rw[if_neg af,if_neg af,if_neg af,if_neg af,if_neg af,if_neg af,if_neg af,if_neg af,if_neg af,if_neg af,if_neg af,if_neg af,if_neg af];rfl
def qq(x:aK)(p:Int)(e:aL):bn (.mk {kind:=5,name:=x,pos:=p} [e])=ck 7 e++[bQ [46],cg x]:=by rw[eJ,mT];rfl
def qs(p:Int)(e i:aL):bn (.mk {kind:=6,pos:=p} [e,i])=ck 7 e++bQ [91]::(bn i++[bQ [93]]):=by rw[eJ,B6];rfl
def mU{k p:Int}(h:k=12\/k=13)(e:aL):bn (.mk {kind:=k,pos:=p} [e])=bQ (bif k==12 then[45]else[33])::ck 6 e:=by
 rcases h with rfl|rfl<;>(rw[eJ,mT];rfl)
def qp(x:aK)(p:Int)(l:List aL):bn (.mk {kind:=7,name:=x,pos:=p} l)=cg x::bQ [40]::(eA (c7 l)++[bQ [41]]):=by rw[eJ];rfl
def qu(x:aK)(z p:Int)(e:aL):bn (.mk {kind:=9,cc:=x,c4:=z,pos:=p} [e])=wd [110,101,119]::cq::bQ [91]::(cX x z++bQ [93]::bQ [40]::(bn e++[bQ [41]])):=by rw[eJ,mT];rfl
def qt(p:Int)(e:aL):bn (.mk {kind:=10,pos:=p} [e])=wd [108,101,110]::bQ [40]::(bn e++[bQ [41]]):=by rw[eJ,mT];rfl
end
section
variable {T:List Tok}
end
def pad(deep:Nat):aK:=List.replicate (2*deep) 32
def pf:aK:=[118,97,114]
def pd:aK:=[108,101,116]
def lg:aK:=[105,102]
def q3:aK:=[101,108,115,101]
def pg:aK:=[119,104,105,108,101]
def mf:aK:=[114,101,116,117,114,110]
def pe:aK:=[112,114,105,110,116]
def nl:bN:= .b [10]
def ag(es:List aL):List bN:=match es with
 |e::_=>bn e
 |[]=>[]
def aw(es:List aL):List bN:=match es with
 |_::e::_=>bn e
 |_=>[]
def jE(x:aK)(ai:aK)(z:Int):List bN:=cg x::bQ [58]::cq::cX ai z
def hM(d:aK)(B:List bN):List bN:=cq::bQ [123]::nl::(B++[.b d,bQ [125]])
def hN(a:b2)(es:List aL)(B:List bN)(ce:Bool)(zC:List bN)(d:aK):List bN:=
 if a.kind=1 then wd pf::cq::(jE a.name a.cc a.c4++[bQ [59]])
 else if a.kind=2 then wd pd::cq::(jE a.name a.cc a.c4++cq::bQ [61]::cq::(ag es++[bQ [59]]))
 else if a.kind=3 then cg a.name::cq::bQ [61]::cq::(ag es++[bQ [59]])
 else if a.kind=4 then ag es++cq::bQ [61]::cq::(aw es++[bQ [59]])
 else if a.kind=7 then wd mf::((match es with
  |e::_=>cq::bn e
  |[]=>[])++[bQ [59]])
 else if a.kind=8 then wd pe::cq::(ag es++[bQ [59]])
 else if a.kind=9 then ag es++[bQ [59]]
 else if a.kind=6 then wd pg::cq::(ag es++hM d B)
 else if a.kind=5 then wd lg::cq::(ag es++(hM d B++bif ce then[]else cq::wd q3::hM d zC))
 else[]
mutual
def gr(deep:Nat):bE->List bN
 | .mk a es b c=> .b (pad deep)::(hN a es (cI (deep+1) b) c.isEmpty (cI (deep+1) c) (pad deep)++[nl])
def cI(deep:Nat):List bE->List bN
 |[]=>[]
 |s::r=>gr deep s++cI deep r
end
section
variable {T:List Tok}
def Aw(t:Tok):Bool:=Av t||(t.kind==3&&gI t.text [pf,pd,lg,pg,mf,pe])
def E_(l:List Tok):Prop:=∃t r,l=t::r/\Aw t=X
def pw.aB{l m:List Tok}(h:pw l):E_ (l++m):=by
 obtain⟨t,r,rfl,h,-⟩:=h;exact⟨t,r++m,rfl,by unfold Aw;rw[h,Bool.true_or]⟩
end
section
variable {T:List Tok}
end
def q5:aK:=[114,101,99,111,114,100]
def q4:aK:=[103,108,111,98,97,108]
def me:aK:=[102,117,110,99]
def fG(p:b7):List bN:=jE p.name p.cc p.c4
def eI:List b7->List bN
 |[]=>[]
 |p::r=> .b [32,32]::(fG p++bQ [59]::nl::eI r)
def mV:List b7->List bN
 |[]=>[]
 |p::r=>bQ [44]::cq::(fG p++mV r)
def gK:List b7->List bN
 |[]=>[]
 |p::r=>fG p++mV r
def r5(r:e1):List bN:=wd q5::cq::cg r.name::cq::bQ [123]::nl::(eI r.fields++[bQ [125],nl])
def r4(p:b7):List bN:=wd q4::cq::(fG p++[bQ [59],nl])
def vn(f:Fn):List bN:=wd me::cq::cg f.name::bQ [40]::(gK f.params++bQ [41]::((bif f.has then bQ [58]::cq::cX f.dF f.rd else[])++(hM [] (cI 1 f.body)++[nl])))
inductive eX where
 |r (x:e1)
 |g (x:b7)
 |f (x:Fn)
def oz:eX->List bN
 | .r x=>r5 x
 | .g x=>r4 x
 | .f x=>vn x
def cH:List eX->List bN
 |[]=>[]
 |i::l=>oz i++cH l
def dm.add(g:dm):eX->dm
 | .r x=>{g with da:=g.da++[x]}
 | .g x=>{g with globals:=g.globals++[x]}
 | .f x=>{g with funcs:=g.funcs++[x]}
def dm.tx(g:dm):List eX->dm
 |[]=>g
 |i::l=>(g.add i).tx l
structure gC(p:b7):Prop where
 n:en p.name=true
 ai:jU p.cc p.c4
structure nU(r:e1):Prop where
 n:en r.name=true
 l:r.fields.length<=8
 f:∀p∈r.fields,gC p
structure nT(f:Fn):Prop where
 n:en f.name=true
 l:f.params.length<=6
 p:∀p∈f.params,gC p
 r:(f.has=true/\jU f.dF f.rd)\/(f.has=false/\f.dF=[]/\f.rd=0)
 b:∃d:Nat,d+1<=50/\∀s∈f.body,ea d s
section
variable {T:List Tok}
