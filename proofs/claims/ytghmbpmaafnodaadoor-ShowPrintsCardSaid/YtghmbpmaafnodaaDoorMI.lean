/-
  Texts of one proof, laid together: Pe Pf Pg Ph Pj Pq Pt Pu.
-/
import Derived.Test.YtghmbpmaafnodaaDoorMH
set_option linter.unusedVariables false
set_option linter.unusedSimpArgs false
set_option linter.defProp false
open Option renaming some→D
open Bool renaming true→X,false→U
namespace Go.Proofs.YtghmbpmaafnodaaDoor
open Go.cn
def bO(x:aG):bT:= .t ⟨4,x,0,0⟩
def wd(x:aG):bT:= .t ⟨3,x,0,0⟩
def cq(x:aG):bT:= .t ⟨1,x,0,0⟩
def cf:bT:= .b [32]
def sI(x:aG):bT:=bif j7 x then wd x else cq x
def rep(n:Nat)(p:bT):List bT:=List.replicate n p
def c5(x:aG)(z:Int):List bT:=rep z.toNat (bO [91])++sI x::rep z.toNat (bO [93])
def gZ(k:Int):aG:=match([[43],[45],[42],[47],[37],[60],[60,61],[61,61],[33,61],[38,38],[124,124]]:List aG)[(k-14).toNat]? with
 |some x=>x
 |none=>[]
def par(c:Bool)(l:List bT):List bT:=bif c then bO [40]::(l++[bO [41]])else l
def fv(m:Nat)(q:Nat×List bT):List bT:=par (decide (q.1<m)) q.2
def eQ:List (Nat×List bT)->List bT
 |[]=>[]
 |[q]=>q.2
 |q::r=>q.2++bO [44]::cf::eQ r
def gI(a:List (Nat×List bT)):Nat×List bT:=a[0]?.getD (0,[])
def aT(a:List (Nat×List bT)):Nat×List bT:=a[1]?.getD (0,[])
def l0(a:bK)(c:List (Nat×List bT)):List bT:=
 if a.kind=1 then[.t ⟨2,[],a.n,0⟩]
 else if a.kind=2 then[wd (bif a.n==1 then[116,114,117,101]else[102,97,108,115,101])]
 else if a.kind=3 then wd [110,117,108,108]::cf::c5 a.cp a.c2
 else if a.kind=4 then[cq a.name]
 else if a.kind=5 then fv 7 (gI c)++[bO [46],cq a.name]
 else if a.kind=6 then fv 7 (gI c)++bO [91]::((aT c).2++[bO [93]])
 else if a.kind=7 then cq a.name::bO [40]::(eQ c++[bO [41]])
 else if a.kind=8 then[wd [110,101,119],cf,cq a.cp]
 else if a.kind=9 then wd [110,101,119]::cf::bO [91]::(c5 a.cp a.c2++bO [93]::bO [40]::((gI c).2++[bO [41]]))
 else if a.kind=10 then wd [108,101,110]::bO [40]::((gI c).2++[bO [41]])
 else if a.kind=11 then[wd [114,101,97,100],bO [40],bO [41]]
 else if a.kind=12 then bO [45]::fv 6 (gI c)
 else if a.kind=13 then bO [33]::fv 6 (gI c)
 else fv (dh a.kind) (gI c)++cf::bO (gZ a.kind)::cf::fv (dh a.kind+1) (aT c)
mutual
def bp:aJ->List bT
 | .mk a ks=>l0 a (di ks)
def di:List aJ->List (Nat×List bT)
 |[]=>[]
 |e::es=>(e.cD,bp e)::di es
end
def cw(m:Nat)(e:aJ):List bT:=fv m (e.cD,bp e)
def e0(a:bK)(ks:List aJ):bp (.mk a ks)=l0 a (di ks):=by rw[bp]
def tR{m:Nat}{e:aJ}(h:¬e.cD<m):cw m e=bp e:=by unfold cw fv par;rw[decide_eq_false h];rfl
def xx{m:Nat}{e:aJ}(h:e.cD<m):cw m e=bO [40]::(bp e++[bO [41]]):=by unfold cw fv par;rw[decide_eq_true h];rfl
def tQ(e:aJ):cw 0 e=bp e:=tR af
def cn{α:Type}(f:Nat->Option α)(r:α):Prop:=∃N,∀n,N<=n->f n=D r
def cn.step{α:Type}{f g:Nat->Option α}{r:α}(e:∀n,f (n+1)=g n)(h:cn g r):cn f r:=by
 obtain⟨N,h⟩:=h;refine⟨N+1,λn a=> ?_⟩;obtain⟨m,rfl⟩:∃m,n=m+1:=⟨n-1,af⟩;rw[e,h m af]
def cn.bind{α β:Type}{f:Nat->Option α}{g:Nat->α->Option β}{p:α}{r:β}(h:cn f p)(k:cn (λn=>g n p) r):cn (λn=>(f n).bind (g n)) r:=by
 obtain⟨N,h⟩:=h;obtain⟨M,k⟩:=k;exact⟨max N M,λn a=>by show(f n).bind (g n)=D r;rw[h n af];exact k n af⟩
def cn.some{α:Type}(r:α):cn (λ_=>D r) r:=⟨0,λ_ _=>rfl⟩
def cn.eq{α:Type}{f g:Nat->Option α}{r:α}(e:∀n,f n=g n)(h:cn g r):cn f r:=by
 obtain⟨N,h⟩:=h;exact⟨N,λn a=>by rw[e,h n a]⟩
def vz(T:List Tok):Int->List Tok->Prop
 |_,[]=>True
 |a,t::r=>al T a=t/\vz T (a+1) r
abbrev st(a o:Int):an:=⟨a,o,0,0⟩
section
variable {T:List Tok}
def CL{a o:Int}{t:Tok}(h:al T a=t)(x:aG):aZ T (st a o) x=(t.kind==kw x&&t.text==x):=by
 unfold aZ bo;rw[h];rfl
end
section
variable {T:List Tok}
def Stop(lev:Nat)(w:Tok):Prop:=(∀l,lev<=l->l<=4->eO l w=0)/\¬(w.kind=4/\(w.text=[46]\/w.text=[91]))
def Stop.up{l m:Nat}{w:Tok}(h:Stop l w)(hm:l<=m):Stop m w:=⟨λk c a=>h.1 k af a,h.2⟩
def vs(T:List Tok)(e:aJ)(a o b4:Int):Prop:=∀r,cn (λn=>fC T n e (st b4 o)) r->cn (λn=>j4 T n (st a o)) r
def sS(T:List Tok)(lev:Nat)(e:aJ)(a o b4:Int):Prop:=∀r,cn (λn=>ig T n lev e (st b4 o)) r->cn (λn=>eA T n lev (st a o)) r
def Full(T:List Tok)(lev:Nat)(e:aJ)(a o b4:Int):Prop:=cn (λn=>eA T n lev (st a o)) (e,st b4 o)
def sS.full{lev:Nat}{e:aJ}{a o b4:Int}(h:sS T lev e a o b4)(hw:eO lev (al T b4)=0):Full T lev e a o b4:=by
 refine h _ (cn.step (g:=λ_=>D (e,st b4 o)) (λn=> ?_) (cn.some _));rw[ig];rw[show eO lev (al T (st b4 o).at_)=0 from hw];rfl
def Full.xL{lev:Nat}(d:lev<=4){e:aJ}{a o b4:Int}(h:Full T (lev+1) e a o b4):sS T lev e a o b4:=by
 intro r c;refine cn.step (g:=λn=>(eA T n (lev+1) (st a o)).bind λp=>ig T n lev p.1 p.2) (λn=> ?_) (h.bind c);rw[eA,if_neg af]
def vs.full{e:aJ}{a o b4:Int}(h:vs T e a o b4)(aB:Stop 5 (al T b4)):Full T 5 e a o b4:=by
 refine cn.step (g:=λn=>j4 T n (st a o)) (λn=>by rw[eA,if_pos rfl]) (h _ ?_);refine cn.step (g:=λ_=>D (e,st b4 o)) (λn=> ?_) (cn.some _);have d:aZ T (st b4 o) [46]=false:=by
  rw[CL rfl];cases c:((al T b4).kind==kw [46]&&(al T b4).text==[46])with
  |false=>rfl
  |true=>
   simp only[Bool.and_eq_true,beq_iff_eq]at c;exact absurd ⟨c.1,.inl c.2⟩ aB.2
 have i:aZ T (st b4 o) [91]=false:=by
  rw[CL rfl];cases c:((al T b4).kind==kw [91]&&(al T b4).text==[91])with
  |false=>rfl
  |true=>
   simp only[Bool.and_eq_true,beq_iff_eq]at c;exact absurd ⟨c.1,.inr c.2⟩ aB.2
 rw[fC,d,i];rfl
structure q7(T:List Tok)(m:Nat)(e:aJ)(a o b4:Int):Prop where
 post:m=7->vs T e a o b4
 full:6<=m->Stop 5 (al T b4)->Full T 5 e a o b4
 xL:∀lev,lev<=4->lev+1<=max m 1->Stop (lev+1) (al T b4)->sS T lev e a o b4
def q7.all{m:Nat}{e:aJ}{a o b4:Int}(h:q7 T m e a o b4)(aB:Stop 0 (al T b4)):Full T 0 e a o b4:=
 (h.xL 0 af af (aB.up af)).full (aB.1 0 af af)
def q7.lev{m lev:Nat}{e:aJ}{a o b4:Int}(h:q7 T m e a o b4)(d:lev<=5)(hm:lev+1<=m)(aB:Stop lev (al T b4)):Full T lev e a o b4:=by
 by_cases c:lev=5
 ·subst c;exact h.full af aB
 ·exact(h.xL lev af af (aB.up af)).full (aB.1 lev (bm _) af)
def yP(w:Tok):Prop:=(w.kind==4&&w.text==[40])=U
end
section
variable {T:List Tok}
def yF(T:List Tok)(d m:Nat)(e:aJ):Prop:=∀(a o:Int),0<=a->0<=o->o+d<=50->vz T a (hN (cw m e))->a+((hN (cw m e)).length:Int)<=20000000->yP (al T (a+((hN (cw m e)).length:Int)))->q7 T m e.eo a o (a+((hN (cw m e)).length:Int))
def yF.whole{d:Nat}{e:aJ}(h:yF T d 0 e){a o b4:Int}(c:0<=a)(l:0<=o)(k:o+d<=50)(m:vz T a (hN (bp e)))(j:b4=a+((hN (bp e)).length:Int))(i:b4<=20000000)(hw:yP (al T b4))(aB:Stop 0 (al T b4)):Full T 0 e.eo a o b4:=by
 subst j;have:=h a o c l k (by rw[tQ];exact m) (by rw[tQ];exact i) (by rw[tQ];exact hw);rw[tQ]at this;exact this.all aB
end
section
variable {T:List Tok}
def J6:List aG:=[[116,114,117,101],[102,97,108,115,101],[110,117,108,108],[110,101,119],[108,101,110],[114,101,97,100]]
def Cy(t:Tok):Bool:=t.kind==1||(t.kind==2||((t.kind==3&&hl t.text J6)||(t.kind==4&&hl t.text [[40],[45],[33]])))
def q4(l:List Tok):Prop:=∃t r,l=t::r/\Cy t=X/\t.pos=0
def q4.app{l m:List Tok}(h:q4 l):q4 (l++m):=by
 obtain⟨t,r,rfl,h⟩:=h;exact⟨t,r++m,rfl,h⟩
def oI(e:aJ):di [e]=[(e.cD,bp e)]:=by rw[di,di]
def Ef(e f:aJ):di [e,f]=[(e.cD,bp e),(f.cD,bp f)]:=by rw[di,oI]
def r1{k p:Int}(h:14<=k)(a b:aJ):bp (.mk {kind:=k,pos:=p} [a,b])=cw (dh k) a++cf::bO (gZ k)::cf::cw (dh k+1) b:=by
 rw[e0,Ef];unfold l0;simp only
 rw[if_neg af,if_neg af,if_neg af,if_neg af,if_neg af,if_neg af,if_neg af,if_neg af,if_neg af,if_neg af,if_neg af,if_neg af,if_neg af];rfl
def r3(x:aG)(p:Int)(e:aJ):bp (.mk {kind:=5,name:=x,pos:=p} [e])=cw 7 e++[bO [46],cq x]:=by rw[e0,oI];rfl
def r4(p:Int)(e i:aJ):bp (.mk {kind:=6,pos:=p} [e,i])=cw 7 e++bO [91]::(bp i++[bO [93]]):=by rw[e0,Ef];rfl
def oJ{k p:Int}(h:k=12\/k=13)(e:aJ):bp (.mk {kind:=k,pos:=p} [e])=bO (bif k==12 then[45]else[33])::cw 6 e:=by
 rcases h with rfl|rfl<;>(rw[e0,oI];rfl)
def r2(x:aG)(p:Int)(l:List aJ):bp (.mk {kind:=7,name:=x,pos:=p} l)=cq x::bO [40]::(eQ (di l)++[bO [41]]):=by rw[e0];rfl
def r6(x:aG)(z p:Int)(e:aJ):bp (.mk {kind:=9,cp:=x,c2:=z,pos:=p} [e])=wd [110,101,119]::cf::bO [91]::(c5 x z++bO [93]::bO [40]::(bp e++[bO [41]])):=by rw[e0,oI];rfl
def r5(p:Int)(e:aJ):bp (.mk {kind:=10,pos:=p} [e])=wd [108,101,110]::bO [40]::(bp e++[bO [41]]):=by rw[e0,oI];rfl
end
section
variable {T:List Tok}
end
def pad(deep:Nat):aG:=List.replicate (2*deep) 32
def nU:aG:=[118,97,114]
def nS:aG:=[108,101,116]
def jA:aG:=[105,102]
def pr:aG:=[101,108,115,101]
def nV:aG:=[119,104,105,108,101]
def j5:aG:=[114,101,116,117,114,110]
def nT:aG:=[112,114,105,110,116]
def nl:bT:= .b [10]
def ag(es:List aJ):List bT:=match es with
 |e::_=>bp e
 |[]=>[]
def ar(es:List aJ):List bT:=match es with
 |_::e::_=>bp e
 |_=>[]
def jt(x:aG)(o:aG)(z:Int):List bT:=cq x::bO [58]::cf::c5 o z
def gU(d:aG)(B:List bT):List bT:=cf::bO [123]::nl::(B++[.b d,bO [125]])
def ho(a:b2)(es:List aJ)(B:List bT)(ce:Bool)(zC:List bT)(d:aG):List bT:=
 if a.kind=1 then wd nU::cf::(jt a.name a.cp a.c2++[bO [59]])
 else if a.kind=2 then wd nS::cf::(jt a.name a.cp a.c2++cf::bO [61]::cf::(ag es++[bO [59]]))
 else if a.kind=3 then cq a.name::cf::bO [61]::cf::(ag es++[bO [59]])
 else if a.kind=4 then ag es++cf::bO [61]::cf::(ar es++[bO [59]])
 else if a.kind=7 then wd j5::((match es with
  |e::_=>cf::bp e
  |[]=>[])++[bO [59]])
 else if a.kind=8 then wd nT::cf::(ag es++[bO [59]])
 else if a.kind=9 then ag es++[bO [59]]
 else if a.kind=6 then wd nV::cf::(ag es++gU d B)
 else if a.kind=5 then wd jA::cf::(ag es++(gU d B++bif ce then[]else cf::wd pr::gU d zC))
 else[]
mutual
def fo(deep:Nat):br->List bT
 | .mk a es b c=> .b (pad deep)::(ho a es (cc (deep+1) b) c.isEmpty (cc (deep+1) c) (pad deep)++[nl])
def cc(deep:Nat):List br->List bT
 |[]=>[]
 |s::r=>fo deep s++cc deep r
end
section
variable {T:List Tok}
def Cz(t:Tok):Bool:=Cy t||(t.kind==3&&hl t.text [nU,nS,jA,nV,j5,nT])
def Ht(l:List Tok):Prop:=∃t r,l=t::r/\Cz t=X
def q4.aB{l m:List Tok}(h:q4 l):Ht (l++m):=by
 obtain⟨t,r,rfl,h,-⟩:=h;exact⟨t,r++m,rfl,by unfold Cz;rw[h,Bool.true_or]⟩
end
section
variable {T:List Tok}
end
def qT:aG:=[114,101,99,111,114,100]
def qS:aG:=[103,108,111,98,97,108]
def kH:aG:=[102,117,110,99]
def fG(p:bF):List bT:=jt p.name p.cp p.c2
def et:List bF->List bT
 |[]=>[]
 |p::r=> .b [32,32]::(fG p++bO [59]::nl::et r)
def k6:List bF->List bT
 |[]=>[]
 |p::r=>bO [44]::cf::(fG p++k6 r)
def eZ:List bF->List bT
 |[]=>[]
 |p::r=>fG p++k6 r
def tT(r:e9):List bT:=wd qT::cf::cq r.name::cf::bO [123]::nl::(et r.fields++[bO [125],nl])
def tS(p:bF):List bT:=wd qS::cf::(fG p++[bO [59],nl])
def xz(f:Fn):List bT:=wd kH::cf::cq f.name::bO [40]::(eZ f.params++bO [41]::((bif f.has then bO [58]::cf::c5 f.dB f.rd else[])++(gU [] (cc 1 f.body)++[nl])))
inductive fc where
 |r (x:e9)
 |g (x:bF)
 |f (x:Fn)
def p_:fc->List bT
 | .r x=>tT x
 | .g x=>tS x
 | .f x=>xz x
def cb:List fc->List bT
 |[]=>[]
 |i::l=>p_ i++cb l
def cj.add(g:cj):fc->cj
 | .r x=>{g with cm:=g.cm++[x]}
 | .g x=>{g with globals:=g.globals++[x]}
 | .f x=>{g with funcs:=g.funcs++[x]}
def cj.vD(g:cj):List fc->cj
 |[]=>g
 |i::l=>(g.add i).vD l
structure fA(p:bF):Prop where
 n:eG p.name=true
 o:j_ p.cp p.c2
structure n6(r:e9):Prop where
 n:eG r.name=true
 l:r.fields.length<=8
 f:∀p∈r.fields,fA p
structure n5(f:Fn):Prop where
 n:eG f.name=true
 l:f.params.length<=6
 p:∀p∈f.params,fA p
 r:(f.has=true/\j_ f.dB f.rd)\/(f.has=false/\f.dB=[]/\f.rd=0)
 b:∃d:Nat,d+1<=50/\∀s∈f.body,ei d s
section
variable {T:List Tok}
