/-
  Texts of one proof, laid together: T1 Sq Pa Pb Pc Pd Ea Eb.
-/
import Derived.Test.YtghmbpmaafnodaaDoorMG
set_option linter.unusedVariables false
set_option linter.unusedSimpArgs false
set_option linter.defProp false
open Option renaming some→D,none→Z
open Bool renaming true→X,false→U
namespace Go.Proofs.YtghmbpmaafnodaaDoor
open Go.cn
structure b2 where
 kind:Int
 name:aG:=[]
 cp:aG:=[]
 c2:Int:=0
 pos:Int:=0
 ref:Int:=0
inductive br where
 |mk (a:b2) (es:List aJ) (body els:List br)
def br.zero:br:= .mk {kind:=0} [] [] []
def br.at(p:Int):br->br
 | .mk a es b c=> .mk {a with pos:=p} es b c
def aJ.kind:aJ->Int
 | .mk a _=>a.kind
def aJ.name:aJ->aG
 | .mk a _=>a.name
def hB(e:aJ):Bool:=e.kind != 4&&(e.kind != 5&&e.kind != 6)
def c6(T:List Tok)(s:an):aJ×an:=if s.ak≠0 then(.zero,s)else match fJ T 800000000 0 (lE s.at_ s.a8)with
 |some (e,s')=>if s'.ak=0 then(e,{s with at_:=s'.at_})else(.zero,{s with ak:=s'.ak,bD:=s'.bD})
 |none=>(.zero,s)
def mX(T:List Tok)(s:an):(aG×Int)×an:=if(dD T ⟨s.at_,0,0,0⟩).2.ak=0 then((dD T ⟨s.at_,0,0,0⟩).1,{s with at_:=(dD T ⟨s.at_,0,0,0⟩).2.at_})else(([],0),{s with ak:=(dD T ⟨s.at_,0,0,0⟩).2.ak,bD:=(dD T ⟨s.at_,0,0,0⟩).2.bD})
def colonS(T:List Tok)(s:an):an:=(bR T [58] (av (bif (al T s.at_).kind != 1 then bE T 2 s else s))).2
def iC(T:List Tok)(s:an):(aG×aG×Int)×an:=
 if(colonS T s).ak≠0 then(([],[],0),colonS T s)else(((al T s.at_).text,(mX T (colonS T s)).1),(mX T (colonS T s)).2)
def Af(T:List Tok)(s:an):br×an:=(.mk {kind:=1,name:=(iC T s).1.1,cp:=(iC T s).1.2.1,c2:=(iC T s).1.2.2} [] [] [],(bR T [59] (iC T s).2).2)
def C9(T:List Tok)(s:an):br×an:=(.mk {kind:=2,name:=(iC T s).1.1,cp:=(iC T s).1.2.1,c2:=(iC T s).1.2.2} [(c6 T (bR T [61] (iC T s).2).2).1] [] [],(bR T [59] (c6 T (bR T [61] (iC T s).2).2).2).2)
def uf(T:List Tok)(s:an):br×an:=bif bo T s 4 [59]then(.mk {kind:=7} [] [] [],(bR T [59] s).2)else(.mk {kind:=7} [(c6 T s).1] [] [],(bR T [59] (c6 T s).2).2)
def Ex(T:List Tok)(s:an):br×an:=(.mk {kind:=8} [(c6 T s).1] [] [],(bR T [59] (c6 T s).2).2)
def jj(T:List Tok)(e:aJ)(s:an):an:=(bR T [61] (bif hB e then bE T 2 s else s)).2
def u0(T:List Tok)(e:aJ)(s:an):br×an:=(bif e.kind==4 then .mk {kind:=3,name:=e.name} [(c6 T (jj T e s)).1] [] []else .mk {kind:=4} [e,(c6 T (jj T e s)).1] [] [],(bR T [59] (c6 T (jj T e s)).2).2)
def m_(T:List Tok)(s:an):br×an:=bif bo T (c6 T s).2 4 [61]then u0 T (c6 T s).1 (c6 T s).2 else(.mk {kind:=9} [(c6 T s).1] [] [],(bR T [59] (bif bo T (c6 T s).2 4 [59]&&(c6 T s).1.kind != 7 then bE T 2 (c6 T s).2 else(c6 T s).2)).2)
mutual
def kV(T:List Tok):Nat->an->aa (List br)
 |0,_=>Z
 |n+1,s=>bif bo T s 4 [123]then(if 50<=s.a8 then D ([],bE T 4 s)else
  (lF T n [] {s with at_:=eH (s.at_+1),a8:=eH (s.a8+1)}).bind λp=>D (p.1,(bR T [125] (dQ p.2)).2))
  else D ([],bE T 2 s)
def lF(T:List Tok):Nat->List br->an->aa (List br)
 |0,_,_=>Z
 |n+1,l,s=>bif s.ak==0&& !bo T s 4 [125]then(sD T n s).bind λp=>lF T n (l++[p.1]) p.2 else D (l,s)
def sD(T:List Tok):Nat->an->aa br
 |0,_=>Z
 |n+1,s=>(bif (al T s.at_).kind==3 then
  (bif (al T s.at_).text==[118,97,114]then D (Af T (av s))
  else bif (al T s.at_).text==[108,101,116]then D (C9 T (av s))
  else bif (al T s.at_).text==[105,102]then s9 T n (av s)
  else bif (al T s.at_).text==[119,104,105,108,101]then ud T n (av s)
  else bif (al T s.at_).text==[114,101,116,117,114,110]then D (uf T (av s))
  else bif (al T s.at_).text==[112,114,105,110,116]then D (Ex T (av s))
  else D (m_ T s))else D (m_ T s)).bind λp=>D (p.1.at (al T s.at_).pos,p.2)
def s9(T:List Tok):Nat->an->aa br
 |0,_=>Z
 |n+1,s=>(kV T n (c6 T s).2).bind λb=>bif bo T b.2 3 [101,108,115,101]then
  (kV T n (av b.2)).bind λc=>D (.mk {kind:=5} [(c6 T s).1] b.1 c.1,c.2)else D (.mk {kind:=5} [(c6 T s).1] b.1 [],b.2)
def ud(T:List Tok):Nat->an->aa br
 |0,_=>Z
 |n+1,s=>(kV T n (c6 T s).2).bind λb=>D (.mk {kind:=6} [(c6 T s).1] b.1 [],b.2)
end
def bG(T:List Tok)(s:an):aJ×an:=match eA T 800000000 0 s with
 |some p=>p
 |none=>(.zero,s)
def df(T:List Tok)(s:an):(aG×aG×Int)×an:=(((bq T s).1,(cO T (a_ T [58] (bq T s).2)).1),(cO T (a_ T [58] (bq T s).2)).2)
def pM(T:List Tok)(s:an):br×an:=(.mk {kind:=1,name:=(df T s).1.1,cp:=(df T s).1.2.1,c2:=(df T s).1.2.2} [] [] [],a_ T [59] (df T s).2)
def p4(T:List Tok)(s:an):br×an:=(.mk {kind:=2,name:=(df T s).1.1,cp:=(df T s).1.2.1,c2:=(df T s).1.2.2} [(bG T (a_ T [61] (df T s).2)).1] [] [],a_ T [59] (bG T (a_ T [61] (df T s).2)).2)
def sh(T:List Tok)(s:an):br×an:=bif aZ T s [59]then(.mk {kind:=7} [] [] [],a_ T [59] s)else(.mk {kind:=7} [(bG T s).1] [] [],a_ T [59] (bG T s).2)
def tX(T:List Tok)(s:an):br×an:=(.mk {kind:=8} [(bG T s).1] [] [],a_ T [59] (bG T s).2)
def hR(T:List Tok)(e:aJ)(s:an):an:=a_ T [61] (bif hB e then bE T 2 s else s)
def uZ(T:List Tok)(e:aJ)(s:an):br×an:=(bif e.kind==4 then .mk {kind:=3,name:=e.name} [(bG T (hR T e s)).1] [] []else .mk {kind:=4} [e,(bG T (hR T e s)).1] [] [],a_ T [59] (bG T (hR T e s)).2)
def jv(T:List Tok)(s:an):br×an:=bif aZ T (bG T s).2 [61]then uZ T (bG T s).1 (bG T s).2 else(.mk {kind:=9} [(bG T s).1] [] [],a_ T [59] (bif aZ T (bG T s).2 [59]&&(bG T s).1.kind != 7 then bE T 2 (bG T s).2 else(bG T s).2))
mutual
def gC(T:List Tok):Nat->an->aa (List br)
 |0,_=>Z
 |n+1,s=>(iN T n [] (ct T [123] s)).bind λp=>D (p.1,dm T [125] p.2)
def iN(T:List Tok):Nat->List br->an->aa (List br)
 |0,_,_=>Z
 |n+1,l,s=>bif s.ak==0&& !aZ T s [125]then(nQ T n s).bind λp=>iN T n (l++[p.1]) p.2 else D (l,s)
def nQ(T:List Tok):Nat->an->aa br
 |0,_=>Z
 |n+1,s=>(bif aZ T s [118,97,114]||aZ T s [108,101,116]then D (bif (al T s.at_).text==[108,101,116]then p4 T (av s)else pM T (av s))
  else bif aZ T s [105,102]then(gC T n (bG T (av s)).2).bind λb=>bif aZ T b.2 [101,108,115,101]then
   (gC T n (av b.2)).bind λc=>D (.mk {kind:=5} [(bG T (av s)).1] b.1 c.1,c.2)else D (.mk {kind:=5} [(bG T (av s)).1] b.1 [],b.2)
  else bif aZ T s [119,104,105,108,101]then(gC T n (bG T (av s)).2).bind λb=>D (.mk {kind:=6} [(bG T (av s)).1] b.1 [],b.2)
  else bif aZ T s [114,101,116,117,114,110]then D (sh T (av s))
  else bif aZ T s [112,114,105,110,116]then D (tX T (av s))
  else D (jv T s)).bind λp=>D (p.1.at (al T s.at_).pos,p.2)
end
structure bF where
 name:aG
 cp:aG
 c2:Int
 pos:Int
structure e9 where
 name:aG
 fields:List bF
 pos:Int
structure Fn where
 name:aG
 params:List bF
 has:Bool
 dB:aG
 rd:Int
 body:List br
 pos:Int
structure cj where
 cm:List e9
 globals:List bF
 funcs:List Fn
def cj.none:cj:=⟨[],[],[]⟩
def c9(T:List Tok)(s:an):bF×an:=(⟨(df T s).1.1,(df T s).1.2.1,(df T s).1.2.2,(al T s.at_).pos⟩,(df T s).2)
def kX(T:List Tok):Nat->List bF->an->aa (List bF)
 |0,_,_=>Z
 |n+1,l,s=>bif s.ak==0&& !aZ T s [125]then
  (bif (al T s.at_).kind==1&&l.length==8 then D (l,bE T 4 s)else kX T n (l++[(c9 T s).1]) (a_ T [59] (c9 T s).2))
  else D (l,s)
def l2(T:List Tok)(n:Nat)(s:an):aa e9:=(kX T n [] (a_ T [123] (bq T s).2)).bind λp=>D (⟨(bq T s).1,p.1,(al T s.at_).pos⟩,a_ T [125] p.2)
def jg(T:List Tok)(s:an):an:=bif aZ T (a_ T [44] s) [41]then bE T 2 (a_ T [44] s)else a_ T [44] s
def il(T:List Tok):Nat->List bF->an->aa (List bF)
 |0,_,_=>Z
 |n+1,l,s=>bif s.ak==0&& !aZ T s [41]then
  (bif (al T s.at_).kind==1&&l.length==6 then D (l,bE T 4 s)else
   il T n (l++[(c9 T s).1]) (bif aZ T (c9 T s).2 [41]then(c9 T s).2 else jg T (c9 T s).2))
  else D (l,s)
def fI(T:List Tok)(s:an):(Bool×aG×Int)×an:=bif aZ T s [58]then((X,(cO T (av s)).1),(cO T (av s)).2)else((U,[],0),s)
def lS(T:List Tok)(n:Nat)(s:an):aa Fn:=(il T n [] (a_ T [40] (bq T s).2)).bind λp=>(gC T n (fI T (a_ T [41] p.2)).2).bind λb=>D (⟨(bq T s).1,p.1,(fI T (a_ T [41] p.2)).1.1,(fI T (a_ T [41] p.2)).1.2.1,(fI T (a_ T [41] p.2)).1.2.2,b.1,(al T s.at_).pos⟩,b.2)
def isRec(T:List Tok)(s:an):Bool:=aZ T s [114,101,99,111,114,100]
def jK(T:List Tok)(s:an):Bool:=aZ T s [103,108,111,98,97,108]
def isFun(T:List Tok)(s:an):Bool:=aZ T s [102,117,110,99]
def fi(T:List Tok)(N:Nat):Nat->cj->an->aa cj
 |0,_,_=>Z
 |n+1,g,s=>bif s.ak==0&&(al T s.at_).kind != 0 then
  (bif (isRec T s&&g.cm.length==12)||((jK T s&&g.globals.length==8)||(isFun T s&&g.funcs.length==16))then fi T N n g (bE T 4 s)
  else bif isRec T s then(l2 T N (av s)).bind λp=>fi T N n {g with cm:=g.cm++[p.1]} p.2
  else bif jK T s then fi T N n {g with globals:=g.globals++[(c9 T (av s)).1]} (a_ T [59] (c9 T (av s)).2)
  else bif isFun T s then(lS T N (av s)).bind λp=>fi T N n {g with funcs:=g.funcs++[p.1]} p.2
  else fi T N n g (bE T 2 s))
  else D (g,s)
def na(g:cj)(s:an):cj×Int×Int:=if s.ak=0 then(g,0,0)else(.none,s.ak,s.bD)
def jG:Nat->Nat->aG->aG
 |0,_,a=>a
 |f+1,n,a=>if n/10=0 then UInt8.ofNat (48+n%10)::a else jG f (n/10) (UInt8.ofNat (48+n%10)::a)
def u6(t:Tok):aG:=bif t.kind==2 then jG 20 t.n.toNat []else t.text
def kQ(t:Tok):Prop:=(t.kind=1/\t.n=0/\eG t.text=X)\/(t.kind=3/\t.n=0/\j7 t.text=X)\/(t.kind=2/\t.text=[]/\0<=t.n/\t.n<=9223372036854775807)\/(t.kind=4/\t.n=0/\(hl t.text j3=X\/∃c,t.text=[c]/\jP c hG=X))
def rU(t:Tok)(b:UInt8):Bool:=bif t.kind==4 then(t.text.length==2|| !hl (t.text++[b]) j3)&& !(t.text==[47]&&b==47)else !eN b&& !eL b
def tL(t:Tok):aG->Bool
 |[]=>X
 |b::_=>rU t b
def Eu:(10:Nat)^20=100000000000000000000:=bk
def Jk{c:UInt8}:eL c=X↔48<=c.toNat/\c.toNat<=57:=by
 simp only[eL,mN,Bool.and_eq_true,decide_eq_true_eq];omega
def Ae:∀(f n:Nat) (a:aG),(jG f n a).length<=f+a.length
 |0,_,_=>by simp[jG]
 |f+1,n,a=>by
  rw[jG];split
  ·rw[List.length_cons];omega
  ·have:=Ae f (n/10) (UInt8.ofNat (48+n%10)::a);rw[List.length_cons]at this;omega
def Fo{d:Bool}:∀s:aG,∀c∈s.take (runN d s),(eL c||(!d&&eN c))=X
 |[],_,h=>by simp[runN]at h
 |c::r,x,h=>by
  rw[runN]at h;cases a:(eL c||(!d&&eN c))with
  |false=>rw[a]at h;simp at h
  |true=>
   rw[a]at h;simp only[aR,List.take_succ_cons,List.mem_cons]at h;rcases h with rfl|h
   ·exact a
   ·exact Fo r x h
def G4:∀(l:aG) (a v:Int),(∀c∈l,eL c=X)->0<=a->a<=9223372036854775807->jB a l=D v->0<=v/\v<=9223372036854775807
 |[],a,v,_,i,j,h=>by simp only[jB,aS]at h;omega
 |c::r,a,v,e,i,j,h=>by
  rw[jB]at h;have d:=Jk.1 (e c (List.mem_cons_self));split at h
  ·cases h
  ·exact G4 r _ v (λc d=>e c (List.mem_cons_of_mem _ d)) af af h
def Lb{s:aG}{t:Tok}{m:Nat}(h:hZ s=D (t.kind,t.text,t.n,m)):kQ t:=by
 obtain⟨k,x,z,p⟩:=t;rcases s with _|⟨c,r⟩
 ·simp[hZ]at h
 rw[hZ]at h;cases o:eN c with
 |true=>
  rw[o,aR]at h;generalize (c::r).take (runN U (c::r))=y at*;cases hw:j7 y with
  |true=>
   rw[hw,aR]at h;simp only[aS,b5]at h;obtain⟨rfl,rfl,rfl,-⟩:=h;exact .inr (.inl ⟨rfl,rfl,hw⟩)
  |false=>
   rw[hw,aK]at h;cases e:eG y with
   |false=>rw[e]at h;cases h
   |true=>
    rw[e,aR]at h;simp only[aS,b5]at h;obtain⟨rfl,rfl,rfl,-⟩:=h;exact .inl ⟨rfl,rfl,e⟩
 |false=>
  rw[o,aK]at h;cases l:eL c with
  |true=>
   rw[l,aR]at h;have u:=Fo (d:=true) (c::r);cases hw:jB 0 ((c::r).take (runN X (c::r)))with
   |none=>rw[hw]at h;cases h
   |some v=>
    rw[hw]at h;simp only at h;have A:=G4 _ 0 v (λc w=>by simpa using u c w) af af hw;cases q:((decide (1<runN X (c::r))&&c.toNat==48)||(decide (runN X (c::r)<(c::r).length)&&eN (((c::r)[runN X (c::r)]?).getD 0)))with
    |true=>rw[q]at h;cases h
    |false=>
     rw[q]at h;simp only[aK,aS,b5]at h;obtain⟨rfl,rfl,rfl,-⟩:=h;exact .inr (.inr (.inl ⟨rfl,rfl,A⟩))
  |false=>
   rw[l,aK]at h;cases aB:hM (c::r)==[]with
   |true=>rw[aB]at h;cases h
   |false=>
    rw[aB,aK]at h;simp only[aS,b5]at h;obtain⟨rfl,rfl,rfl,-⟩:=h;refine .inr (.inr (.inr ⟨rfl,rfl,?_⟩));have a:(hM (c::r)==[])=false:=aB;show hl (hM (c::r)) j3=X\/∃d,hM (c::r)=[d]/\jP d hG=X;unfold hM at a ⊢;cases i:(decide (2<=(c::r).length)&&hl ((c::r).take 2) j3)with
    |true=>rw[aR];exact .inl (Bool.and_eq_true_iff.1 i).2
    |false=>
     rw[i]at a;simp only[aK]at a ⊢;cases j:jP c hG with
     |false=>rw[j]at a;cases a
     |true=>exact .inr ⟨c,rfl,j⟩
inductive bT where
 |t (bL:Tok)
 |b (s:aG)
def bT.u5:bT->aG
 | .t bL=>u6 bL
 | .b s=>s
def flat:List bT->aG
 |[]=>[]
 |p::r=>p.u5++flat r
def hN:List bT->List Tok
 |[]=>[]
 | .t t::r=>t::hN r
 | .b _::r=>hN r
def py:List bT->Prop
 |[]=>True
 | .t t::r=>kQ t/\tL t (flat r)=X/\py r
 | .b s::r=>s.all jq=X/\py r
def cv:∀a b:List bT,flat (a++b)=flat a++flat b
 |[],_=>rfl
 |p::r,b=>by rw[List.cons_append,flat,cv r b,flat,List.append_assoc]
def yj:∀a b:List bT,hN (a++b)=hN a++hN b
 |[],_=>rfl
 | .t t::r,b=>by rw[List.cons_append,hN,yj r b,hN,List.cons_append]
 | .b s::r,b=>by rw[List.cons_append,hN,yj r b,hN]
def De:∀(n:Nat) (s:aG) (p:Nat) (l:List Tok),gT n s p= .inr l->∀t∈l,kQ t\/t.kind=0
 |0,_,_,_,h=>by cases h
 |n+1,[],p,l,h=>by cases h;intro t a;simp only[List.mem_cons,List.not_mem_nil,or_false]at a;subst a;exact .inr rfl
 |n+1,c::r,p,l,h=>by
  rw[gT]at h;split at h
  ·cases h
  ·rename_i k t v m e;split at h
   ·cases h
   ·rename_i l' d;cases h;intro u hu;rcases List.mem_cons.1 hu with rfl|hu
    ·exact .inl (Lb (t:=⟨k,t,v,p⟩) e)
    ·exact De n _ _ _ d u hu
def Gq{s:aG}:∀t∈(dI s).1,kQ t\/t.kind=0:=by
 unfold dI;split
 ·intro t a;cases a
 ·cases h:rM s with
  |inl e=>intro t a;cases a
  |inr l=>exact De _ _ _ _ h
def dh(k:Int):Nat:=if k=24 then 1 else if k=23 then 2 else if 19<=k/\k<=22 then 3 else if k=14\/k=15 then 4 else if 16<=k/\k<=18 then 5 else if k=12\/k=13 then 6 else 7
def aJ.cD(e:aJ):Nat:=dh e.kind
def j_(x:aG)(d:Int):Prop:=0<=d/\d<=3/\(eG x=X\/x=[105,110,116]\/x=[98,111,111,108])
inductive cF:Nat->Nat->aJ->Prop
 |par {d m e}:cF d 0 e->e.cD<m->m<=7->cF (d+1) m e
 |int {d m n p}:m<=7->0<=n->n<=9223372036854775807->cF d m (.mk {kind:=1,n:=n,pos:=p} [])
 |bool {d m n p}:m<=7->n=0\/n=1->cF d m (.mk {kind:=2,n:=n,pos:=p} [])
 |null {d m x z p}:m<=7->j_ x z->cF d m (.mk {kind:=3,cp:=x,c2:=z,pos:=p} [])
 |var {d m x p}:m<=7->eG x=true->cF d m (.mk {kind:=4,name:=x,pos:=p} [])
 |field {d m x p e}:m<=7->eG x=true->cF d 7 e->cF d m (.mk {kind:=5,name:=x,pos:=p} [e])
 |item {d m p e i}:m<=7->cF (d+1) 7 e->cF d 0 i->cF (d+1) m (.mk {kind:=6,pos:=p} [e,i])
 |call {d m x p l}:m<=7->eG x=true->(∀e∈l,cF d 0 e)->cF (d+1) m (.mk {kind:=7,name:=x,pos:=p} l)
 |new {d m x p}:m<=7->eG x=true->cF d m (.mk {kind:=8,cp:=x,pos:=p} [])
 |make {d m x z p e}:m<=7->j_ x z->cF d 0 e->cF (d+1) m (.mk {kind:=9,cp:=x,c2:=z,pos:=p} [e])
 |len {d m p e}:m<=7->cF d 0 e->cF (d+1) m (.mk {kind:=10,pos:=p} [e])
 |read {d m p}:m<=7->cF (d+1) m (.mk {kind:=11,pos:=p} [])
 |sign {d m k p e}:m<=6->k=12\/k=13->cF d 6 e->cF (d+1) m (.mk {kind:=k,pos:=p} [e])
 |bin {d m k p a b}:m<=dh k->14<=k->k<=24->cF d (dh k) a->cF d (dh k+1) b->cF d m (.mk {kind:=k,pos:=p} [a,b])
def xe(k:Int):1<=dh k/\dh k<=7:=by
 unfold dh;(repeat' split)<;>omega
def cF.more{d m:Nat}{e:aJ}(h:cF d m e):∀{a:Nat},d<=a->cF a m e:=by
 induction h with
 |par _ n o l=>intro a j;obtain⟨k,rfl⟩:∃k,a=k+1:=⟨a-1,af⟩;exact .par (l af) n o
 |int c i n=>intro a _;exact .int c i n
 |bool c i=>intro a _;exact .bool c i
 |null c i=>intro a _;exact .null c i
 |var c i=>intro a _;exact .var c i
 |field c i _ l=>intro a j;exact .field c i (l j)
 |item c _ _ ih1 ih2=>intro a j;obtain⟨k,rfl⟩:∃k,a=k+1:=⟨a-1,af⟩;exact .item c (ih1 j) (ih2 af)
 |call c i _ l=>intro a j;obtain⟨k,rfl⟩:∃k,a=k+1:=⟨a-1,af⟩;exact .call c i λe he=>l e he af
 |new c i=>intro a _;exact .new c i
 |make c i _ l=>intro a j;obtain⟨k,rfl⟩:∃k,a=k+1:=⟨a-1,af⟩;exact .make c i (l af)
 |len c _ l=>intro a j;obtain⟨k,rfl⟩:∃k,a=k+1:=⟨a-1,af⟩;exact .len c (l af)
 |read c=>intro a j;obtain⟨k,rfl⟩:∃k,a=k+1:=⟨a-1,af⟩;exact .read c
 |sign c i _ l=>intro a j;obtain⟨k,rfl⟩:∃k,a=k+1:=⟨a-1,af⟩;exact .sign c i (l af)
 |bin c i n _ _ ih1 ih2=>intro a j;exact .bin c i n (ih1 j) (ih2 j)
def cF.at{d m:Nat}{e:aJ}(h:cF d 0 e)(hm:m<=e.cD):cF d m e:=by
 have n:=(xe e.kind).2;have j:m<=7:=Nat.le_trans hm n;cases h with
 |par _ h _=>omega
 |int i a c=>exact .int j a c
 |bool i a=>exact .bool j a
 |null i a=>exact .null j a
 |var i a=>exact .var j a
 |field i a c=>exact .field j a c
 |item i a c=>exact .item j a c
 |call i a c=>exact .call j a c
 |new i a=>exact .new j a
 |make i a c=>exact .make j a c
 |len i a=>exact .len j a
 |read i=>exact .read j
 |sign i a c=>exact .sign (by rcases a with rfl|rfl<;>exact hm) a c
 |bin i a c k l=>exact .bin hm a c k l
def cF.low{d m:Nat}{e:aJ}(h:cF d m e){m':Nat}(hm:m'<=m):cF d m' e:=by
 cases h with
 |par a c j=>
  by_cases l:e.cD<m'
  ·exact .par a l af
  ·exact(a.at af).more (Nat.le_succ _)
 |int i a c=>exact .int af a c
 |bool i a=>exact .bool af a
 |null i a=>exact .null af a
 |var i a=>exact .var af a
 |field i a c=>exact .field af a c
 |item i a c=>exact .item af a c
 |call i a c=>exact .call af a c
 |new i a=>exact .new af a
 |make i a c=>exact .make af a c
 |len i a=>exact .len af a
 |read i=>exact .read af
 |sign i a c=>exact .sign af a c
 |bin i a c j k=>exact .bin af a c j k
def cF.up{d:Nat}{e:aJ}(h:cF d 0 e){m:Nat}(hm:m<=7):cF (d+1) m e:=by
 by_cases a:e.cD<m
 ·exact .par h a hm
 ·exact(h.at af).more (Nat.le_succ _)
mutual
def cM:aJ->Nat
 | .mk a kids=>40+a.name.length+a.cp.length+bX kids
def bX:List aJ->Nat
 |[]=>0
 |e::r=>cM e+bX r
end
def G0:∀(l:List aJ) (e:aJ),bX (l++[e])=bX l+cM e
 |[],e=>by simp[bX]
 |x::l,e=>by rw[List.cons_append,bX,G0 l e,bX];omega
structure In(E:Int)(s:an):Prop where
 a:0<=s.at_
 b:s.at_<=E
 c:0<=s.a8
 d:s.a8<=50
structure bY(E:Int)(s s':an)(k:Int):Prop where
 f:s.ak=0
 jm:s'.ak=0
 o:s'.a8=s.a8
 a:s.at_+k<=s'.at_
 b:s'.at_<=E
structure Good(T:List Tok)(E:Int):Prop where
 n:E<=20000000
 lt:∀a,(al T a).kind≠0->a<E
 t:∀t∈T,kQ t\/t.kind=0
section
variable {T:List Tok}{E:Int}{s s' s2:an}
def bY.trans{k l:Int}(h:bY E s s' k)(a1:bY E s' s2 l):bY E s s2 (k+l):=⟨h.f,a1.jm,a1.o.trans h.o,by have:=h.a;have:=a1.a;omega,a1.b⟩
def bY.less{k l:Int}(h:bY E s s' k)(c:l<=k):bY E s s' l:=⟨h.f,h.jm,h.o,by have:=h.a;omega,h.b⟩
def bY.in{k:Int}(e:In E s)(h:bY E s s' k)(i:0<=k):In E s':=⟨by have:=h.a;have:=e.a;omega,h.b,by rw[h.o];exact e.c,by rw[h.o];exact e.d⟩
def bY.refl(a:In E s)(h:s.ak=0):bY E s s 0:=⟨h,h,rfl,af,a.b⟩
def yi{a:Int}(h:(al T a).kind≠0):0<=a/\a<T.length/\al T a∈T:=by
 unfold al at h ⊢;split at h
 ·exact absurd rfl h
 ·rename_i c;have:a.toNat<T.length:=af;rw[if_neg c,List.getElem?_eq_getElem this,Option.getD_some];exact⟨af,af,List.getElem_mem _⟩
def Gn(aw:Good T E){a:Int}(h:(al T a).kind≠0):kQ (al T a):=(aw.t _ (yi h).2.2).resolve_right h
def PJ(aw:Good T E){a:Int}(h:(al T a).kind=1):eG (al T a).text=true:=by
 rcases Gn aw (a:=a) af with a1|a1|a1|a1
 ·exact a1.2.2
 all_goals omega
def PI(aw:Good T E){a:Int}(h:(al T a).kind=2):0<=(al T a).n/\(al T a).n<=9223372036854775807:=by
 rcases Gn aw (a:=a) af with a1|a1|a1|a1
 ·omega
 ·omega
 ·exact a1.2.2
 ·omega
def go_ok(aw:Good T E)(d:In E s)(c:s.ak=0)(h:(al T s.at_).kind≠0):av s={s with at_:=s.at_+1}/\bY E s (av s) 1:=by
 have j:=aw.lt _ h;have k:=aw.n;have i:=d.a;have e:av s={s with at_:=s.at_+1}:=by
  unfold av eH;rw[IntWalk.i64_in _ ⟨af,af⟩]
 refine⟨e,?_⟩;rw[e];exact⟨c,c,rfl,by simp,by simp only;omega⟩
def dU{e:Int}(he:e≠0):(bE T e s).ak≠0:=by
 unfold bE;split
 ·exact he
 ·assumption
def ep{x:aG}(h:aZ T s x=X):s.ak=0/\(al T s.at_).kind=kw x/\(al T s.at_).text=x:=k0 h
def wV(x:aG):kw x≠0:=by
 unfold kw;split
 ·split<;>decide
 ·decide
def fE(aw:Good T E)(d:In E s){x:aG}(h:aZ T s x=X):bY E s (av s) 1:=by
 obtain⟨a,c,-⟩:=ep h;exact(go_ok aw d a (by rw[c];exact wV x)).2
abbrev cU(E:Int)(s:an):Prop:=s.ak=0->In E s
def bY.f_{k:Int}(a:cU E s)(h:bY E s s' k)(c:0<=k):cU E s':=λ_=>h.in (a h.f) c
def eR(aw:Good T E)(c:cU E s){x:aG}(h:(a_ T x s).ak=0):aZ T s x=X/\a_ T x s=av s/\bY E s (a_ T x s) 1:=by
 unfold a_ at h ⊢;cases a:aZ T s x with
 |true=>rw[aR];exact⟨rfl,rfl,fE aw (c (ep a).1) a⟩
 |false=>rw[a,aK]at h;exact absurd h (dU bk)
def k5(aw:Good T E)(c:cU E s)(h:(bq T s).2.ak=0):eG (bq T s).1=X/\bY E s (bq T s).2 1:=by
 unfold bq at h ⊢;cases a:(s.ak==0&&(al T s.at_).kind==1)with
 |true=>
  simp only[Bool.and_eq_true,beq_iff_eq]at a;rw[aR];exact⟨PJ aw a.2,(go_ok aw (c a.1) a.1 af).2⟩
 |false=>rw[a,aK]at h;exact absurd h (dU bk)
def er{x:aG}(h:eG x=X):x.length<=8:=by
 simp only[eG,Bool.and_eq_true,decide_eq_true_eq]at h;exact h.2.1
def fh{x:aG}{d:Int}(h:j_ x d):x.length<=8:=by
 rcases h.2.2 with h|rfl|rfl
 ·exact er h
 ·decide
 ·decide
def js(aw:Good T E)(d:cU E s){x:aG}(h:(ct T x s).ak=0):aZ T s x=X/\s.ak=0/\(ct T x s).a8=s.a8+1/\(ct T x s).at_=s.at_+1/\In E (ct T x s)/\s.a8+1<=50:=by
 unfold ct at h ⊢;cases i:aZ T s x&&decide (50<=s.a8)with
 |true=>rw[i,aR]at h;exact absurd h (dU bk)
 |false=>
  rw[i,aK]at h;rw[aK];have a1:(a_ T x s).ak=0:=h;obtain⟨j,o,l⟩:=eR aw d a1;obtain⟨k,p,-⟩:=ep j;have d:=d k;obtain⟨g1,-⟩:=go_ok aw d k (by rw[p];exact wV x);rw[j,Bool.true_and]at i;have v:s.a8<50:=by have:=of_decide_eq_false i;omega
  have q:=d.c;have e:eH (s.a8+1)=s.a8+1:=IntWalk.i64_in _ ⟨af,af⟩;have m:=l.a;have n:=l.b;have u:=d.a;rw[o,g1]at m n ⊢;simp only[eB,e]at m n ⊢;exact⟨j,k,trivial,trivial,⟨by simp only;omega,by simp only;omega,by simp only;omega,by simp only;omega⟩,af⟩
def xw(a:In E s):dQ s={s with a8:=s.a8-1}:=by
 have:=a.c;have:=a.d;unfold dQ eH;rw[IntWalk.i64_in _ ⟨af,af⟩]
def rl(aw:Good T E){k:Int}(l:0<=k)(q:s.a8+1=s'.a8)(p:s.at_+1=s'.at_)(e:s.ak=0)(i:In E s')(hw:bY E s' s2 k){x:aG}(h:(dm T x s2).ak=0):bY E s (dm T x s2) (k+2):=by
 have a1:(a_ T x s2).ak=0:=h;have d:=hw.in i l;obtain⟨m,n,c⟩:=eR aw (λ_=>d) a1;have j:=c.in d af;unfold dm at h ⊢;rw[xw j]at h ⊢;have aQ:=hw.a;have a2:=c.a;have bz:=hw.o;have bH:=c.o;exact⟨e,h,by simp only;omega,by simp only;omega,c.b⟩
def ye(aw:Good T E){x:aG}:∀(n:Nat) (s:an),cU E s->(takeN T x n s).ak=0->bY E s (takeN T x n s) n
 |0,s,c,h=> .refl (c h) h
 |n+1,s,c,h=>by
  have a:(a_ T x s).ak=0:=by
   by_cases a:(a_ T x s).ak=0
   ·exact a
   ·exfalso;have key:∀(n:Nat) (s:an),s.ak≠0->(takeN T x n s).ak≠0:=by
     intro n
     induction n with
     |zero=>intro s aB;exact aB
     |succ n e=>intro s aB;exact e _ (by unfold a_;rw[dP aB,aK,eF aB];exact aB)
    exact key n _ a h
  obtain⟨-,-,d⟩:=eR aw c a;have:=d.trans (ye aw n _ (d.f_ c af) h);exact this.less af
def D9(aw:Good T E):∀(n:Nat) (d:Int) (s:an) {q:Int×an},In E s->0<=d->gH T n d s= .inl q->s.ak=0->d<=q.1/\q.1<=d+n/\bY E s q.2 (q.1-d)/\aZ T q.2 [91]=U
 |0,d,s,q,c,l,h,e=>by
  rw[gH]at h;cases a:aZ T s [91]with
  |true=>rw[a,aR]at h;cases h
  |false=>
   rw[a,aK]at h;cases h;exact⟨Int.le_refl _,by simp,(bY.refl c e).less (by simp),a⟩
 |n+1,d,s,q,c,l,h,e=>by
  rw[gH]at h;cases a:aZ T s [91]with
  |true=>
   rw[a,aR]at h;have i:=fE aw c a;obtain⟨m,o,j,k⟩:=D9 aw n (d+1) _ (i.in c af) af h i.jm;exact⟨af,af,(i.trans j).less af,k⟩
  |false=>
   rw[a,aK]at h;cases h;exact⟨Int.le_refl _,af,(bY.refl c e).less (by simp),a⟩
def K9:∀(n:Nat) (d:Int) (s:an),s.ak≠0->gH T n d s= .inl (d,s)
 |0,d,s,h=>by rw[gH,dP h];rfl
 |n+1,d,s,h=>by rw[gH,dP h];rfl
def yc{x:aG}:∀(n:Nat) (s:an),s.ak≠0->(takeN T x n s).ak≠0
 |0,s,aB=>aB
 |n+1,s,aB=>yc n _ (by unfold a_;rw[dP aB,aK,eF aB];exact aB)
def oG(aw:Good T E)(k:cU E s)(h:(cO T s).2.ak=0):j_ (cO T s).1.1 (cO T s).1.2/\bY E s (cO T s).2 1:=by
 have c:s.ak=0:=by
  by_cases c:s.ak=0
  ·exact c
  ·exfalso;unfold cO at h;rw[K9 3 0 s c]at h;simp only[fm,dP c,Bool.or_self,aK,tK c]at h;exact yc _ _ c h
 have k:=k c;unfold cO at h ⊢;cases l:gH T 3 0 s with
 |inr s'=>
  exfalso;rw[l]at h;have key:∀(n:Nat) (d:Int) (s:an) {s':an},gH T n d s= .inr s'->s'.ak≠0:=by
   intro n
   induction n with
   |zero=>
    intro d s s' h;rw[gH]at h;cases a:aZ T s [91]<;>rw[a]at h<;>cases h;exact dU bk
   |succ n v=>
    intro d s s' h;rw[gH]at h;cases a:aZ T s [91]<;>rw[a]at h
    ·cases h
    ·exact v _ _ h
  exact key _ _ _ l h
 |inl q=>
  obtain⟨m,o,i,-⟩:=D9 aw 3 0 s k af l c;rw[l]at h;obtain⟨d,s1⟩:=q;simp only at h m o i ⊢;have e:=i.in k af;unfold fm at h ⊢;cases a:aZ T s1 [105,110,116]||aZ T s1 [98,111,111,108]with
  |true=>
   rw[a,aR]at h;rw[aR];have p:bY E s1 (av s1) 1/\((al T s1.at_).text=[105,110,116]\/(al T s1.at_).text=[98,111,111,108]):=by
    rcases Bool.or_eq_true_iff.1 a with a|a
    ·exact⟨fE aw e a,.inl (ep a).2.2⟩
    ·exact⟨fE aw e a,.inr (ep a).2.2⟩
   have u:=ye aw _ _ (p.1.f_ (λ_=>e) af) h;exact⟨⟨m,by simpa using o,.inr p.2⟩,((i.trans p.1).trans u).less af⟩
  |false=>
   rw[a,aK]at h;rw[aK];have j:(bq T s1).2.ak=0:=by
    by_cases j:(bq T s1).2.ak=0
    ·exact j
    ·exact absurd h (yc _ _ j)
   obtain⟨w,n2⟩:=k5 aw (λ_=>e) j;have u:=ye aw _ _ (n2.f_ (λ_=>e) af) h;exact⟨⟨m,by simpa using o,.inl w⟩,((i.trans n2).trans u).less af⟩
end
def gO(o a0:Int)(m:Nat)(e:aJ)(aQ:Int):Prop:=(cM e:Int)<=60*(aQ-a0)/\∃d:Nat,o+d<=50/\cF d m e
def gO.low{o a0 aQ:Int}{m m':Nat}{e:aJ}(h:gO o a0 m e aQ)(hm:m'<=m):gO o a0 m' e aQ:=⟨h.1,h.2.imp λ_ h=>⟨h.1,h.2.low hm⟩⟩
def gO.wide{o a0 aQ a c:Int}{m:Nat}{e:aJ}(h:gO o a0 m e aQ)(d:a<=a0)(i:aQ<=c):gO o a m e c:=⟨by have:=h.1;omega,h.2⟩
def u_{a:bK}(d:a.name.length<=8)(c:a.cp=[]):(cM (.mk a []):Int)<=60:=by simp[cM,bX,c];omega
def GY{a:bK}(d:a.cp.length<=8)(c:a.name=[]):(cM (.mk a []):Int)<=60:=by simp[cM,bX,c];omega
def va{a:bK}{e:aJ}(c:a.name.length+a.cp.length<=8):(cM (.mk a [e]):Int)<=60+cM e:=by simp[cM,bX];omega
def GZ{a:bK}{e f:aJ}(c:a.name.length+a.cp.length<=8):(cM (.mk a [e,f]):Int)<=60+cM e+cM f:=by simp[cM,bX];omega
def P1{a:bK}{l:List aJ}(c:a.name.length+a.cp.length<=8):(cM (.mk a l):Int)<=60+bX l:=by simp[cM];omega
structure Hw(T:List Tok)(E:Int)(n:Nat):Prop where
 expr:∀lev s p,lev<=5->cU E s->eA T n lev s=some p->p.2.ak=0->bY E s p.2 1/\gO s.a8 s.at_ (lev+1) p.1 p.2.at_
 As:∀lev e a0 s p,lev<=4->cU E s->(s.ak=0->gO s.a8 a0 (lev+1) e s.at_)->ig T n lev e s=some p->p.2.ak=0->bY E s p.2 0/\gO s.a8 a0 (lev+1) p.1 p.2.at_
 unary:∀s p,cU E s->j4 T n s=some p->p.2.ak=0->bY E s p.2 1/\gO s.a8 s.at_ 6 p.1 p.2.at_
 sign:∀k s p,k=12\/k=13->cU E s->lC T n k s=some p->p.2.ak=0->bY E s p.2 1/\gO s.a8 s.at_ 6 p.1 p.2.at_
 behind:∀e a0 s p,cU E s->(s.ak=0->gO s.a8 a0 7 e s.at_)->fC T n e s=some p->p.2.ak=0->bY E s p.2 0/\gO s.a8 a0 7 p.1 p.2.at_
 inner:∀s p,cU E s->hC T n s=some p->p.2.ak=0->bY E s p.2 1/\gO (s.a8+1) s.at_ 0 p.1 p.2.at_
 first:∀s p,cU E s->ih T n s=some p->p.2.ak=0->bY E s p.2 1/\gO s.a8 s.at_ 7 p.1 p.2.at_
 fresh:∀pos s p,cU E s->kY T n pos s=some p->p.2.ak=0->bY E s p.2 1/\gO s.a8 (s.at_-1) 7 p.1 p.2.at_
 args:∀s p,cU E s->iH T n s=some p->p.2.ak=0->bY E s p.2 1/\(bX p.1:Int)<=60*(p.2.at_-s.at_)/\∃d:Nat,s.a8+1+d<=50/\∀e∈p.1,cF d 0 e
 zd:∀l a0 s p,cU E s->1<=s.a8->(s.ak=0->(bX l:Int)<=60*(s.at_-a0)/\∃d:Nat,s.a8+d<=50/\∀e∈l,cF d 0 e)->hz T n l s=some p->p.2.ak=0->(s.ak=0/\p.2.a8=s.a8-1/\s.at_+1<=p.2.at_/\p.2.at_<=E)/\(bX p.1:Int)<=60*(p.2.at_-a0)/\∃d:Nat,s.a8+d<=50/\∀e∈p.1,cF d 0 e
def fD{α β:Type}{x:Option α}{f:α->Option β}{b:β}(h:x.bind f=D b):∃a,x=D a/\f a=D b:=c1.1 h
def C_{x:aG}:∀l:List (aG×Int),k3 x l≠0->∃k,(x,k)∈l/\k3 x l=k
 |[],h=>absurd rfl h
 |(y,k)::r,h=>by
  rw[k3]at h ⊢;cases a:y==x with
  |true=>
   obtain rfl:y=x:=by simpa using a
   rw[aR];exact⟨k,List.mem_cons_self,rfl⟩
  |false=>
   rw[a,aK]at h;rw[aK];obtain⟨k,c,d⟩:=C_ r h;exact⟨k,List.mem_cons_of_mem _ c,d⟩
def KV(lev:Nat):Bool:=(ko[lev]?.getD []).all λp=>decide (14<=p.2)&&decide (p.2<=24)&&dh p.2==lev+1
def KW:(List.range 5).all KV=true:=by decide+kernel
def KN{lev:Nat}(e:lev<=4){t:Tok}(h:eO lev t≠0):t.kind=4/\14<=eO lev t/\eO lev t<=24/\dh (eO lev t)=lev+1/\(t.text,eO lev t)∈ko[lev]?.getD []:=by
 unfold eO at h ⊢;cases a:(t.kind != 4)with
 |true=>rw[a,aR]at h;exact absurd rfl h
 |false=>
  rw[a,aK]at h;rw[aK];obtain⟨k,c,d⟩:=C_ _ h;have:=List.all_eq_true.1 (List.all_eq_true.1 KW lev (List.mem_range.2 af)) _ c;simp only[Bool.and_eq_true,decide_eq_true_eq,beq_iff_eq]at this;rw[d];exact⟨by simpa using a,this.1.1,this.1.2,this.2,c⟩
def rh{o:Int}{d a:Nat}(h:o+d<=50)(a1:o+a<=50):o+(max d a:Nat)<=50:=af
def Ev{T:List Tok}{E:Int}(aw:Good T E):∀n,Hw T E n
 |0=>by
  constructor<;>intros<;>rename_i h _<;>first|cases h|skip
 |n+1=>by
  have y:=Ev aw n;refine⟨?_,?_,?_,?_,?_,?_,?_,?_,?_,?_⟩
  ·intro lev s p aq i h aC;rw[eA]at h;split at h
   ·rename_i V;subst V;exact y.unary s p i h aC
   ·obtain⟨q,g1,g2⟩:=fD h;have v:=λj=>y.expr (lev+1) s q af i g1 j
    obtain⟨A,B⟩:=y.As lev q.1 s.at_ q.2 p af (λj=>(v j).1.in (i (v j).1.f) af) (λj=>by rw[(v j).1.o];exact(v j).2.low af) g2 aC;have v:=v A.f;exact⟨(v.1.trans A).less af,by rw[v.1.o]at B;exact B⟩
  ·intro lev e a0 s p aq i he h aC;rw[ig]at h;cases F:(s.ak==0&&eO lev (al T s.at_) != 0)with
   |false=>
    rw[F,aK]at h;cases h;exact⟨.refl (i aC) aC,he aC⟩
   |true=>
    rw[F,aR]at h;simp only[Bool.and_eq_true,beq_iff_eq,bne_iff_ne,ne_eq]at F;obtain⟨m,aN⟩:=F;obtain⟨aX,aT,aU,aG,-⟩:=KN aq aN;have u:=(go_ok aw (i m) m af).2;have M:=u.in (i m) af;obtain⟨q,g1,g2⟩:=fD h;have v:=λj=>y.expr (lev+1) (av s) q af (λ_=>M) g1 j
    have key:∀j:q.2.ak=0,gO q.2.a8 a0 (lev+1) (.mk {kind:=eO lev (al T s.at_),pos:=(al T s.at_).pos} [e,q.1]) q.2.at_:=by
     intro j;obtain⟨w,S,d,P,G⟩:=v j;obtain⟨i2,K,i3,i4⟩:=he m;have:=GZ (a:={kind:=eO lev (al T s.at_),pos:=(al T s.at_).pos}) (e:=e) (f:=q.1) (by simp);have Q:=u.a;have go:=u.o;have an:=w.o;refine⟨af,max d K,by rw[an,go];exact rh (by rw[<-go];exact P) i3,?_⟩;refine .bin af aT aU ?_ ?_
     ·rw[aG];exact i4.more af
     ·rw[aG];exact G.more af
    obtain⟨A,B⟩:=y.As lev _ a0 q.2 p aq (λj=>(v j).1.in M af) key g2 aC;have v:=v A.f;refine⟨((u.trans v.1).trans A).less af,?_⟩;rw[v.1.o,u.o]at B;exact B
  ·intro s p i h aC;rw[j4]at h;cases x:aZ T s [45]with
   |true=>rw[x,aR]at h;exact y.sign 12 s p (.inl rfl) i h aC
   |false=>
    rw[x,aK]at h;cases aa:aZ T s [33]with
    |true=>rw[aa,aR]at h;exact y.sign 13 s p (.inr rfl) i h aC
    |false=>
     rw[aa,aK]at h;obtain⟨q,g1,g2⟩:=fD h;have v:=λj=>y.first s q i g1 j
     obtain⟨A,B⟩:=y.behind q.1 s.at_ q.2 p (λj=>(v j).1.in (i (v j).1.f) af) (λj=>by rw[(v j).1.o];exact(v j).2) g2 aC;have v:=v A.f;exact⟨(v.1.trans A).less af,by rw[v.1.o]at B;exact B.low af⟩
  ·intro k s p aM i h aC;rw[lC]at h;obtain⟨q,g1,g2⟩:=fD h;cases g2;have j:q.2.ak=0:=aC;have aP:(ct T (al T s.at_).text s).ak=0->cU E (ct T (al T s.at_).text s):=λm _=>(js aw i m).2.2.2.2.1
   obtain⟨w,S,d,P,G⟩:=y.expr 5 _ q af (λm=>aP m m) g1 j;obtain⟨bz,bH,bZ,dF,H,ah⟩:=js aw i w.f;have aJ:=w.in H af;have aO:=xw aJ;simp only[aO]at aC ⊢;have aF:=w.a;have an:=w.o;have au:=w.b;have:=va (a:={kind:=k,pos:=(al T s.at_).pos}) (e:=q.1) (by simp);refine⟨⟨bH,aC,by(try simp only);omega,by(try simp only);omega,au⟩,by(try simp only);omega,d+1,af,.sign af aM G⟩
  ·intro e a0 s p i he h aC;rw[fC]at h;cases x:aZ T s [46]with
   |true=>
    rw[x,aR]at h;have m:=(ep x).1;have u:=fE aw (i m) x;have M:=u.in (i m) af;have W:=λj=>k5 aw (s:=av s) (λ_=>M) j
    obtain⟨i2,K,i3,i4⟩:=he m;obtain⟨A,B⟩:=y.behind _ a0 _ p (λj=>(W j).2.in M af) (λj=>by
     obtain⟨O,n2⟩:=W j;have:=va (a:={kind:=5,name:=(bq T (av s)).1,pos:=(al T s.at_).pos}) (e:=e) (by have:=er O;simp;omega);have aA:=n2.a;have Q:=u.a;refine⟨af,K,by rw[n2.o,u.o];exact i3,.field af O i4⟩) h aC
    have n2:=(W A.f).2;refine⟨((u.trans n2).trans A).less af,?_⟩;rw[n2.o,u.o]at B;exact B
   |false=>
    rw[x,aK]at h;cases aa:aZ T s [91]with
    |true=>
     rw[aa,aR]at h;have m:=(ep aa).1;obtain⟨q,g1,g2⟩:=fD h;obtain⟨i2,K,i3,i4⟩:=he m;have v:=λj=>y.expr 0 _ q af (λm=>(js aw i m).2.2.2.2.1) g1 j
     have aI:(dm T [93] q.2).ak=0->q.2.ak=0:=λN=>by
      have a1:(a_ T [93] q.2).ak=0:=N;unfold a_ at a1;cases L:aZ T q.2 [93]with
      |true=>exact(ep L).1
      |false=>rw[L,aK]at a1;exact absurd a1 (dU bk)
     have key:∀N:(dm T [93] q.2).ak=0,bY E s (dm T [93] q.2) 3/\gO s.a8 a0 7 (.mk {kind:=6,pos:=(al T s.at_).pos} [e,q.1]) (dm T [93] q.2).at_:=by
      intro N;obtain⟨w,S,d,P,G⟩:=v (aI N);obtain⟨bz,bH,bZ,dF,H,ah⟩:=js aw i w.f;have F:=rl aw af bZ.symm dF.symm m H w N;have ao:=F.a;have au:q.2.at_+1<=(dm T [93] q.2).at_:=by
       have a1:(a_ T [93] q.2).ak=0:=N;have:=(eR aw (λ_=>w.in H af) a1).2.2.a;exact this
      have:=GZ (a:={kind:=6,pos:=(al T s.at_).pos}) (e:=e) (f:=q.1) (by simp);refine⟨F.less af,af,max K (d+1),rh i3 af,?_⟩;obtain⟨z,L⟩:∃z,max K (d+1)=z+1:=⟨max K (d+1)-1,af⟩;rw[L];exact .item af (i4.more af) ((G.low af).more af)
     obtain⟨A,B⟩:=y.behind _ a0 _ p (λN=>(key N).1.in (i m) af) (λN=>by rw[(key N).1.o];exact(key N).2) g2 aC;have ae:=(key A.f).1;refine⟨(ae.trans A).less af,?_⟩;rw[ae.o]at B;exact B
    |false=>
     rw[aa,aK]at h;cases h;exact⟨.refl (i aC) aC,he aC⟩
  ·intro s p i h aC;rw[hC]at h;obtain⟨q,g1,g2⟩:=fD h;cases g2;have j:q.2.ak=0:=by
    have a1:(a_ T [41] q.2).ak=0:=aC;unfold a_ at a1;cases L:aZ T q.2 [41]with
    |true=>exact(ep L).1
    |false=>rw[L,aK]at a1;exact absurd a1 (dU bk)
   obtain⟨w,S,d,P,G⟩:=y.expr 0 _ q af (λm=>(js aw i m).2.2.2.2.1) g1 j;obtain⟨bz,bH,bZ,dF,H,ah⟩:=js aw i w.f;have F:=rl aw af bZ.symm dF.symm bH H w aC;have ao:=F.a;have au:q.2.at_+1<=(dm T [41] q.2).at_:=by
    have a1:(a_ T [41] q.2).ak=0:=aC;exact(eR aw (λ_=>w.in H af) a1).2.2.a
   refine⟨F.less af,by(try simp only);omega,d,by rw[<-bZ];exact P,G.low af⟩
  ·intro s p i h aC;rw[ih]at h;cases v:(s.ak==0&&(al T s.at_).kind==2)with
   |true=>
    rw[v,aR]at h;cases h;simp only[Bool.and_eq_true,beq_iff_eq]at v;have u:=(go_ok aw (i v.1) v.1 af).2;have W:=PI aw v.2;have Q:=u.a;have:=u_ (a:={kind:=1,n:=(al T s.at_).n,pos:=(al T s.at_).pos}) (by simp) rfl;have R:=(i v.1).d;exact⟨u,by(try simp only);omega,0,by simpa using R,.int af W.1 W.2⟩
   |false=>
    rw[v,aK]at h;cases ab:(aZ T s [116,114,117,101]||aZ T s [102,97,108,115,101])with
    |true=>
     rw[ab,aR]at h;cases h;have u:bY E s (av s) 1:=by
      rcases Bool.or_eq_true_iff.1 ab with x|x<;>exact fE aw (i (ep x).1) x
     have Q:=u.a;have R:=(i u.f).d;have:=u_ (a:={kind:=2,n:=bif (al T s.at_).text==[116,114,117,101]then 1 else 0,pos:=(al T s.at_).pos}) (by simp) rfl;refine⟨u,by(try simp only);omega,0,by simpa using R,.bool af ?_⟩;cases(al T s.at_).text==[116,114,117,101]
     ·exact .inl rfl
     ·exact .inr rfl
    |false=>
     rw[ab,aK]at h;cases aj:aZ T s [110,117,108,108]with
     |true=>
      rw[aj,aR]at h;cases h;have m:=(ep aj).1;have u:=fE aw (i m) aj;obtain⟨bz,bH⟩:=oG aw (u.f_ i af) aC;have Q:=u.a;have aS:=bH.a;have R:=(i m).d;have:=GY (a:={kind:=3,cp:=(cO T (av s)).1.1,c2:=(cO T (av s)).1.2,pos:=(al T s.at_).pos}) (fh bz) rfl;exact⟨(u.trans bH).less af,by(try simp only);omega,0,by simpa using R,.null af bz⟩
     |false=>
      rw[aj,aK]at h;cases ad:aZ T s [110,101,119]with
      |true=>
       rw[ad,aR]at h;have m:=(ep ad).1;have u:=fE aw (i m) ad;obtain⟨A,B⟩:=y.fresh _ _ p (u.f_ i af) h aC;have Q:=u.a;have ge:=(go_ok aw (i m) m (by rw[(ep ad).2.1];exact wV _)).1;rw[u.o]at B;exact⟨(u.trans A).less af,B.wide (by rw[ge];simp) (Int.le_refl _)⟩
      |false=>
       rw[ad,aK]at h;cases V:aZ T s [108,101,110]with
       |true=>
        rw[V,aR]at h;have m:=(ep V).1;have u:=fE aw (i m) V;obtain⟨q,g1,g2⟩:=fD h;cases g2;obtain⟨w,S,d,P,G⟩:=y.inner _ q (u.f_ i af) g1 aC;have Q:=u.a;have go:=u.o;have:=va (a:={kind:=10,pos:=(al T s.at_).pos}) (e:=q.1) (by simp);exact⟨(u.trans w).less af,by(try simp only);omega,d+1,af,.len af G⟩
       |false=>
        rw[V,aK]at h;cases am:aZ T s [114,101,97,100]with
        |true=>
         rw[am,aR]at h;cases h;have m:=(ep am).1;have u:=fE aw (i m) am;have j:(ct T [40] (av s)).ak=0:=by
          have a1:(a_ T [41] (ct T [40] (av s))).ak=0:=aC;unfold a_ at a1;cases L:aZ T (ct T [40] (av s)) [41]with
          |true=>exact(ep L).1
          |false=>rw[L,aK]at a1;exact absurd a1 (dU bk)
         obtain⟨bz,bH,bZ,dF,H,ah⟩:=js aw (u.f_ i af) j;have F:=rl aw (k:=0) af bZ.symm dF.symm bH H (.refl H j) aC;have Q:=u.a;have go:=u.o;have ao:=F.a;have:=u_ (a:={kind:=11,pos:=(al T s.at_).pos}) (by simp) rfl;exact⟨(u.trans F).less af,by(try simp only);omega,1,af,.read af⟩
        |false=>
         rw[am,aK]at h;cases aE:aZ T s [40]with
         |true=>
          rw[aE,aR]at h;obtain⟨w,S,d,P,G⟩:=y.inner s p i h aC;exact⟨w,S,d+1,af,G.up af⟩
         |false=>
          rw[aE,aK]at h;have R:s.ak=0->s.a8<=50:=λm=>(i m).d
          cases ap:aZ T (bq T s).2 [40]with
          |true=>
           rw[ap,aR]at h;obtain⟨q,g1,g2⟩:=fD h;cases g2;obtain⟨O,n2⟩:=k5 aw i (ep ap).1;obtain⟨A,B,d,ae,ag⟩:=y.args _ q (n2.f_ i af) g1 aC;have aA:=n2.a;have no:=n2.o;have:=P1 (a:={kind:=7,name:=(bq T s).1,pos:=(al T s.at_).pos}) (l:=q.1) (by have:=er O;simp;omega);exact⟨(n2.trans A).less af,by(try simp only);omega,d+1,af,.call af O ag⟩
          |false=>
           rw[ap,aK]at h;cases h;obtain⟨O,n2⟩:=k5 aw i aC;have aA:=n2.a;have:=u_ (a:={kind:=4,name:=(bq T s).1,pos:=(al T s.at_).pos}) (er O) rfl;exact⟨n2,by(try simp only);omega,0,by simpa using R n2.f,.var af O⟩
  ·intro pos s p i h aC;rw[kY]at h;cases x:aZ T s [91]with
   |true=>
    rw[x,aR]at h;obtain⟨q,g1,g2⟩:=fD h;cases g2;have m:=(ep x).1;have u:=fE aw (i m) x;have M:=u.in (i m) af;have ar:=λj:(a_ T [93] (cO T (av s)).2).ak=0=>by
     have ab:(cO T (av s)).2.ak=0:=by
      unfold a_ at j;cases L:aZ T (cO T (av s)).2 [93]with
      |true=>exact(ep L).1
      |false=>rw[L,aK]at j;exact absurd j (dU bk)
     have o:=oG aw (λ_=>M) ab;exact ai o (eR aw (λ_=>o.2.in M af) j).2.2
    obtain⟨w,S,d,P,G⟩:=y.inner _ q (λj=>((ar j).1.2.trans (ar j).2).in M af) g1 aC;obtain⟨⟨bz,bH⟩,bZ⟩:=ar w.f;have Q:=u.a;have go:=u.o;have aS:=bH.a;have aW:=bH.o;have aV:=bZ.a;have to:=bZ.o;have:=va (a:={kind:=9,cp:=(cO T (av s)).1.1,c2:=(cO T (av s)).1.2,pos:=pos}) (e:=q.1) (by have:=fh bz;simp;omega);exact⟨(((u.trans bH).trans bZ).trans w).less af,by(try simp only);omega,d+1,af,.make af bz G⟩
   |false=>
    rw[x,aK]at h;cases h;obtain⟨O,n2⟩:=k5 aw i aC;have aA:=n2.a;have R:=(i n2.f).d;have:=GY (a:={kind:=8,cp:=(bq T s).1,pos:=pos}) (er O) rfl;exact⟨n2,by(try simp only);omega,0,by simpa using R,.new af O⟩
  ·intro s p i h aC;rw[iH]at h;cases x:aZ T (ct T [40] s) [41]with
   |true=>
    rw[x,aR]at h;cases h;obtain⟨bz,bH,bZ,dF,H,ah⟩:=js aw i (ep x).1;have F:=rl aw (k:=0) af bZ.symm dF.symm bH H (.refl H (ep x).1) aC;have ao:=F.a;refine⟨F.less af,by simp only[bX];omega,0,af,λe he=>by cases he⟩
   |false=>
    rw[x,aK]at h;obtain⟨q,g1,g2⟩:=fD h;have v:=λj=>y.expr 0 _ q af (λm=>(js aw i m).2.2.2.2.1) g1 j
    have aH:=λj=>js aw i (v j).1.f
    by_cases j:q.2.ak=0
    ·obtain⟨w,S,d,P,G⟩:=v j;obtain⟨bz,bH,bZ,dF,H,ah⟩:=aH j;have an:=w.o;have aF:=w.a;have F:=(i bH).c;obtain⟨⟨A,B,ae,ag⟩,ax,K,aQ,ay⟩:=y.zd [q.1] s.at_ q.2 p (λ_=>w.in H af) af (λ_=>⟨by simp only[bX];omega,d,af,λe he=>by
      simp only[List.mem_cons,List.not_mem_nil,or_false]at he;subst he;exact G.low af⟩) g2 aC
     exact⟨⟨bH,aC,af,af,ag⟩,ax,K,af,ay⟩
    ·exfalso;cases n with
     |zero=>rw[hz]at g2;cases g2
     |succ n=>
      rw[hz,dP j,aK]at g2;cases g2;have a1:(a_ T [41] q.2).ak=0:=aC;unfold a_ at a1;rw[dP j,aK]at a1;exact absurd a1 (dU bk)
  ·intro l a0 s p i aB he h aC;rw[hz]at h;cases x:aZ T s [44]with
   |true=>
    rw[x,aR]at h;obtain⟨q,g1,g2⟩:=fD h;have m:=(ep x).1;have u:=fE aw (i m) x;have M:=u.in (i m) af;have v:=λj=>y.expr 0 _ q af (λ_=>M) g1 j
    by_cases j:q.2.ak=0
    ·obtain⟨w,S,d,P,G⟩:=v j;obtain⟨i2,K,i3,i4⟩:=he m;have go:=u.o;have Q:=u.a;have an:=w.o;have aF:=w.a;obtain⟨⟨A,B,ae,ag⟩,ax,d2,aQ,ay⟩:=y.zd (l++[q.1]) a0 q.2 p (λ_=>w.in M af) af (λ_=>⟨by rw[G0];omega,max d K,rh af af,λe he=>by
      rcases List.mem_append.1 he with he|he
      ·exact(i4 e he).more af
      ·simp only[List.mem_cons,List.not_mem_nil,or_false]at he;subst he;exact(G.low af).more af⟩) g2 aC
     exact⟨⟨m,af,af,ag⟩,ax,d2,af,ay⟩
    ·exfalso;cases n with
     |zero=>rw[hz]at g2;cases g2
     |succ n=>
      rw[hz,dP j,aK]at g2;cases g2;have a1:(a_ T [41] q.2).ak=0:=aC;unfold a_ at a1;rw[dP j,aK]at a1;exact absurd a1 (dU bk)
   |false=>
    rw[x,aK]at h;cases h;have a1:(a_ T [41] s).ak=0:=aC;obtain⟨t1,t2,t3⟩:=eR aw i a1;have m:=t3.f;obtain⟨i2,K,i3,i4⟩:=he m;have aV:=t3.a;have to:=t3.o;have u2:=t3.b;have aL:=t3.in (i m) af;have e:dm T [41] s={a_ T [41] s with a8:=(a_ T [41] s).a8-1}:=by unfold dm;exact xw aL
    simp only[e]at aC ⊢;refine⟨⟨m,by(try simp only);omega,by(try simp only);omega,u2⟩,by(try simp only);omega,K,i3,i4⟩
inductive ei:Nat->br->Prop
 |var {d x o z p}:eG x=true->j_ o z->ei d (.mk {kind:=1,name:=x,cp:=o,c2:=z,pos:=p} [] [] [])
 |lets {d x o z p e}:eG x=true->j_ o z->cF d 0 e->ei d (.mk {kind:=2,name:=x,cp:=o,c2:=z,pos:=p} [e] [] [])
 |set {d x p e}:eG x=true->cF d 0 e->ei d (.mk {kind:=3,name:=x,pos:=p} [e] [] [])
 |put {d p e f}:e.kind=5\/e.kind=6->cF d 0 e->cF d 0 f->ei d (.mk {kind:=4,pos:=p} [e,f] [] [])
 |ifs {d p e b c}:cF (d+1) 0 e->(∀s∈b,ei d s)->(∀s∈c,ei d s)->ei (d+1) (.mk {kind:=5,pos:=p} [e] b c)
 |while {d p e b}:cF (d+1) 0 e->(∀s∈b,ei d s)->ei (d+1) (.mk {kind:=6,pos:=p} [e] b [])
 |nd {d p}:ei d (.mk {kind:=7,pos:=p} [] [] [])
 |nf {d p e}:cF d 0 e->ei d (.mk {kind:=7,pos:=p} [e] [] [])
 |print {d p e}:cF d 0 e->ei d (.mk {kind:=8,pos:=p} [e] [] [])
 |call {d p e}:e.kind=7->cF d 0 e->ei d (.mk {kind:=9,pos:=p} [e] [] [])
def ei.at{d:Nat}{s:br}(h:ei d s)(p:Int):ei d (s.at p):=by
 cases h with
 |var a b=>exact .var a b
 |lets a b c=>exact .lets a b c
 |set a b=>exact .set a b
 |put a b c=>exact .put a b c
 |ifs a b c=>exact .ifs a b c
 | «while» a b=>exact .while a b
 |nd=>exact .nd
 |nf a=>exact .nf a
 |print a=>exact .print a
 |call a b=>exact .call a b
def ei.more{d:Nat}{s:br}(h:ei d s):∀{e:Nat},d<=e->ei e s:=by
 induction h with
 |var a b=>intro e _;exact .var a b
 |lets a b c=>intro e i;exact .lets a b (c.more i)
 |set a b=>intro e i;exact .set a (b.more i)
 |put a b c=>intro e i;exact .put a (b.more i) (c.more i)
 |ifs a _ _ ih1 ih2=>intro e i;obtain⟨k,rfl⟩:∃k,e=k+1:=⟨e-1,af⟩;exact .ifs (a.more i) (λs aB=>ih1 s aB af) (λs aB=>ih2 s aB af)
 | «while» a _ ih1=>intro e i;obtain⟨k,rfl⟩:∃k,e=k+1:=⟨e-1,af⟩;exact .while (a.more i) (λs aB=>ih1 s aB af)
 |nd=>intro e _;exact .nd
 |nf a=>intro e i;exact .nf (a.more i)
 |print a=>intro e i;exact .print (a.more i)
 |call a b=>intro e i;exact .call a (b.more i)
mutual
def eh:br->Nat
 | .mk a es b c=>400+a.name.length+a.cp.length+bX es+dn b+dn c
def dn:List br->Nat
 |[]=>0
 |e::r=>eh e+dn r
end
def G2:∀(l:List br) (e:br),dn (l++[e])=dn l+eh e
 |[],e=>by simp[dn]
 |x::l,e=>by rw[List.cons_append,dn,G2 l e,dn];omega
def P3(s:br)(p:Int):eh (s.at p)=eh s:=by cases s;rfl
def G1{a:b2}(c:a.name.length+a.cp.length<=16):(eh (.mk a [] [] []):Int)<=416:=by simp[eh,bX,dn];omega
def sL{a:b2}{e:aJ}(c:a.name.length+a.cp.length<=16):(eh (.mk a [e] [] []):Int)<=416+cM e:=by simp[eh,bX,dn];omega
def P4{a:b2}{e f:aJ}(c:a.name.length+a.cp.length<=16):(eh (.mk a [e,f] [] []):Int)<=416+cM e+cM f:=by simp[eh,bX,dn];omega
def yu{a:b2}{e:aJ}{b c:List br}(d:a.name.length+a.cp.length<=16):(eh (.mk a [e] b c):Int)<=416+cM e+dn b+dn c:=by simp[eh,bX];omega
section
variable {T:List Tok}{E:Int}{s s' s2:an}
def bY.to{y:an}{k:Int}(c:cU E s)(h:y.ak=0->bY E s y k)(d:0<=k):cU E y:=λa=>(h a).in (c (h a).f) d
def nY(T:List Tok):Prop:=∀s,∃p,eA T 800000000 0 s=D p
def oq(aw:Good T E)(d:nY T)(e:cU E s)(h:(bG T s).2.ak=0):bY E s (bG T s).2 1/\gO s.a8 s.at_ 0 (bG T s).1 (bG T s).2.at_:=by
 obtain⟨p,aC⟩:=d s;unfold bG at h ⊢;rw[aC]at h ⊢;obtain⟨a,c⟩:=(Ev aw 800000000).expr 0 s p af e aC h;exact⟨a,c.low af⟩
def ys(aw:Good T E)(i:cU E s)(h:(df T s).2.ak=0):eG (df T s).1.1=X/\j_ (df T s).1.2.1 (df T s).1.2.2/\bY E s (df T s).2 3:=by
 have c:=λj=>k5 aw i j
 have d:=λj=>eR aw (s:=(bq T s).2) (x:=[58]) (bY.to i (λa=>(c a).2) af) j
 have e:=oG aw (s:=a_ T [58] (bq T s).2) (bY.to i (λa=>(c (d a).2.2.f).2.trans (d a).2.2) af) h;have l:=d e.2.f;have k:=c l.2.2.f;exact⟨k.1,e.1,((k.2.trans l.2.2).trans e.2).less af⟩
structure Hy(T:List Tok)(E:Int)(n:Nat):Prop where
 block:∀s p,cU E s->gC T n s=some p->p.2.ak=0->bY E s p.2 2/\(dn p.1:Int)<=400*(p.2.at_-s.at_-2)/\∃d:Nat,s.a8+(d+1)<=50/\∀x∈p.1,ei d x
 loop:∀l a0 s p,cU E s->(s.ak=0->(dn l:Int)<=400*(s.at_-a0)/\∃d:Nat,s.a8+d<=50/\∀x∈l,ei d x)->iN T n l s=some p->p.2.ak=0->bY E s p.2 0/\(dn p.1:Int)<=400*(p.2.at_-a0)/\∃d:Nat,s.a8+d<=50/\∀x∈p.1,ei d x
 stmt:∀s p,cU E s->nQ T n s=some p->p.2.ak=0->bY E s p.2 2/\(eh p.1:Int)<=400*(p.2.at_-s.at_)/\∃d:Nat,s.a8+d<=50/\ei d p.1
def Lt(aw:Good T E)(H:nY T)(L:cU E s)(h:(jv T s).2.ak=0):bY E s (jv T s).2 2/\(eh (jv T s).1:Int)<=400*((jv T s).2.at_-s.at_)/\∃d:Nat,s.a8+d<=50/\ei d (jv T s).1:=by
 have m:=λc=>oq aw H L c
 have i1:cU E (bG T s).2:=bY.to L (λy=>(m y).1) af;unfold jv at h ⊢;cases w:aZ T (bG T s).2 [61]with
 |true=>
  rw[w,aR]at h;rw[aR];have v:=(ep w).1;obtain⟨k,Q,d,z,n⟩:=m v;have a1:(a_ T [59] (bG T (hR T (bG T s).1 (bG T s).2)).2).ak=0:=h;have O:=λc=>eR aw (s:=bif hB (bG T s).1 then bE T 2 (bG T s).2 else(bG T s).2) (x:=[61]) (λi=>by
   cases j:hB (bG T s).1 with
   |true=>rw[j,aR]at i;exact absurd i (dU bk)
   |false=>rw[aK];exact i1 v) c
  have K:(hR T (bG T s).1 (bG T s).2).ak=0->hB (bG T s).1=U/\bY E (bG T s).2 (hR T (bG T s).1 (bG T s).2) 1:=λc=>by
   have p:=(O c).2.2;cases j:hB (bG T s).1 with
   |true=>
    have:=p.f;rw[j,aR]at this;exact absurd this (dU bk)
   |false=>
    rw[j,aK]at p;unfold hR;rw[j,aK];exact⟨rfl,p⟩
  have i2:cU E (hR T (bG T s).1 (bG T s).2):=λc=>(K c).2.in (i1 v) af
  have u:=λc=>oq aw H i2 c
  have i3:cU E (bG T (hR T (bG T s).1 (bG T s).2)).2:=bY.to i2 (λy=>(u y).1) af;obtain⟨-,-,t3⟩:=eR aw i3 a1;obtain⟨A,aa,F,ab,N⟩:=u t3.f;obtain⟨aT,B⟩:=K A.f;have R:=k.a;have S:=k.o;have ae:=B.a;have ag:=B.o;have ad:=A.a;have V:=t3.a;have hj:bY E s (a_ T [59] (bG T (hR T (bG T s).1 (bG T s).2)).2) 2:=(((k.trans B).trans A).trans t3).less af;simp only[uZ];refine⟨hj,?_⟩;cases G:(bG T s).1.kind==4 with
  |true=>
   rw[aR];have l:(bG T s).1.kind=4:=by simpa using G
   have M:eG (bG T s).1.name=true:=by
    generalize (bG T s).1=e at n l;cases n with
    |par _ h _=>omega
    |var _ h=>exact h
    |bin W m u _ _=>simp only[aJ.kind]at l;omega
    |sign _ m _=>simp only[aJ.kind]at l;omega
    |_=>simp[aJ.kind]at l
   have:=sL (a:={kind:=3,name:=(bG T s).1.name}) (e:=(bG T (hR T (bG T s).1 (bG T s).2)).1) (by have:=er M;simp;omega);exact⟨af,F,af,.set M N⟩
  |false=>
   rw[aK];have l:(bG T s).1.kind≠4:=by simpa using G
   have j:(bG T s).1.kind=5\/(bG T s).1.kind=6:=by
    unfold hB at aT;simp only[Bool.and_eq_false_iff,bne_eq_false_iff_eq]at aT;rcases aT with q|q|q
    ·exact absurd q l
    ·exact .inl q
    ·exact .inr q
   have:=P4 (a:={kind:=4}) (e:=(bG T s).1) (f:=(bG T (hR T (bG T s).1 (bG T s).2)).1) (by simp);exact⟨af,max d F,rh z af,.put j (n.more af) (N.more af)⟩
 |false=>
  rw[w,aK]at h;rw[aK];have a1:(a_ T [59] (bif aZ T (bG T s).2 [59]&&(bG T s).1.kind != 7 then bE T 2 (bG T s).2 else(bG T s).2)).ak=0:=h;cases i:aZ T (bG T s).2 [59]&&(bG T s).1.kind != 7 with
  |true=>
   rw[i,aR]at a1;unfold a_ at a1;rw[dP (dU bk),aK,eF (dU bk)]at a1;exact absurd a1 (dU bk)
  |false=>
   rw[i,aK]at a1;obtain⟨t1,t2,t3⟩:=eR aw i1 a1;obtain⟨k,Q,d,z,n⟩:=m t3.f;rw[t1,Bool.true_and]at i;have P:(bG T s).1.kind=7:=by simpa using i
   have R:=k.a;have S:=k.o;have V:=t3.a;have:=sL (a:={kind:=9}) (e:=(bG T s).1) (by simp);simp only[aK];exact⟨(k.trans t3).less af,af,d,z,.call P n⟩
def xH(aw:Good T E)(L:nY T):∀n,Hy T E n
 |0=>by
  constructor<;>intros<;>rename_i h _<;>first|cases h|skip
 |n+1=>by
  have O:=xH aw L n;refine⟨?_,?_,?_⟩
  ·intro s p v h aC;rw[gC]at h;obtain⟨q,g1,g2⟩:=fD h;cases g2;have i:q.2.ak=0:=by
    have a1:(a_ T [125] q.2).ak=0:=aC;unfold a_ at a1;cases aq:aZ T q.2 [125]with
    |true=>exact(ep aq).1
    |false=>rw[aq,aK]at a1;exact absurd a1 (dU bk)
   obtain⟨j,M,d,G,z⟩:=O.loop [] (ct T [123] s).at_ _ q (λah=>(js aw v ah).2.2.2.2.1) (λah=>⟨by simp[dn],0,by have:=(js aw v ah).2.2.2.2.1.d;simpa using this,λx u=>by cases u⟩) g1 i;obtain⟨bz,bH,bZ,dF,aB,aI⟩:=js aw v j.f;have N:=rl aw (k:=0) af bZ.symm dF.symm bH aB j aC;have aH:q.2.at_+1<=(dm T [125] q.2).at_:=by
    have a1:(a_ T [125] q.2).ak=0:=aC;exact(eR aw (λ_=>j.in aB af) a1).2.2.a
   exact⟨N.less af,by(try simp only);omega,d,af,z⟩
  ·intro l a0 s p v he h aC;rw[iN]at h;cases N:(s.ak==0&& !aZ T s [125])with
   |false=>
    rw[N,aK]at h;cases h;exact⟨.refl (v aC) aC,he aC⟩
   |true=>
    rw[N,aR]at h;simp only[Bool.and_eq_true,beq_iff_eq]at N;obtain⟨q,g1,g2⟩:=fD h;have ae:=λi=>O.stmt s q v g1 i
    obtain⟨i2,aE,i3,i4⟩:=he N.1;obtain⟨W,ai,d2,aj,am⟩:=O.loop (l++[q.1]) a0 q.2 p (bY.to v (λy=>(ae y).1) af) (λi=>by
     obtain⟨j,M,d,G,z⟩:=ae i;refine⟨by rw[G2];omega,max d aE,by rw[j.o];exact rh G i3,λx u=> ?_⟩;rcases List.mem_append.1 u with u|u
     ·exact(i4 x u).more af
     ·simp only[List.mem_cons,List.not_mem_nil,or_false]at u;subst u;exact z.more af) g2 aC
    have j:=(ae W.f).1;exact⟨(j.trans W).less af,ai,d2,by rw[<-j.o];exact aj,am⟩
  ·intro s p v h aC;rw[nQ]at h;obtain⟨q,g1,g2⟩:=fD h;cases g2;have key:bY E s q.2 2/\(eh q.1:Int)<=400*(q.2.at_-s.at_)/\∃d:Nat,s.a8+d<=50/\ei d q.1:=by
    have i:q.2.ak=0:=aC;clear aC;cases ad:(aZ T s [118,97,114]||aZ T s [108,101,116])with
    |true=>
     rw[ad,aR]at g1;have m:bY E s (av s) 1:=by
      rcases Bool.or_eq_true_iff.1 ad with u|u<;>exact fE aw (v (ep u).1) u
     have w:=m.f_ v af;have S:=m.a;have go:=m.o;have t1:=λi=>ys aw w i
     have it:cU E (df T (av s)).2:=bY.to w (λy=>(t1 y).2.2) af;cases H:(al T s.at_).text==[108,101,116]with
     |true=>
      rw[H,aR]at g1;cases g1;have ao:=λi=>eR aw (x:=[61]) it i
      have ax:cU E (a_ T [61] (df T (av s)).2):=bY.to it (λy=>(ao y).2.2) af;have ar:=λi=>oq aw L ax i
      have F:cU E (bG T (a_ T [61] (df T (av s)).2)).2:=bY.to ax (λy=>(ar y).1) af;obtain⟨-,-,dE⟩:=eR aw (x:=[59]) F i;obtain⟨j,M,d,G,z⟩:=ar dE.f;obtain⟨-,-,aa⟩:=ao j.f;obtain⟨Q,n2,P⟩:=t1 aa.f;have ab:=dE.a;have ay:=j.a;have aJ:=aa.a;have aL:=aa.o;have aG:=P.a;have no:=P.o;have:=sL (a:={kind:=2,name:=(df T (av s)).1.1,cp:=(df T (av s)).1.2.1,c2:=(df T (av s)).1.2.2}) (e:=(bG T (a_ T [61] (df T (av s)).2)).1) (by have:=er Q;have:=fh n2;simp;omega);simp only[p4];exact⟨((((m.trans P).trans aa).trans j).trans dE).less af,af,d,af,.lets Q n2 z⟩
     |false=>
      rw[H,aK]at g1;cases g1;obtain⟨-,-,dE⟩:=eR aw (x:=[59]) it i;obtain⟨Q,n2,P⟩:=t1 dE.f;have ab:=dE.a;have aG:=P.a;have ag:=(v m.f).d;have:=G1 (a:={kind:=1,name:=(df T (av s)).1.1,cp:=(df T (av s)).1.2.1,c2:=(df T (av s)).1.2.2}) (by have:=er Q;have:=fh n2;simp;omega);simp only[pM];exact⟨((m.trans P).trans dE).less af,af,0,by simpa using ag,.var Q n2⟩
    |false=>
     rw[ad,aK]at g1;cases H:aZ T s [105,102]with
     |true=>
      rw[H,aR]at g1;have m:=fE aw (v (ep H).1) H;have w:=m.f_ v af;have S:=m.a;have go:=m.o;have ar:=λi=>oq aw L w i
      have F:cU E (bG T (av s)).2:=bY.to w (λy=>(ar y).1) af;obtain⟨b,g3,g4⟩:=fD g1;have an:=λi=>O.block _ b F g3 i
      cases B:aZ T b.2 [101,108,115,101]with
      |true=>
       rw[B,aR]at g4;obtain⟨c,g5,g6⟩:=fD g4;cases g6;have ap:=an (ep B).1;have au:cU E b.2:=ap.1.f_ F af;have V:=fE aw (au (ep B).1) B;obtain⟨m1,m2,d2,m3,m4⟩:=O.block _ c (V.f_ au af) g5 i;obtain⟨A,aA,d1,dH,ff⟩:=ap;obtain⟨j,M,d,G,z⟩:=ar A.f;have:=yu (a:={kind:=5}) (e:=(bG T (av s)).1) (b:=b.1) (c:=c.1) (by simp);have aQ:=j.a;have a2:=A.a;have a3:=V.a;have a4:=m1.a;have bz:=j.o;have bH:=A.o;have bZ:=V.o;refine⟨((((m.trans j).trans A).trans V).trans m1).less af,by(try simp only);omega,max (d-1) (max d1 d2)+1,af,.ifs (z.more af) (λx u=>(ff x u).more af) (λx u=>(m4 x u).more af)⟩
      |false=>
       rw[B,aK]at g4;cases g4;obtain⟨A,aA,d1,dH,ff⟩:=an i;obtain⟨j,M,d,G,z⟩:=ar A.f;have:=yu (a:={kind:=5}) (e:=(bG T (av s)).1) (b:=b.1) (c:=[]) (by simp);have aQ:=j.a;have a2:=A.a;have bz:=j.o;have aF:dn []=0:=rfl;refine⟨((m.trans j).trans A).less af,by(try simp only);omega,max (d-1) d1+1,af,.ifs (z.more af) (λx u=>(ff x u).more af) (λx u=>by cases u)⟩
     |false=>
      rw[H,aK]at g1;cases B:aZ T s [119,104,105,108,101]with
      |true=>
       rw[B,aR]at g1;have m:=fE aw (v (ep B).1) B;have w:=m.f_ v af;have S:=m.a;have go:=m.o;have ar:=λi=>oq aw L w i
       have F:cU E (bG T (av s)).2:=bY.to w (λy=>(ar y).1) af;obtain⟨b,g3,g4⟩:=fD g1;cases g4;obtain⟨A,aA,d1,dH,ff⟩:=O.block _ b F g3 i;obtain⟨j,M,d,G,z⟩:=ar A.f;have:=yu (a:={kind:=6}) (e:=(bG T (av s)).1) (b:=b.1) (c:=[]) (by simp);have aQ:=j.a;have a2:=A.a;have bz:=j.o;have aF:dn []=0:=rfl;refine⟨((m.trans j).trans A).less af,by(try simp only);omega,max (d-1) d1+1,af,.while (z.more af) (λx u=>(ff x u).more af)⟩
      |false=>
       rw[B,aK]at g1;cases R:aZ T s [114,101,116,117,114,110]with
       |true=>
        rw[R,aR]at g1;have m:=fE aw (v (ep R).1) R;have w:=m.f_ v af;have S:=m.a;have go:=m.o;have ag:=(v m.f).d;cases g1;unfold sh at i ⊢;cases K:aZ T (av s) [59]with
        |true=>
         rw[K,aR]at i;rw[aR];obtain⟨-,-,dE⟩:=eR aw (x:=[59]) w i;have ab:=dE.a;have:=G1 (a:={kind:=7}) (by simp);exact⟨(m.trans dE).less af,by(try simp only);omega,0,by simpa using ag,.nd⟩
        |false=>
         rw[K,aK]at i;rw[aK];have ar:=λi=>oq aw L w i
         have F:cU E (bG T (av s)).2:=bY.to w (λy=>(ar y).1) af;obtain⟨-,-,dE⟩:=eR aw (x:=[59]) F i;obtain⟨j,M,d,G,z⟩:=ar dE.f;have ab:=dE.a;have ay:=j.a;have:=sL (a:={kind:=7}) (e:=(bG T (av s)).1) (by simp);exact⟨((m.trans j).trans dE).less af,by(try simp only);omega,d,af,.nf z⟩
       |false=>
        rw[R,aK]at g1;cases K:aZ T s [112,114,105,110,116]with
        |true=>
         rw[K,aR]at g1;have m:=fE aw (v (ep K).1) K;have w:=m.f_ v af;have S:=m.a;have go:=m.o;cases g1;unfold tX at i ⊢;have ar:=λi=>oq aw L w i
         have F:cU E (bG T (av s)).2:=bY.to w (λy=>(ar y).1) af;obtain⟨-,-,dE⟩:=eR aw (x:=[59]) F i;obtain⟨j,M,d,G,z⟩:=ar dE.f;have ab:=dE.a;have ay:=j.a;have:=sL (a:={kind:=8}) (e:=(bG T (av s)).1) (by simp);exact⟨((m.trans j).trans dE).less af,by(try simp only);omega,d,af,.print z⟩
        |false=>
         rw[K,aK]at g1;cases g1;exact Lt aw L v i
   obtain⟨W,ai,d,aj,am⟩:=key;exact⟨W,by rw[P3];exact ai,d,aj,am.at _⟩
end
def Tok.eo(t:Tok):Tok:=⟨t.kind,t.text,t.n,0⟩
def an.eo(s:an):an:=⟨s.at_,s.a8,s.ak,0⟩
def bK.eo(a:bK):bK:={a with pos:=0}
mutual
def aJ.eo:aJ->aJ
 | .mk a ks=> .mk a.eo (wh ks)
def wh:List aJ->List aJ
 |[]=>[]
 |e::es=>e.eo::wh es
end
def b2.eo(a:b2):b2:={a with pos:=0}
mutual
def br.eo:br->br
 | .mk a es b c=> .mk a.eo (wh es) (tb b) (tb c)
def tb:List br->List br
 |[]=>[]
 |e::es=>e.eo::tb es
end
section
variable {α β:Type}{f:α->α}{h:β->β}
end
section
variable (T:List Tok)(s:an)
def bL(t:Tok):t.eo.kind=t.kind:=rfl
def eD(t:Tok):t.eo.text=t.text:=rfl
end
def bF.eo(p:bF):bF:={p with pos:=0}
def e9.eo(r:e9):e9:=⟨r.name,r.fields.map bF.eo,0⟩
def Fn.eo(f:Fn):Fn:=⟨f.name,f.params.map bF.eo,f.has,f.dB,f.rd,tb f.body,0⟩
def cj.eo(g:cj):cj:=⟨g.cm.map e9.eo,g.globals.map bF.eo,g.funcs.map Fn.eo⟩
section
variable (T:List Tok)(s:an)
