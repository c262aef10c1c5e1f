/-
  Texts of one proof, laid together: T1 Sq Pa Pb Pc Pd Ea Eb.
-/
import Derived.Test.YtghmbpmaafnodaaDoorMG
set_option linter.unusedVariables false
set_option linter.unusedSimpArgs false
set_option linter.defProp false
open Option renaming some→D,none→C
open Bool renaming true→X,false→U
namespace Go.Proofs.YtghmbpmaafnodaaDoor
open Go.bn
structure b0 where
 kind:Int
 name:aC:=[]
 b4:aC:=[]
 cy:Int:=0
 pos:Int:=0
 ref:Int:=0
inductive bf where
 |mk (a:b0) (es:List aE) (body els:List bf)
def bf.zero:bf:= .mk {kind:=0} [] [] []
def bf.at(p:Int):bf->bf
 | .mk a es b c=> .mk {a with pos:=p} es b c
def aE.kind:aE->Int
 | .mk a _=>a.kind
def aE.name:aE->aC
 | .mk a _=>a.name
def gn(e:aE):Bool:=e.kind != 4&&(e.kind != 5&&e.kind != 6)
def dm(T:List Tok)(s:al):aE×al:=if s.an≠0 then(.zero,s)else match gP T 800000000 0 (m_ s.at_ s.bk)with
 |some (e,s')=>if s'.an=0 then(e,{s with at_:=s'.at_})else(.zero,{s with an:=s'.an,bN:=s'.bN})
 |none=>(.zero,s)
def oT(T:List Tok)(s:al):(aC×Int)×al:=if(dT T ⟨s.at_,0,0,0⟩).2.an=0 then((dT T ⟨s.at_,0,0,0⟩).1,{s with at_:=(dT T ⟨s.at_,0,0,0⟩).2.at_})else(([],0),{s with an:=(dT T ⟨s.at_,0,0,0⟩).2.an,bN:=(dT T ⟨s.at_,0,0,0⟩).2.bN})
def colonS(T:List Tok)(s:al):al:=(b8 T [58] (aw (bif (aj T s.at_).kind != 1 then bQ T 2 s else s))).2
def jT(T:List Tok)(s:al):(aC×aC×Int)×al:=
 if(colonS T s).an≠0 then(([],[],0),colonS T s)else(((aj T s.at_).text,(oT T (colonS T s)).1),(oT T (colonS T s)).2)
def C1(T:List Tok)(s:al):bf×al:=(.mk {kind:=1,name:=(jT T s).1.1,b4:=(jT T s).1.2.1,cy:=(jT T s).1.2.2} [] [] [],(b8 T [59] (jT T s).2).2)
def F7(T:List Tok)(s:al):bf×al:=(.mk {kind:=2,name:=(jT T s).1.1,b4:=(jT T s).1.2.1,cy:=(jT T s).1.2.2} [(dm T (b8 T [61] (jT T s).2).2).1] [] [],(b8 T [59] (dm T (b8 T [61] (jT T s).2).2).2).2)
def wH(T:List Tok)(s:al):bf×al:=bif bz T s 4 [59]then(.mk {kind:=7} [] [] [],(b8 T [59] s).2)else(.mk {kind:=7} [(dm T s).1] [] [],(b8 T [59] (dm T s).2).2)
def HT(T:List Tok)(s:al):bf×al:=(.mk {kind:=8} [(dm T s).1] [] [],(b8 T [59] (dm T s).2).2)
def kr(T:List Tok)(e:aE)(s:al):al:=(b8 T [61] (bif gn e then bQ T 2 s else s)).2
def xl(T:List Tok)(e:aE)(s:al):bf×al:=(bif e.kind==4 then .mk {kind:=3,name:=e.name} [(dm T (kr T e s)).1] [] []else .mk {kind:=4} [e,(dm T (kr T e s)).1] [] [],(b8 T [59] (dm T (kr T e s)).2).2)
def o3(T:List Tok)(s:al):bf×al:=bif bz T (dm T s).2 4 [61]then xl T (dm T s).1 (dm T s).2 else(.mk {kind:=9} [(dm T s).1] [] [],(b8 T [59] (bif bz T (dm T s).2 4 [59]&&(dm T s).1.kind != 7 then bQ T 2 (dm T s).2 else(dm T s).2)).2)
mutual
def ma(T:List Tok):Nat->al->ad (List bf)
 |0,_=>C
 |n+1,s=>bif bz T s 4 [123]then(if 50<=s.bk then D ([],bQ T 4 s)else
  (nb T n [] {s with at_:=e8 (s.at_+1),bk:=e8 (s.bk+1)}).bind λp=>D (p.1,(b8 T [125] (dU p.2)).2))
  else D ([],bQ T 2 s)
def nb(T:List Tok):Nat->List bf->al->ad (List bf)
 |0,_,_=>C
 |n+1,l,s=>bif s.an==0&& !bz T s 4 [125]then(uU T n s).bind λp=>nb T n (l++[p.1]) p.2 else D (l,s)
def uU(T:List Tok):Nat->al->ad bf
 |0,_=>C
 |n+1,s=>(bif (aj T s.at_).kind==3 then
  (bif (aj T s.at_).text==[118,97,114]then D (C1 T (aw s))
  else bif (aj T s.at_).text==[108,101,116]then D (F7 T (aw s))
  else bif (aj T s.at_).text==[105,102]then vo T n (aw s)
  else bif (aj T s.at_).text==[119,104,105,108,101]then wF T n (aw s)
  else bif (aj T s.at_).text==[114,101,116,117,114,110]then D (wH T (aw s))
  else bif (aj T s.at_).text==[112,114,105,110,116]then D (HT T (aw s))
  else D (o3 T s))else D (o3 T s)).bind λp=>D (p.1.at (aj T s.at_).pos,p.2)
def vo(T:List Tok):Nat->al->ad bf
 |0,_=>C
 |n+1,s=>(ma T n (dm T s).2).bind λb=>bif bz T b.2 3 [101,108,115,101]then
  (ma T n (aw b.2)).bind λc=>D (.mk {kind:=5} [(dm T s).1] b.1 c.1,c.2)else D (.mk {kind:=5} [(dm T s).1] b.1 [],b.2)
def wF(T:List Tok):Nat->al->ad bf
 |0,_=>C
 |n+1,s=>(ma T n (dm T s).2).bind λb=>D (.mk {kind:=6} [(dm T s).1] b.1 [],b.2)
end
def bJ(T:List Tok)(s:al):aE×al:=match dF T 800000000 0 s with
 |some p=>p
 |none=>(.zero,s)
def dd(T:List Tok)(s:al):(aC×aC×Int)×al:=(((bA T s).1,(cM T (bh T [58] (bA T s).2)).1),(cM T (bh T [58] (bA T s).2)).2)
def ko(T:List Tok)(s:al):bf×al:=(.mk {kind:=1,name:=(dd T s).1.1,b4:=(dd T s).1.2.1,cy:=(dd T s).1.2.2} [] [] [],bh T [59] (dd T s).2)
def kE(T:List Tok)(s:al):bf×al:=(.mk {kind:=2,name:=(dd T s).1.1,b4:=(dd T s).1.2.1,cy:=(dd T s).1.2.2} [(bJ T (bh T [61] (dd T s).2)).1] [] [],bh T [59] (bJ T (bh T [61] (dd T s).2)).2)
def j4(T:List Tok)(s:al):bf×al:=bif aV T s [59]then(.mk {kind:=7} [] [] [],bh T [59] s)else(.mk {kind:=7} [(bJ T s).1] [] [],bh T [59] (bJ T s).2)
def lI(T:List Tok)(s:al):bf×al:=(.mk {kind:=8} [(bJ T s).1] [] [],bh T [59] (bJ T s).2)
def hp(T:List Tok)(e:aE)(s:al):al:=bh T [61] (bif gn e then bQ T 2 s else s)
def mY(T:List Tok)(e:aE)(s:al):bf×al:=(bif e.kind==4 then .mk {kind:=3,name:=e.name} [(bJ T (hp T e s)).1] [] []else .mk {kind:=4} [e,(bJ T (hp T e s)).1] [] [],bh T [59] (bJ T (hp T e s)).2)
def fW(T:List Tok)(s:al):bf×al:=bif aV T (bJ T s).2 [61]then mY T (bJ T s).1 (bJ T s).2 else(.mk {kind:=9} [(bJ T s).1] [] [],bh T [59] (bif aV T (bJ T s).2 [59]&&(bJ T s).1.kind != 7 then bQ T 2 (bJ T s).2 else(bJ T s).2))
mutual
def ej(T:List Tok):Nat->al->ad (List bf)
 |0,_=>C
 |n+1,s=>(fH T n [] (cB T [123] s)).bind λp=>D (p.1,dh T [125] p.2)
def fH(T:List Tok):Nat->List bf->al->ad (List bf)
 |0,_,_=>C
 |n+1,l,s=>bif s.an==0&& !aV T s [125]then(hb T n s).bind λp=>fH T n (l++[p.1]) p.2 else D (l,s)
def hb(T:List Tok):Nat->al->ad bf
 |0,_=>C
 |n+1,s=>(bif aV T s [118,97,114]||aV T s [108,101,116]then D (bif (aj T s.at_).text==[108,101,116]then kE T (aw s)else ko T (aw s))
  else bif aV T s [105,102]then(ej T n (bJ T (aw s)).2).bind λb=>bif aV T b.2 [101,108,115,101]then
   (ej T n (aw b.2)).bind λc=>D (.mk {kind:=5} [(bJ T (aw s)).1] b.1 c.1,c.2)else D (.mk {kind:=5} [(bJ T (aw s)).1] b.1 [],b.2)
  else bif aV T s [119,104,105,108,101]then(ej T n (bJ T (aw s)).2).bind λb=>D (.mk {kind:=6} [(bJ T (aw s)).1] b.1 [],b.2)
  else bif aV T s [114,101,116,117,114,110]then D (j4 T (aw s))
  else bif aV T s [112,114,105,110,116]then D (lI T (aw s))
  else D (fW T s)).bind λp=>D (p.1.at (aj T s.at_).pos,p.2)
end
structure bB where
 name:aC
 b4:aC
 cy:Int
 pos:Int
structure ep where
 name:aC
 fields:List bB
 pos:Int
structure Fn where
 name:aC
 params:List bB
 has:Bool
 c4:aC
 rd:Int
 body:List bf
 pos:Int
structure bE where
 b7:List ep
 globals:List bB
 funcs:List Fn
def bE.none:bE:=⟨[],[],[]⟩
def c7(T:List Tok)(s:al):bB×al:=(⟨(dd T s).1.1,(dd T s).1.2.1,(dd T s).1.2.2,(aj T s.at_).pos⟩,(dd T s).2)
def gp(T:List Tok):Nat->List bB->al->ad (List bB)
 |0,_,_=>C
 |n+1,l,s=>bif s.an==0&& !aV T s [125]then
  (bif (aj T s.at_).kind==1&&l.length==8 then D (l,bQ T 4 s)else gp T n (l++[(c7 T s).1]) (bh T [59] (c7 T s).2))
  else D (l,s)
def iG(T:List Tok)(n:Nat)(s:al):ad ep:=(gp T n [] (bh T [123] (bA T s).2)).bind λp=>D (⟨(bA T s).1,p.1,(aj T s.at_).pos⟩,bh T [125] p.2)
def iy(T:List Tok)(s:al):al:=bif aV T (bh T [44] s) [41]then bQ T 2 (bh T [44] s)else bh T [44] s
def e6(T:List Tok):Nat->List bB->al->ad (List bB)
 |0,_,_=>C
 |n+1,l,s=>bif s.an==0&& !aV T s [41]then
  (bif (aj T s.at_).kind==1&&l.length==6 then D (l,bQ T 4 s)else
   e6 T n (l++[(c7 T s).1]) (bif aV T (c7 T s).2 [41]then(c7 T s).2 else iy T (c7 T s).2))
  else D (l,s)
def e7(T:List Tok)(s:al):(Bool×aC×Int)×al:=bif aV T s [58]then((X,(cM T (aw s)).1),(cM T (aw s)).2)else((U,[],0),s)
def iB(T:List Tok)(n:Nat)(s:al):ad Fn:=(e6 T n [] (bh T [40] (bA T s).2)).bind λp=>(ej T n (e7 T (bh T [41] p.2)).2).bind λb=>D (⟨(bA T s).1,p.1,(e7 T (bh T [41] p.2)).1.1,(e7 T (bh T [41] p.2)).1.2.1,(e7 T (bh T [41] p.2)).1.2.2,b.1,(aj T s.at_).pos⟩,b.2)
def isRec(T:List Tok)(s:al):Bool:=aV T s [114,101,99,111,114,100]
def iT(T:List Tok)(s:al):Bool:=aV T s [103,108,111,98,97,108]
def isFun(T:List Tok)(s:al):Bool:=aV T s [102,117,110,99]
def eh(T:List Tok)(N:Nat):Nat->bE->al->ad bE
 |0,_,_=>C
 |n+1,g,s=>bif s.an==0&&(aj T s.at_).kind != 0 then
  (bif (isRec T s&&g.b7.length==12)||((iT T s&&g.globals.length==8)||(isFun T s&&g.funcs.length==16))then eh T N n g (bQ T 4 s)
  else bif isRec T s then(iG T N (aw s)).bind λp=>eh T N n {g with b7:=g.b7++[p.1]} p.2
  else bif iT T s then eh T N n {g with globals:=g.globals++[(c7 T (aw s)).1]} (bh T [59] (c7 T (aw s)).2)
  else bif isFun T s then(iB T N (aw s)).bind λp=>eh T N n {g with funcs:=g.funcs++[p.1]} p.2
  else eh T N n g (bQ T 2 s))
  else D (g,s)
def nB(g:bE)(s:al):bE×Int×Int:=if s.an=0 then(g,0,0)else(.none,s.an,s.bN)
def ho:Nat->Nat->aC->aC
 |0,_,a=>a
 |f+1,n,a=>if n/10=0 then UInt8.ofNat (48+n%10)::a else ho f (n/10) (UInt8.ofNat (48+n%10)::a)
def im(t:Tok):aC:=bif t.kind==2 then ho 20 t.n.toNat []else t.text
def jE(t:Tok):Prop:=(t.kind=1/\t.n=0/\ek t.text=X)\/(t.kind=3/\t.n=0/\gk t.text=X)\/(t.kind=2/\t.text=[]/\0<=t.n/\t.n<=9223372036854775807)\/(t.kind=4/\t.n=0/\(fx t.text jd=X\/∃c,t.text=[c]/\iV c hT=X))
def lF(t:Tok)(b:UInt8):Bool:=bif t.kind==4 then(t.text.length==2|| !fx (t.text++[b]) jd)&& !(t.text==[47]&&b==47)else !dn b&& !dv b
def nz(t:Tok):aC->Bool
 |[]=>X
 |b::_=>lF t b
def uq:(10:Nat)^20=100000000000000000000:=aK
def yv(k:Nat)(h:k<10):(UInt8.ofNat (48+k)).toNat=48+k:=by
 simp only[UInt8.toNat_ofNat'];omega
def vp{c:UInt8}:dv c=X↔48<=c.toNat/\c.toNat<=57:=by
 simp only[dv,oH,Bool.and_eq_true,decide_eq_true_eq];omega
def F6{c:UInt8}:dn c=X↔(97<=c.toNat/\c.toNat<=122)\/(65<=c.toNat/\c.toNat<=90):=by
 simp only[dn,ml,Bool.or_eq_true,Bool.and_eq_true,decide_eq_true_eq];omega
def KN:∀(f n:Nat) (a:aC),n<10^f->0<f->n<=9223372036854775807->iL 0 (ho f n a)=iL (n:Int) a
 |0,_,_,_,d,_=>ae
 |f+1,n,a,e,_,hm=>by
  rw[ho];have c:(UInt8.ofNat (48+n%10)).toNat=48+n%10:=yv _ ae;split
  ·rename_i h;rw[iL,c];rw[if_neg ae]
   congr 1
   omega
  ·rename_i h;have d:0<f:=by
    cases f with
    |zero=>exfalso;simp at e;omega
    |succ f=>omega
   rw[KN f (n/10) _ (by rw[Nat.pow_succ]at e;omega) d ae,iL,c];rw[if_neg ae]
   congr 1
   omega
def ys:∀(f n:Nat) (a:aC),(∀c∈a,dv c=X)->∀c∈ho f n a,dv c=X
 |0,_,_,h=>h
 |f+1,n,a,h=>by
  have e:dv (UInt8.ofNat (48+n%10))=true:=by rw[vp,yv _ ae];omega
  have a8:∀c∈UInt8.ofNat (48+n%10)::a,dv c=true:=by
   intro c d;rcases List.mem_cons.1 d with rfl|d
   ·exact e
   ·exact h c d
  rw[ho];split
  ·exact a8
  ·exact ys f _ _ a8
def yt:∀(f n:Nat) (a:aC),n<10^f->0<f->∃c r,ho f n a=c::r/\(c.toNat=48->n=0/\r=a)
 |0,_,_,_,i=>ae
 |f+1,n,a,j,_=>by
  rw[ho];split
  ·rename_i d;refine⟨_,_,rfl,λh=> ?_⟩;rw[yv _ ae]at h;exact⟨ae,rfl⟩
  ·rename_i d;have i:0<f:=by
    cases f with
    |zero=>exfalso;simp at j;omega
    |succ f=>omega
   obtain⟨c,r,e,h⟩:=yt f (n/10) (UInt8.ofNat (48+n%10)::a) (by rw[Nat.pow_succ]at j;omega) i;exact⟨c,r,e,λk=>absurd (h k).1 d⟩
def C0:∀(f n:Nat) (a:aC),(ho f n a).length<=f+a.length
 |0,_,_=>by simp[ho]
 |f+1,n,a=>by
  rw[ho];split
  ·rw[List.length_cons];omega
  ·have:=C0 f (n/10) (UInt8.ofNat (48+n%10)::a);rw[List.length_cons]at this;omega
def Ar{d:Bool}{w:aC}(a:∀b r,w=b::r->dn b=U/\dv b=U):∀x:aC,(∀c∈x,(dv c||(!d&&dn c))=X)->runN d (x++w)=x.length
 |[],_=>by
  rcases w with _|⟨b,r⟩
  ·rfl
  ·obtain⟨e,i⟩:=a b r rfl;simp[runN,e,i]
 |c::x,h=>by
  rw[List.cons_append,runN,h c (List.mem_cons_self),aS,Ar a x (λc j=>h c (List.mem_cons_of_mem _ j)),List.length_cons]
def IT{d:Bool}:∀s:aC,∀c∈s.take (runN d s),(dv c||(!d&&dn c))=X
 |[],_,h=>by simp[runN]at h
 |c::r,x,h=>by
  rw[runN]at h;cases a:(dv c||(!d&&dn c))with
  |false=>rw[a]at h;simp at h
  |true=>
   rw[a]at h;simp only[aS,List.take_succ_cons,List.mem_cons]at h;rcases h with rfl|h
   ·exact a
   ·exact IT r x h
def KM:∀(l:aC) (a v:Int),(∀c∈l,dv c=X)->0<=a->a<=9223372036854775807->iL a l=D v->0<=v/\v<=9223372036854775807
 |[],a,v,_,i,j,h=>by simp only[iL,aZ]at h;omega
 |c::r,a,v,e,i,j,h=>by
  rw[iL]at h;have d:=vp.1 (e c (List.mem_cons_self));split at h
  ·cases h
  ·exact KM r _ v (λc d=>e c (List.mem_cons_of_mem _ d)) ae ae h
def GR:∀(l:aC) (c:UInt8),iV c l=X->c∈l
 |[],_,h=>by simp[iV]at h
 |y::a,c,h=>by
  rw[iV]at h;rcases Bool.or_eq_true_iff.1 h with h|h
  ·have:=UInt8.toNat_inj.1 (by simpa using h);exact this▸List.mem_cons_self
  ·exact List.mem_cons_of_mem _ (GR a c h)
def zt:∀(l:List aC) (c:aC),fx c l=X->c∈l
 |[],_,h=>by simp[fx]at h
 |y::a,c,h=>by
  rw[fx]at h;rcases Bool.or_eq_true_iff.1 h with h|h
  ·have:y=c:=by simpa using h
   exact this▸List.mem_cons_self
  ·exact List.mem_cons_of_mem _ (zt a c h)
def BS:∀x:aC,kP x=X↔∀c∈x,(dv c||(!U&&dn c))=X
 |[]=>by simp[kP]
 |c::r=>by
  have:=BS r;simp only[kP,Bool.and_eq_true,List.mem_cons,forall_eq_or_imp,this,Bool.not_false,Bool.true_and];rw[Bool.or_comm]
def PR{s:aC}{t:Tok}{m:Nat}(h:hr s=D (t.kind,t.text,t.n,m)):jE t:=by
 obtain⟨k,x,z,p⟩:=t;rcases s with _|⟨c,r⟩
 ·simp[hr]at h
 rw[hr]at h;cases o:dn c with
 |true=>
  rw[o,aS]at h;generalize (c::r).take (runN U (c::r))=y at*;cases hw:gk y with
  |true=>
   rw[hw,aS]at h;simp only[aZ,cj]at h;obtain⟨rfl,rfl,rfl,-⟩:=h;exact .inr (.inl ⟨rfl,rfl,hw⟩)
  |false=>
   rw[hw,aN]at h;cases e:ek y with
   |false=>rw[e]at h;cases h
   |true=>
    rw[e,aS]at h;simp only[aZ,cj]at h;obtain⟨rfl,rfl,rfl,-⟩:=h;exact .inl ⟨rfl,rfl,e⟩
 |false=>
  rw[o,aN]at h;cases l:dv c with
  |true=>
   rw[l,aS]at h;have u:=IT (d:=true) (c::r);cases hw:iL 0 ((c::r).take (runN X (c::r)))with
   |none=>rw[hw]at h;cases h
   |some v=>
    rw[hw]at h;simp only at h;have A:=KM _ 0 v (λc w=>by simpa using u c w) ae ae hw;cases q:((decide (1<runN X (c::r))&&c.toNat==48)||(decide (runN X (c::r)<(c::r).length)&&dn (((c::r)[runN X (c::r)]?).getD 0)))with
    |true=>rw[q]at h;cases h
    |false=>
     rw[q]at h;simp only[aN,aZ,cj]at h;obtain⟨rfl,rfl,rfl,-⟩:=h;exact .inr (.inr (.inl ⟨rfl,rfl,A⟩))
  |false=>
   rw[l,aN]at h;cases ar:ih (c::r)==[]with
   |true=>rw[ar]at h;cases h
   |false=>
    rw[ar,aN]at h;simp only[aZ,cj]at h;obtain⟨rfl,rfl,rfl,-⟩:=h;refine .inr (.inr (.inr ⟨rfl,rfl,?_⟩));have a:(ih (c::r)==[])=false:=ar;show fx (ih (c::r)) jd=X\/∃d,ih (c::r)=[d]/\iV d hT=X;unfold ih at a ⊢;cases i:(decide (2<=(c::r).length)&&fx ((c::r).take 2) jd)with
    |true=>rw[aS];exact .inl (Bool.and_eq_true_iff.1 i).2
    |false=>
     rw[i]at a;simp only[aN]at a ⊢;cases j:iV c hT with
     |false=>rw[j]at a;cases a
     |true=>exact .inr ⟨c,rfl,j⟩
def MA{c:UInt8}(h:h9 c=U)(a8:c.toNat≠47)(w:aC):cV U (c::w)=0:=by
 have:(c==47)=false:=by
  rw[beq_eq_false_iff_ne];intro e;subst e;exact a8 rfl
 rw[cV,h,this];rfl
def CG{c:UInt8}(h:dn c=X\/dv c=X)(w:aC):cV U (c::w)=0:=by
 have:(97<=c.toNat/\c.toNat<=122)\/(65<=c.toNat/\c.toNat<=90)\/(48<=c.toNat/\c.toNat<=57):=by
  rcases h with h|h
  ·have:=F6.1 h;omega
  ·have:=vp.1 h;omega
 exact MA (by simp only[h9,Bool.or_eq_false_iff,beq_eq_false_iff_ne];omega) ae w
def PT:hT.all (λc=> !dn c&& !dv c&& !h9 c)=true:=by decide+kernel
def Vp:ri.all (λx=>dn (x.headD 0)&&kP x&&decide (1<=x.length))=true:=by decide+kernel
def Hn{x w:aC}{b:Bool}(k:b=gk x)(i:1<=x.length)(l:dn (x.headD 0)=X)(j:kP x=X)(m:b=X\/ek x=X)(hw:∀b r,w=b::r->dn b=U/\dv b=U):hr (x++w)=D (bif b then 3 else 1,x,0,x.length)/\cV U (x++w)=0/\x≠[]:=by
 rcases x with _|⟨c,x⟩
 ·simp at i
 have h:dn c=true:=l;have a:=Ar (d:=false) hw (c::x) ((BS _).1 j);refine⟨?_,?_,by simp⟩
 ·rw[List.cons_append,hr];rw[List.cons_append]at a;simp only[h,aS];have e:(c::(x++w)).take (runN U (c::(x++w)))=c::x:=by
   rw[a,<-List.cons_append,List.take_left'];rfl
  rw[e,a,<-k];cases b with
  |true=>rfl
  |false=>rw[m.resolve_left (by simp)];rfl
 ·rw[List.cons_append];exact CG (.inl h) _
def Ip{t:Tok}(h:jE t)(w:aC)(j:nz t w=X):hr (im t++w)=D (t.kind,t.text,t.n,(im t).length)/\cV U (im t++w)=0/\im t≠[]:=by
 obtain⟨k,x,z,p⟩:=t;have i:k≠4->∀b r,w=b::r->dn b=U/\dv b=false:=by
  rintro v b r rfl;have:(k==4)=false:=by simpa using v
  simpa [nz,lF,this]using j
 rcases h with⟨rfl,rfl,h⟩|⟨rfl,rfl,h⟩|⟨rfl,rfl,q,s⟩|⟨rfl,rfl,h⟩
 ·simp only at h;have e:im ⟨1,x,0,p⟩=x:=rfl;rw[e];have a8:=h;simp only[ek,Bool.and_eq_true,decide_eq_true_eq,Bool.not_eq_true']at a8;exact Hn (b:=false) a8.2.2.2.1.symm a8.1 a8.2.2.1 a8.2.2.2.2 (.inr h) (i aK)
 ·simp only at h;have e:im ⟨3,x,0,p⟩=x:=rfl;rw[e];have hm:=List.all_eq_true.1 Vp x (zt _ _ h);simp only[Bool.and_eq_true,decide_eq_true_eq]at hm;exact Hn (b:=true) h.symm hm.2 hm.1.1 hm.1.2 (.inl rfl) (i aK)
 ·obtain⟨n,rfl⟩:∃n:Nat,z=n:=⟨z.toNat,by simp only at q;omega⟩;have B:n<=9223372036854775807:=by simp only at s;omega
  have e:im ⟨2,[],(n:Int),p⟩=ho 20 n []:=rfl;rw[e];have o:=ys 20 n [] (by simp);have E:=KN 20 n [] (by rw[uq];omega) ae B;obtain⟨c',cL,a,u⟩:=yt 20 n [] (by rw[uq];omega) ae;generalize ho 20 n []=y at*;subst a;have l:=o c' List.mem_cons_self;have F:=vp.1 l;have A:dn c'=false:=by
   rw[<-Bool.not_eq_true,F6];omega
  have i:=i aK;have m:=Ar (d:=true) i (c'::cL) (λc a=>by simp[o c a]);refine⟨?_,by rw[List.cons_append];exact CG (.inr l) _,by simp⟩;rw[List.cons_append,hr];rw[List.cons_append]at m;simp only[A,l,aS,aN];have aH:(c'::(cL++w)).take (runN X (c'::(cL++w)))=c'::cL:=by
   rw[m,<-List.cons_append,List.take_left'];rfl
  rw[aH,E,m];simp only[iL];have cq:(decide (1<(c'::cL).length)&&c'.toNat==48)=false:=by
   rw[Bool.and_eq_false_iff];by_cases a:c'.toNat=48
   ·left;rw[(u a).2];rfl
   ·right;simpa using a
  have er:(decide ((c'::cL).length<(c'::(cL++w)).length)&&dn (((c'::(cL++w))[(c'::cL).length]?).getD 0))=false:=by
   have bu:(c'::(cL++w))[(c'::cL).length]? =w[0]? :=by
    rw[<-List.cons_append,List.getElem?_append_right (bo _),Nat.sub_self]
   rw[bu];rcases w with _|⟨b,r⟩
   ·simp
   ·simp[(i b r rfl).1]
  rw[cq,er,Bool.or_false,aN]
 ·simp only at h;have e:im ⟨4,x,0,p⟩=x:=rfl;rw[e];rcases h with h|⟨c,rfl,h⟩
  ·have hm:=zt _ _ h;simp only[jd,List.mem_cons,List.not_mem_nil,or_false]at hm;rcases hm with rfl|rfl|rfl|rfl|rfl<;>exact⟨rfl,rfl,by simp⟩
  ·have hm:=List.all_eq_true.1 PT c (GR _ _ h);simp only[Bool.and_eq_true,Bool.not_eq_true']at hm;have ar:ih (c::w)=[c]:=by
    unfold ih;have:(decide (2<=(c::w).length)&&fx ((c::w).take 2) jd)=false:=by
     rcases w with _|⟨b,r⟩
     ·rfl
     ·simp only[nz,lF,beq_self_eq_true,aS,Bool.and_eq_true,Bool.or_eq_true,List.length_singleton]at j;have:=j.1.resolve_left aK;simp only[List.singleton_append,Bool.not_eq_true']at this;have e:(c::b::r).take 2=[c,b]:=rfl;rw[e,this,Bool.and_false]
    rw[this];simp[h]
   refine⟨?_,?_,by simp⟩
   ·rw[List.singleton_append,hr];simp only[hm.1.1,hm.1.2,aN,ar];rfl
   ·rw[List.singleton_append,cV,hm.2,aN];have:(c==47&&w.head?==D 47)=false:=by
     rcases w with _|⟨b,r⟩
     ·simp
     ·simp only[nz,lF,beq_self_eq_true,aS,Bool.and_eq_true]at j;have:=j.2;simp only[Bool.not_eq_true',Bool.and_eq_false_iff]at this ⊢;rcases this with h|h
      ·left;simpa using h
      ·right;simpa using h
    rw[this,aN]
inductive bK where
 |t (bW:Tok)
 |b (s:aC)
def bK.rb:bK->aC
 | .t bW=>im bW
 | .b s=>s
def flat:List bK->aC
 |[]=>[]
 |p::r=>p.rb++flat r
def aP:List bK->List Tok
 |[]=>[]
 | .t t::r=>t::aP r
 | .b _::r=>aP r
def jC:List bK->Prop
 |[]=>True
 | .t t::r=>jE t/\nz t (flat r)=X/\jC r
 | .b s::r=>s.all h9=X/\jC r
def qv:List bK->Nat->List Tok
 |[],p=>[⟨0,[],0,p⟩]
 | .t t::r,p=>⟨t.kind,t.text,t.n,p⟩::qv r (p+(im t).length)
 | .b s::r,p=>qv r (p+s.length)
def dw:∀a b:List bK,flat (a++b)=flat a++flat b
 |[],_=>rfl
 |p::r,b=>by rw[List.cons_append,flat,dw r b,flat,List.append_assoc]
def dQ:∀a b:List bK,aP (a++b)=aP a++aP b
 |[],_=>rfl
 | .t t::r,b=>by rw[List.cons_append,aP,dQ r b,aP,List.cons_append]
 | .b s::r,b=>by rw[List.cons_append,aP,dQ r b,aP]
def CH:∀(s w:aC),s.all h9=X->cV U (s++w)=s.length+cV U w
 |[],w,_=>by simp
 |c::s,w,h=>by
  simp only[List.all_cons,Bool.and_eq_true]at h;rw[List.cons_append,cV,h.1,aS,CH s w h.2,List.length_cons];omega
def zl:∀(a:List bK) (n p:Nat),jC a->(aP a).length<n->gK n ((flat a).drop (cV U (flat a))) (p+cV U (flat a))= .inr (qv a p)
 |_,0,_,_,h=>ae
 |[],n+1,p,_,_=>rfl
 | .b s::r,n+1,p,h,d=>by
  rw[jC]at h;have o:=CH s (flat r) h.1;have i:=zl r (n+1) (p+s.length) h.2 d;rw[flat,bK.rb,o,<-List.drop_drop,List.drop_left',<-Nat.add_assoc]
  ·exact i
  ·rfl
 | .t t::r,n+1,p,h,d=>by
  rw[jC]at h;obtain⟨j,k,m⟩:=Ip h.1 (flat r) h.2.1;have i:=zl r n (p+(im t).length) h.2.2 (by simpa [aP]using d);have l:cV U (flat (.t t::r))=0:=k;rw[l,List.drop_zero,Nat.add_zero];show gK (n+1) (im t++flat r) p=_;rcases e:im t++flat r with _|⟨c,x⟩
  ·exact absurd (List.append_eq_nil_iff.1 e).1 m
  have q:(c::x).drop (im t).length=flat r:=by rw[<-e,List.drop_left'];rfl
  rw[e]at j;rw[gK,j];simp only[q];rw[i];rfl
def xo:∀a:List bK,jC a->(aP a).length<=(flat a).length
 |[],_=>bo _
 | .b s::r,h=>by
  rw[jC]at h;have:=xo r h.2;simp only[aP,flat,bK.rb,List.length_append];omega
 | .t t::r,h=>by
  rw[jC]at h;have d:=xo r h.2.2;obtain⟨-,-,c⟩:=Ip h.1 (flat r) h.2.1;have:(im t).length≠0:=λe=>c (List.length_eq_zero_iff.1 e)
  simp only[aP,flat,bK.rb,List.length_append,List.length_cons];omega
def J7{a:List bK}(h:jC a)(c:(flat a).length<=6000):dB (flat a)=(qv a 0,0,0):=by
 unfold dB;rw[if_neg ae,r9];have:=zl a ((flat a).length+1) 0 h (by have:=xo a h;omega);rw[Nat.zero_add]at this;rw[this]
def Gc:∀(n:Nat) (s:aC) (p:Nat) (l:List Tok),gK n s p= .inr l->∀t∈l,jE t\/t.kind=0
 |0,_,_,_,h=>by cases h
 |n+1,[],p,l,h=>by cases h;intro t a;simp only[List.mem_cons,List.not_mem_nil,or_false]at a;subst a;exact .inr rfl
 |n+1,c::r,p,l,h=>by
  rw[gK]at h;split at h
  ·cases h
  ·rename_i k t v m e;split at h
   ·cases h
   ·rename_i l' d;cases h;intro u hu;rcases List.mem_cons.1 hu with rfl|hu
    ·exact .inl (PR (t:=⟨k,t,v,p⟩) e)
    ·exact Gc n _ _ _ d u hu
def J6{s:aC}:∀t∈(dB s).1,jE t\/t.kind=0:=by
 unfold dB;split
 ·intro t a;cases a
 ·cases h:r9 s with
  |inl e=>intro t a;cases a
  |inr l=>exact Gc _ _ _ _ h
def cG(k:Int):Nat:=if k=24 then 1 else if k=23 then 2 else if 19<=k/\k<=22 then 3 else if k=14\/k=15 then 4 else if 16<=k/\k<=18 then 5 else if k=12\/k=13 then 6 else 7
def aE.cc(e:aE):Nat:=cG e.kind
def iv(x:aC)(d:Int):Prop:=0<=d/\d<=3/\(ek x=X\/x=[105,110,116]\/x=[98,111,111,108])
inductive cA:Nat->Nat->aE->Prop
 |par {d m e}:cA d 0 e->e.cc<m->m<=7->cA (d+1) m e
 |int {d m n p}:m<=7->0<=n->n<=9223372036854775807->cA d m (.mk {kind:=1,n:=n,pos:=p} [])
 |bool {d m n p}:m<=7->n=0\/n=1->cA d m (.mk {kind:=2,n:=n,pos:=p} [])
 |null {d m x z p}:m<=7->iv x z->cA d m (.mk {kind:=3,b4:=x,cy:=z,pos:=p} [])
 |var {d m x p}:m<=7->ek x=true->cA d m (.mk {kind:=4,name:=x,pos:=p} [])
 |field {d m x p e}:m<=7->ek x=true->cA d 7 e->cA d m (.mk {kind:=5,name:=x,pos:=p} [e])
 |item {d m p e i}:m<=7->cA (d+1) 7 e->cA d 0 i->cA (d+1) m (.mk {kind:=6,pos:=p} [e,i])
 |call {d m x p l}:m<=7->ek x=true->(∀e∈l,cA d 0 e)->cA (d+1) m (.mk {kind:=7,name:=x,pos:=p} l)
 |new {d m x p}:m<=7->ek x=true->cA d m (.mk {kind:=8,b4:=x,pos:=p} [])
 |make {d m x z p e}:m<=7->iv x z->cA d 0 e->cA (d+1) m (.mk {kind:=9,b4:=x,cy:=z,pos:=p} [e])
 |len {d m p e}:m<=7->cA d 0 e->cA (d+1) m (.mk {kind:=10,pos:=p} [e])
 |read {d m p}:m<=7->cA (d+1) m (.mk {kind:=11,pos:=p} [])
 |sign {d m k p e}:m<=6->k=12\/k=13->cA d 6 e->cA (d+1) m (.mk {kind:=k,pos:=p} [e])
 |bin {d m k p a b}:m<=cG k->14<=k->k<=24->cA d (cG k) a->cA d (cG k+1) b->cA d m (.mk {kind:=k,pos:=p} [a,b])
def Pg{k:Int}(h:14<=k)(a8:k<=24):1<=cG k/\cG k<=5:=by
 unfold cG;(repeat' split)<;>omega
def zs(k:Int):1<=cG k/\cG k<=7:=by
 unfold cG;(repeat' split)<;>omega
def cA.more{d m:Nat}{e:aE}(h:cA d m e):∀{a:Nat},d<=a->cA a m e:=by
 induction h with
 |par _ n o l=>intro a j;obtain⟨k,rfl⟩:∃k,a=k+1:=⟨a-1,ae⟩;exact .par (l ae) n o
 |int c i n=>intro a _;exact .int c i n
 |bool c i=>intro a _;exact .bool c i
 |null c i=>intro a _;exact .null c i
 |var c i=>intro a _;exact .var c i
 |field c i _ l=>intro a j;exact .field c i (l j)
 |item c _ _ ih1 ih2=>intro a j;obtain⟨k,rfl⟩:∃k,a=k+1:=⟨a-1,ae⟩;exact .item c (ih1 j) (ih2 ae)
 |call c i _ l=>intro a j;obtain⟨k,rfl⟩:∃k,a=k+1:=⟨a-1,ae⟩;exact .call c i λe he=>l e he ae
 |new c i=>intro a _;exact .new c i
 |make c i _ l=>intro a j;obtain⟨k,rfl⟩:∃k,a=k+1:=⟨a-1,ae⟩;exact .make c i (l ae)
 |len c _ l=>intro a j;obtain⟨k,rfl⟩:∃k,a=k+1:=⟨a-1,ae⟩;exact .len c (l ae)
 |read c=>intro a j;obtain⟨k,rfl⟩:∃k,a=k+1:=⟨a-1,ae⟩;exact .read c
 |sign c i _ l=>intro a j;obtain⟨k,rfl⟩:∃k,a=k+1:=⟨a-1,ae⟩;exact .sign c i (l ae)
 |bin c i n _ _ ih1 ih2=>intro a j;exact .bin c i n (ih1 j) (ih2 j)
def cA.at{d m:Nat}{e:aE}(h:cA d 0 e)(hm:m<=e.cc):cA d m e:=by
 have n:=(zs e.kind).2;have j:m<=7:=Nat.le_trans hm n;cases h with
 |par _ h _=>omega
 |int i a c=>exact .int j a c
 |bool i a=>exact .bool j a
 |null i a=>exact .null j a
 |var i a=>exact .var j a
 |field i a c=>exact .field j a c
 |item i a c=>exact .item j a c
 |call i a c=>exact .call j a c
 |new i a=>exact .new j a
 |make i a c=>exact .make j a c
 |len i a=>exact .len j a
 |read i=>exact .read j
 |sign i a c=>exact .sign (by rcases a with rfl|rfl<;>exact hm) a c
 |bin i a c k l=>exact .bin hm a c k l
def cA.low{d m:Nat}{e:aE}(h:cA d m e){m':Nat}(hm:m'<=m):cA d m' e:=by
 cases h with
 |par a c j=>
  by_cases l:e.cc<m'
  ·exact .par a l ae
  ·exact(a.at ae).more (Nat.le_succ _)
 |int i a c=>exact .int ae a c
 |bool i a=>exact .bool ae a
 |null i a=>exact .null ae a
 |var i a=>exact .var ae a
 |field i a c=>exact .field ae a c
 |item i a c=>exact .item ae a c
 |call i a c=>exact .call ae a c
 |new i a=>exact .new ae a
 |make i a c=>exact .make ae a c
 |len i a=>exact .len ae a
 |read i=>exact .read ae
 |sign i a c=>exact .sign ae a c
 |bin i a c j k=>exact .bin ae a c j k
def cA.up{d:Nat}{e:aE}(h:cA d 0 e){m:Nat}(hm:m<=7):cA (d+1) m e:=by
 by_cases a:e.cc<m
 ·exact .par h a hm
 ·exact(h.at ae).more (Nat.le_succ _)
mutual
def c9:aE->Nat
 | .mk a kids=>40+a.name.length+a.b4.length+cr kids
def cr:List aE->Nat
 |[]=>0
 |e::r=>c9 e+cr r
end
def KH:∀(l:List aE) (e:aE),cr (l++[e])=cr l+c9 e
 |[],e=>by simp[cr]
 |x::l,e=>by rw[List.cons_append,cr,KH l e,cr];omega
structure In(E:Int)(s:al):Prop where
 a:0<=s.at_
 b:s.at_<=E
 c:0<=s.bk
 d:s.bk<=50
structure cf(E:Int)(s s':al)(k:Int):Prop where
 f:s.an=0
 ku:s'.an=0
 o:s'.bk=s.bk
 a:s.at_+k<=s'.at_
 b:s'.at_<=E
structure Good(T:List Tok)(E:Int):Prop where
 n:E<=20000000
 lt:∀a,(aj T a).kind≠0->a<E
 t:∀t∈T,jE t\/t.kind=0
section
variable {T:List Tok}{E:Int}{s s' s2:al}
def cf.trans{k l:Int}(h:cf E s s' k)(a8:cf E s' s2 l):cf E s s2 (k+l):=⟨h.f,a8.ku,a8.o.trans h.o,by have:=h.a;have:=a8.a;omega,a8.b⟩
def cf.less{k l:Int}(h:cf E s s' k)(c:l<=k):cf E s s' l:=⟨h.f,h.ku,h.o,by have:=h.a;omega,h.b⟩
def cf.in{k:Int}(e:In E s)(h:cf E s s' k)(i:0<=k):In E s':=⟨by have:=h.a;have:=e.a;omega,h.b,by rw[h.o];exact e.c,by rw[h.o];exact e.d⟩
def cf.refl(a:In E s)(h:s.an=0):cf E s s 0:=⟨h,h,rfl,ae,a.b⟩
def AX{a:Int}(h:(aj T a).kind≠0):0<=a/\a<T.length/\aj T a∈T:=by
 unfold aj at h ⊢;split at h
 ·exact absurd rfl h
 ·rename_i c;have:a.toNat<T.length:=ae;rw[if_neg c,List.getElem?_eq_getElem this,Option.getD_some];exact⟨ae,ae,List.getElem_mem _⟩
def J5(ay:Good T E){a:Int}(h:(aj T a).kind≠0):jE (aj T a):=(ay.t _ (AX h).2.2).resolve_right h
def UU(ay:Good T E){a:Int}(h:(aj T a).kind=1):ek (aj T a).text=true:=by
 rcases J5 ay (a:=a) ae with a8|a8|a8|a8
 ·exact a8.2.2
 all_goals omega
def UT(ay:Good T E){a:Int}(h:(aj T a).kind=2):0<=(aj T a).n/\(aj T a).n<=9223372036854775807:=by
 rcases J5 ay (a:=a) ae with a8|a8|a8|a8
 ·omega
 ·omega
 ·exact a8.2.2
 ·omega
def go_ok(ay:Good T E)(d:In E s)(c:s.an=0)(h:(aj T s.at_).kind≠0):aw s={s with at_:=s.at_+1}/\cf E s (aw s) 1:=by
 have j:=ay.lt _ h;have k:=ay.n;have i:=d.a;have e:aw s={s with at_:=s.at_+1}:=by
  unfold aw e8;rw[IntWalk.i64_in _ ⟨ae,ae⟩]
 refine⟨e,?_⟩;rw[e];exact⟨c,c,rfl,by simp,by simp only;omega⟩
def eA{e:Int}(he:e≠0):(bQ T e s).an≠0:=by
 unfold bQ;split
 ·exact he
 ·assumption
def e5{x:aC}(h:aV T s x=X):s.an=0/\(aj T s.at_).kind=kw x/\(aj T s.at_).text=x:=mh h
def y_(x:aC):kw x≠0:=by
 unfold kw;split
 ·split<;>decide
 ·decide
def gJ(ay:Good T E)(d:In E s){x:aC}(h:aV T s x=X):cf E s (aw s) 1:=by
 obtain⟨a,c,-⟩:=e5 h;exact(go_ok ay d a (by rw[c];exact y_ x)).2
abbrev c_(E:Int)(s:al):Prop:=s.an=0->In E s
def cf.hq{k:Int}(a:c_ E s)(h:cf E s s' k)(c:0<=k):c_ E s':=λ_=>h.in (a h.f) c
def fA(ay:Good T E)(c:c_ E s){x:aC}(h:(bh T x s).an=0):aV T s x=X/\bh T x s=aw s/\cf E s (bh T x s) 1:=by
 unfold bh at h ⊢;cases a:aV T s x with
 |true=>rw[aS];exact⟨rfl,rfl,gJ ay (c (e5 a).1) a⟩
 |false=>rw[a,aN]at h;exact absurd h (eA aK)
def mo(ay:Good T E)(c:c_ E s)(h:(bA T s).2.an=0):ek (bA T s).1=X/\cf E s (bA T s).2 1:=by
 unfold bA at h ⊢;cases a:(s.an==0&&(aj T s.at_).kind==1)with
 |true=>
  simp only[Bool.and_eq_true,beq_iff_eq]at a;rw[aS];exact⟨UU ay a.2,(go_ok ay (c a.1) a.1 ae).2⟩
 |false=>rw[a,aN]at h;exact absurd h (eA aK)
def fP{x:aC}(h:ek x=X):x.length<=8:=by
 simp only[ek,Bool.and_eq_true,decide_eq_true_eq]at h;exact h.2.1
def ib{x:aC}{d:Int}(h:iv x d):x.length<=8:=by
 rcases h.2.2 with h|rfl|rfl
 ·exact fP h
 ·decide
 ·decide
def kG(ay:Good T E)(d:c_ E s){x:aC}(h:(cB T x s).an=0):aV T s x=X/\s.an=0/\(cB T x s).bk=s.bk+1/\(cB T x s).at_=s.at_+1/\In E (cB T x s)/\s.bk+1<=50:=by
 unfold cB at h ⊢;cases i:aV T s x&&decide (50<=s.bk)with
 |true=>rw[i,aS]at h;exact absurd h (eA aK)
 |false=>
  rw[i,aN]at h;rw[aN];have a8:(bh T x s).an=0:=h;obtain⟨j,o,l⟩:=fA ay d a8;obtain⟨k,p,-⟩:=e5 j;have d:=d k;obtain⟨g1,-⟩:=go_ok ay d k (by rw[p];exact y_ x);rw[j,Bool.true_and]at i;have v:s.bk<50:=by have:=of_decide_eq_false i;omega
  have q:=d.c;have e:e8 (s.bk+1)=s.bk+1:=IntWalk.i64_in _ ⟨ae,ae⟩;have m:=l.a;have n:=l.b;have u:=d.a;rw[o,g1]at m n ⊢;simp only[e0,e]at m n ⊢;exact⟨j,k,trivial,trivial,⟨by simp only;omega,by simp only;omega,by simp only;omega,by simp only;omega⟩,ae⟩
def zQ(a:In E s):dU s={s with bk:=s.bk-1}:=by
 have:=a.c;have:=a.d;unfold dU e8;rw[IntWalk.i64_in _ ⟨ae,ae⟩]
def tv(ay:Good T E){k:Int}(l:0<=k)(q:s.bk+1=s'.bk)(p:s.at_+1=s'.at_)(e:s.an=0)(i:In E s')(hw:cf E s' s2 k){x:aC}(h:(dh T x s2).an=0):cf E s (dh T x s2) (k+2):=by
 have a8:(bh T x s2).an=0:=h;have d:=hw.in i l;obtain⟨m,n,c⟩:=fA ay (λ_=>d) a8;have j:=c.in d ae;unfold dh at h ⊢;rw[zQ j]at h ⊢;have aT:=hw.a;have a2:=c.a;have bO:=hw.o;have b2:=c.o;exact⟨e,h,by simp only;omega,by simp only;omega,c.b⟩
def AU(ay:Good T E){x:aC}:∀(n:Nat) (s:al),c_ E s->(takeN T x n s).an=0->cf E s (takeN T x n s) n
 |0,s,c,h=> .refl (c h) h
 |n+1,s,c,h=>by
  have a:(bh T x s).an=0:=by
   by_cases a:(bh T x s).an=0
   ·exact a
   ·exfalso;have key:∀(n:Nat) (s:al),s.an≠0->(takeN T x n s).an≠0:=by
     intro n
     induction n with
     |zero=>intro s ar;exact ar
     |succ n e=>intro s ar;exact e _ (by unfold bh;rw[et ar,aN,fm ar];exact ar)
    exact key n _ a h
  obtain⟨-,-,d⟩:=fA ay c a;have:=d.trans (AU ay n _ (d.hq c ae) h);exact this.less ae
def Hg(ay:Good T E):∀(n:Nat) (d:Int) (s:al) {q:Int×al},In E s->0<=d->fb T n d s= .inl q->s.an=0->d<=q.1/\q.1<=d+n/\cf E s q.2 (q.1-d)/\aV T q.2 [91]=U
 |0,d,s,q,c,l,h,e=>by
  rw[fb]at h;cases a:aV T s [91]with
  |true=>rw[a,aS]at h;cases h
  |false=>
   rw[a,aN]at h;cases h;exact⟨Int.le_refl _,by simp,(cf.refl c e).less (by simp),a⟩
 |n+1,d,s,q,c,l,h,e=>by
  rw[fb]at h;cases a:aV T s [91]with
  |true=>
   rw[a,aS]at h;have i:=gJ ay c a;obtain⟨m,o,j,k⟩:=Hg ay n (d+1) _ (i.in c ae) ae h i.ku;exact⟨ae,ae,(i.trans j).less ae,k⟩
  |false=>
   rw[a,aN]at h;cases h;exact⟨Int.le_refl _,ae,(cf.refl c e).less (by simp),a⟩
def PM:∀(n:Nat) (d:Int) (s:al),s.an≠0->fb T n d s= .inl (d,s)
 |0,d,s,h=>by rw[fb,et h];rfl
 |n+1,d,s,h=>by rw[fb,et h];rfl
def AR{x:aC}:∀(n:Nat) (s:al),s.an≠0->(takeN T x n s).an≠0
 |0,s,ar=>ar
 |n+1,s,ar=>AR n _ (by unfold bh;rw[et ar,aN,fm ar];exact ar)
def qn(ay:Good T E)(k:c_ E s)(h:(cM T s).2.an=0):iv (cM T s).1.1 (cM T s).1.2/\cf E s (cM T s).2 1:=by
 have c:s.an=0:=by
  by_cases c:s.an=0
  ·exact c
  ·exfalso;unfold cM at h;rw[PM 3 0 s c]at h;simp only[fz,et c,Bool.or_self,aN,v7 c]at h;exact AR _ _ c h
 have k:=k c;unfold cM at h ⊢;cases l:fb T 3 0 s with
 |inr s'=>
  exfalso;rw[l]at h;have key:∀(n:Nat) (d:Int) (s:al) {s':al},fb T n d s= .inr s'->s'.an≠0:=by
   intro n
   induction n with
   |zero=>
    intro d s s' h;rw[fb]at h;cases a:aV T s [91]<;>rw[a]at h<;>cases h;exact eA aK
   |succ n v=>
    intro d s s' h;rw[fb]at h;cases a:aV T s [91]<;>rw[a]at h
    ·cases h
    ·exact v _ _ h
  exact key _ _ _ l h
 |inl q=>
  obtain⟨m,o,i,-⟩:=Hg ay 3 0 s k ae l c;rw[l]at h;obtain⟨d,s1⟩:=q;simp only at h m o i ⊢;have e:=i.in k ae;unfold fz at h ⊢;cases a:aV T s1 [105,110,116]||aV T s1 [98,111,111,108]with
  |true=>
   rw[a,aS]at h;rw[aS];have p:cf E s1 (aw s1) 1/\((aj T s1.at_).text=[105,110,116]\/(aj T s1.at_).text=[98,111,111,108]):=by
    rcases Bool.or_eq_true_iff.1 a with a|a
    ·exact⟨gJ ay e a,.inl (e5 a).2.2⟩
    ·exact⟨gJ ay e a,.inr (e5 a).2.2⟩
   have u:=AU ay _ _ (p.1.hq (λ_=>e) ae) h;exact⟨⟨m,by simpa using o,.inr p.2⟩,((i.trans p.1).trans u).less ae⟩
  |false=>
   rw[a,aN]at h;rw[aN];have j:(bA T s1).2.an=0:=by
    by_cases j:(bA T s1).2.an=0
    ·exact j
    ·exact absurd h (AR _ _ j)
   obtain⟨w,n2⟩:=mo ay (λ_=>e) j;have u:=AU ay _ _ (n2.hq (λ_=>e) ae) h;exact⟨⟨m,by simpa using o,.inl w⟩,((i.trans n2).trans u).less ae⟩
end
def h4(o a0:Int)(m:Nat)(e:aE)(aT:Int):Prop:=(c9 e:Int)<=60*(aT-a0)/\∃d:Nat,o+d<=50/\cA d m e
def h4.low{o a0 aT:Int}{m m':Nat}{e:aE}(h:h4 o a0 m e aT)(hm:m'<=m):h4 o a0 m' e aT:=⟨h.1,h.2.imp λ_ h=>⟨h.1,h.2.low hm⟩⟩
def h4.wide{o a0 aT a c:Int}{m:Nat}{e:aE}(h:h4 o a0 m e aT)(d:a<=a0)(i:aT<=c):h4 o a m e c:=⟨by have:=h.1;omega,h.2⟩
def xw{a:bU}(d:a.name.length<=8)(c:a.b4=[]):(c9 (.mk a []):Int)<=60:=by simp[c9,cr,c];omega
def KF{a:bU}(d:a.b4.length<=8)(c:a.name=[]):(c9 (.mk a []):Int)<=60:=by simp[c9,cr,c];omega
def xx{a:bU}{e:aE}(c:a.name.length+a.b4.length<=8):(c9 (.mk a [e]):Int)<=60+c9 e:=by simp[c9,cr];omega
def KG{a:bU}{e f:aE}(c:a.name.length+a.b4.length<=8):(c9 (.mk a [e,f]):Int)<=60+c9 e+c9 f:=by simp[c9,cr];omega
def Vf{a:bU}{l:List aE}(c:a.name.length+a.b4.length<=8):(c9 (.mk a l):Int)<=60+cr l:=by simp[c9];omega
structure Lg(T:List Tok)(E:Int)(n:Nat):Prop where
 expr:∀lev s p,lev<=5->c_ E s->dF T n lev s=some p->p.2.an=0->cf E s p.2 1/\h4 s.bk s.at_ (lev+1) p.1 p.2.at_
 Dg:∀lev e a0 s p,lev<=4->c_ E s->(s.an=0->h4 s.bk a0 (lev+1) e s.at_)->fV T n lev e s=some p->p.2.an=0->cf E s p.2 0/\h4 s.bk a0 (lev+1) p.1 p.2.at_
 unary:∀s p,c_ E s->gj T n s=some p->p.2.an=0->cf E s p.2 1/\h4 s.bk s.at_ 6 p.1 p.2.at_
 sign:∀k s p,k=12\/k=13->c_ E s->hZ T n k s=some p->p.2.an=0->cf E s p.2 1/\h4 s.bk s.at_ 6 p.1 p.2.at_
 behind:∀e a0 s p,c_ E s->(s.an=0->h4 s.bk a0 7 e s.at_)->eU T n e s=some p->p.2.an=0->cf E s p.2 0/\h4 s.bk a0 7 p.1 p.2.at_
 inner:∀s p,c_ E s->e4 T n s=some p->p.2.an=0->cf E s p.2 1/\h4 (s.bk+1) s.at_ 0 p.1 p.2.at_
 first:∀s p,c_ E s->dY T n s=some p->p.2.an=0->cf E s p.2 1/\h4 s.bk s.at_ 7 p.1 p.2.at_
 fresh:∀pos s p,c_ E s->gb T n pos s=some p->p.2.an=0->cf E s p.2 1/\h4 s.bk (s.at_-1) 7 p.1 p.2.at_
 args:∀s p,c_ E s->fN T n s=some p->p.2.an=0->cf E s p.2 1/\(cr p.1:Int)<=60*(p.2.at_-s.at_)/\∃d:Nat,s.bk+1+d<=50/\∀e∈p.1,cA d 0 e
 B4:∀l a0 s p,c_ E s->1<=s.bk->(s.an=0->(cr l:Int)<=60*(s.at_-a0)/\∃d:Nat,s.bk+d<=50/\∀e∈l,cA d 0 e)->fi T n l s=some p->p.2.an=0->(s.an=0/\p.2.bk=s.bk-1/\s.at_+1<=p.2.at_/\p.2.at_<=E)/\(cr p.1:Int)<=60*(p.2.at_-a0)/\∃d:Nat,s.bk+d<=50/\∀e∈p.1,cA d 0 e
def gG{α β:Type}{x:Option α}{f:α->Option β}{b:β}(h:x.bind f=D b):∃a,x=D a/\f a=D b:=dc.1 h
def F8{x:aC}:∀l:List (aC×Int),mm x l≠0->∃k,(x,k)∈l/\mm x l=k
 |[],h=>absurd rfl h
 |(y,k)::r,h=>by
  rw[mm]at h ⊢;cases a:y==x with
  |true=>
   obtain rfl:y=x:=by simpa using a
   rw[aS];exact⟨k,List.mem_cons_self,rfl⟩
  |false=>
   rw[a,aN]at h;rw[aN];obtain⟨k,c,d⟩:=F8 r h;exact⟨k,List.mem_cons_of_mem _ c,d⟩
def Pj(lev:Nat):Bool:=(lD[lev]?.getD []).all λp=>decide (14<=p.2)&&decide (p.2<=24)&&cG p.2==lev+1
def Pk:(List.range 5).all Pj=true:=by decide+kernel
def O9{lev:Nat}(e:lev<=4){t:Tok}(h:eM lev t≠0):t.kind=4/\14<=eM lev t/\eM lev t<=24/\cG (eM lev t)=lev+1/\(t.text,eM lev t)∈lD[lev]?.getD []:=by
 unfold eM at h ⊢;cases a:(t.kind != 4)with
 |true=>rw[a,aS]at h;exact absurd rfl h
 |false=>
  rw[a,aN]at h;rw[aN];obtain⟨k,c,d⟩:=F8 _ h;have:=List.all_eq_true.1 (List.all_eq_true.1 Pk lev (List.mem_range.2 ae)) _ c;simp only[Bool.and_eq_true,decide_eq_true_eq,beq_iff_eq]at this;rw[d];exact⟨by simpa using a,this.1.1,this.1.2,this.2,c⟩
def tp{o:Int}{d a:Nat}(h:o+d<=50)(a8:o+a<=50):o+(max d a:Nat)<=50:=ae
def HS{T:List Tok}{E:Int}(ay:Good T E):∀n,Lg T E n
 |0=>by
  constructor<;>intros<;>rename_i h _<;>first|cases h|skip
 |n+1=>by
  have y:=HS ay n;refine⟨?_,?_,?_,?_,?_,?_,?_,?_,?_,?_⟩
  ·intro lev s p aq i h aF;rw[dF]at h;split at h
   ·rename_i V;subst V;exact y.unary s p i h aF
   ·obtain⟨q,g1,g2⟩:=gG h;have v:=λj=>y.expr (lev+1) s q ae i g1 j
    obtain⟨A,B⟩:=y.Dg lev q.1 s.at_ q.2 p ae (λj=>(v j).1.in (i (v j).1.f) ae) (λj=>by rw[(v j).1.o];exact(v j).2.low ae) g2 aF;have v:=v A.f;exact⟨(v.1.trans A).less ae,by rw[v.1.o]at B;exact B⟩
  ·intro lev e a0 s p aq i he h aF;rw[fV]at h;cases F:(s.an==0&&eM lev (aj T s.at_) != 0)with
   |false=>
    rw[F,aN]at h;cases h;exact⟨.refl (i aF) aF,he aF⟩
   |true=>
    rw[F,aS]at h;simp only[Bool.and_eq_true,beq_iff_eq,bne_iff_ne,ne_eq]at F;obtain⟨m,aO⟩:=F;obtain⟨aZ,aU,aW,aE,-⟩:=O9 aq aO;have u:=(go_ok ay (i m) m ae).2;have M:=u.in (i m) ae;obtain⟨q,g1,g2⟩:=gG h;have v:=λj=>y.expr (lev+1) (aw s) q ae (λ_=>M) g1 j
    have key:∀j:q.2.an=0,h4 q.2.bk a0 (lev+1) (.mk {kind:=eM lev (aj T s.at_),pos:=(aj T s.at_).pos} [e,q.1]) q.2.at_:=by
     intro j;obtain⟨w,S,d,P,G⟩:=v j;obtain⟨i2,K,i3,i4⟩:=he m;have:=KG (a:={kind:=eM lev (aj T s.at_),pos:=(aj T s.at_).pos}) (e:=e) (f:=q.1) (by simp);have Q:=u.a;have go:=u.o;have am:=w.o;refine⟨ae,max d K,by rw[am,go];exact tp (by rw[<-go];exact P) i3,?_⟩;refine .bin ae aU aW ?_ ?_
     ·rw[aE];exact i4.more ae
     ·rw[aE];exact G.more ae
    obtain⟨A,B⟩:=y.Dg lev _ a0 q.2 p aq (λj=>(v j).1.in M ae) key g2 aF;have v:=v A.f;refine⟨((u.trans v.1).trans A).less ae,?_⟩;rw[v.1.o,u.o]at B;exact B
  ·intro s p i h aF;rw[gj]at h;cases x:aV T s [45]with
   |true=>rw[x,aS]at h;exact y.sign 12 s p (.inl rfl) i h aF
   |false=>
    rw[x,aN]at h;cases aa:aV T s [33]with
    |true=>rw[aa,aS]at h;exact y.sign 13 s p (.inr rfl) i h aF
    |false=>
     rw[aa,aN]at h;obtain⟨q,g1,g2⟩:=gG h;have v:=λj=>y.first s q i g1 j
     obtain⟨A,B⟩:=y.behind q.1 s.at_ q.2 p (λj=>(v j).1.in (i (v j).1.f) ae) (λj=>by rw[(v j).1.o];exact(v j).2) g2 aF;have v:=v A.f;exact⟨(v.1.trans A).less ae,by rw[v.1.o]at B;exact B.low ae⟩
  ·intro k s p aM i h aF;rw[hZ]at h;obtain⟨q,g1,g2⟩:=gG h;cases g2;have j:q.2.an=0:=aF;have aQ:(cB T (aj T s.at_).text s).an=0->c_ E (cB T (aj T s.at_).text s):=λm _=>(kG ay i m).2.2.2.2.1
   obtain⟨w,S,d,P,G⟩:=y.expr 5 _ q ae (λm=>aQ m m) g1 j;obtain⟨bO,b2,cw,dN,H,ah⟩:=kG ay i w.f;have aJ:=w.in H ae;have aP:=zQ aJ;simp only[aP]at aF ⊢;have aD:=w.a;have am:=w.o;have av:=w.b;have:=xx (a:={kind:=k,pos:=(aj T s.at_).pos}) (e:=q.1) (by simp);refine⟨⟨b2,aF,by(try simp only);omega,by(try simp only);omega,av⟩,by(try simp only);omega,d+1,ae,.sign ae aM G⟩
  ·intro e a0 s p i he h aF;rw[eU]at h;cases x:aV T s [46]with
   |true=>
    rw[x,aS]at h;have m:=(e5 x).1;have u:=gJ ay (i m) x;have M:=u.in (i m) ae;have W:=λj=>mo ay (s:=aw s) (λ_=>M) j
    obtain⟨i2,K,i3,i4⟩:=he m;obtain⟨A,B⟩:=y.behind _ a0 _ p (λj=>(W j).2.in M ae) (λj=>by
     obtain⟨O,n2⟩:=W j;have:=xx (a:={kind:=5,name:=(bA T (aw s)).1,pos:=(aj T s.at_).pos}) (e:=e) (by have:=fP O;simp;omega);have aB:=n2.a;have Q:=u.a;refine⟨ae,K,by rw[n2.o,u.o];exact i3,.field ae O i4⟩) h aF
    have n2:=(W A.f).2;refine⟨((u.trans n2).trans A).less ae,?_⟩;rw[n2.o,u.o]at B;exact B
   |false=>
    rw[x,aN]at h;cases aa:aV T s [91]with
    |true=>
     rw[aa,aS]at h;have m:=(e5 aa).1;obtain⟨q,g1,g2⟩:=gG h;obtain⟨i2,K,i3,i4⟩:=he m;have v:=λj=>y.expr 0 _ q ae (λm=>(kG ay i m).2.2.2.2.1) g1 j
     have aI:(dh T [93] q.2).an=0->q.2.an=0:=λN=>by
      have a8:(bh T [93] q.2).an=0:=N;unfold bh at a8;cases L:aV T q.2 [93]with
      |true=>exact(e5 L).1
      |false=>rw[L,aN]at a8;exact absurd a8 (eA aK)
     have key:∀N:(dh T [93] q.2).an=0,cf E s (dh T [93] q.2) 3/\h4 s.bk a0 7 (.mk {kind:=6,pos:=(aj T s.at_).pos} [e,q.1]) (dh T [93] q.2).at_:=by
      intro N;obtain⟨w,S,d,P,G⟩:=v (aI N);obtain⟨bO,b2,cw,dN,H,ah⟩:=kG ay i w.f;have F:=tv ay ae cw.symm dN.symm m H w N;have ao:=F.a;have av:q.2.at_+1<=(dh T [93] q.2).at_:=by
       have a8:(bh T [93] q.2).an=0:=N;have:=(fA ay (λ_=>w.in H ae) a8).2.2.a;exact this
      have:=KG (a:={kind:=6,pos:=(aj T s.at_).pos}) (e:=e) (f:=q.1) (by simp);refine⟨F.less ae,ae,max K (d+1),tp i3 ae,?_⟩;obtain⟨z,L⟩:∃z,max K (d+1)=z+1:=⟨max K (d+1)-1,ae⟩;rw[L];exact .item ae (i4.more ae) ((G.low ae).more ae)
     obtain⟨A,B⟩:=y.behind _ a0 _ p (λN=>(key N).1.in (i m) ae) (λN=>by rw[(key N).1.o];exact(key N).2) g2 aF;have af:=(key A.f).1;refine⟨(af.trans A).less ae,?_⟩;rw[af.o]at B;exact B
    |false=>
     rw[aa,aN]at h;cases h;exact⟨.refl (i aF) aF,he aF⟩
  ·intro s p i h aF;rw[e4]at h;obtain⟨q,g1,g2⟩:=gG h;cases g2;have j:q.2.an=0:=by
    have a8:(bh T [41] q.2).an=0:=aF;unfold bh at a8;cases L:aV T q.2 [41]with
    |true=>exact(e5 L).1
    |false=>rw[L,aN]at a8;exact absurd a8 (eA aK)
   obtain⟨w,S,d,P,G⟩:=y.expr 0 _ q ae (λm=>(kG ay i m).2.2.2.2.1) g1 j;obtain⟨bO,b2,cw,dN,H,ah⟩:=kG ay i w.f;have F:=tv ay ae cw.symm dN.symm b2 H w aF;have ao:=F.a;have av:q.2.at_+1<=(dh T [41] q.2).at_:=by
    have a8:(bh T [41] q.2).an=0:=aF;exact(fA ay (λ_=>w.in H ae) a8).2.2.a
   refine⟨F.less ae,by(try simp only);omega,d,by rw[<-cw];exact P,G.low ae⟩
  ·intro s p i h aF;rw[dY]at h;cases v:(s.an==0&&(aj T s.at_).kind==2)with
   |true=>
    rw[v,aS]at h;cases h;simp only[Bool.and_eq_true,beq_iff_eq]at v;have u:=(go_ok ay (i v.1) v.1 ae).2;have W:=UT ay v.2;have Q:=u.a;have:=xw (a:={kind:=1,n:=(aj T s.at_).n,pos:=(aj T s.at_).pos}) (by simp) rfl;have R:=(i v.1).d;exact⟨u,by(try simp only);omega,0,by simpa using R,.int ae W.1 W.2⟩
   |false=>
    rw[v,aN]at h;cases ab:(aV T s [116,114,117,101]||aV T s [102,97,108,115,101])with
    |true=>
     rw[ab,aS]at h;cases h;have u:cf E s (aw s) 1:=by
      rcases Bool.or_eq_true_iff.1 ab with x|x<;>exact gJ ay (i (e5 x).1) x
     have Q:=u.a;have R:=(i u.f).d;have:=xw (a:={kind:=2,n:=bif (aj T s.at_).text==[116,114,117,101]then 1 else 0,pos:=(aj T s.at_).pos}) (by simp) rfl;refine⟨u,by(try simp only);omega,0,by simpa using R,.bool ae ?_⟩;cases(aj T s.at_).text==[116,114,117,101]
     ·exact .inl rfl
     ·exact .inr rfl
    |false=>
     rw[ab,aN]at h;cases ak:aV T s [110,117,108,108]with
     |true=>
      rw[ak,aS]at h;cases h;have m:=(e5 ak).1;have u:=gJ ay (i m) ak;obtain⟨bO,b2⟩:=qn ay (u.hq i ae) aF;have Q:=u.a;have aT:=b2.a;have R:=(i m).d;have:=KF (a:={kind:=3,b4:=(cM T (aw s)).1.1,cy:=(cM T (aw s)).1.2,pos:=(aj T s.at_).pos}) (ib bO) rfl;exact⟨(u.trans b2).less ae,by(try simp only);omega,0,by simpa using R,.null ae bO⟩
     |false=>
      rw[ak,aN]at h;cases ad:aV T s [110,101,119]with
      |true=>
       rw[ad,aS]at h;have m:=(e5 ad).1;have u:=gJ ay (i m) ad;obtain⟨A,B⟩:=y.fresh _ _ p (u.hq i ae) h aF;have Q:=u.a;have ge:=(go_ok ay (i m) m (by rw[(e5 ad).2.1];exact y_ _)).1;rw[u.o]at B;exact⟨(u.trans A).less ae,B.wide (by rw[ge];simp) (Int.le_refl _)⟩
      |false=>
       rw[ad,aN]at h;cases V:aV T s [108,101,110]with
       |true=>
        rw[V,aS]at h;have m:=(e5 V).1;have u:=gJ ay (i m) V;obtain⟨q,g1,g2⟩:=gG h;cases g2;obtain⟨w,S,d,P,G⟩:=y.inner _ q (u.hq i ae) g1 aF;have Q:=u.a;have go:=u.o;have:=xx (a:={kind:=10,pos:=(aj T s.at_).pos}) (e:=q.1) (by simp);exact⟨(u.trans w).less ae,by(try simp only);omega,d+1,ae,.len ae G⟩
       |false=>
        rw[V,aN]at h;cases al:aV T s [114,101,97,100]with
        |true=>
         rw[al,aS]at h;cases h;have m:=(e5 al).1;have u:=gJ ay (i m) al;have j:(cB T [40] (aw s)).an=0:=by
          have a8:(bh T [41] (cB T [40] (aw s))).an=0:=aF;unfold bh at a8;cases L:aV T (cB T [40] (aw s)) [41]with
          |true=>exact(e5 L).1
          |false=>rw[L,aN]at a8;exact absurd a8 (eA aK)
         obtain⟨bO,b2,cw,dN,H,ah⟩:=kG ay (u.hq i ae) j;have F:=tv ay (k:=0) ae cw.symm dN.symm b2 H (.refl H j) aF;have Q:=u.a;have go:=u.o;have ao:=F.a;have:=xw (a:={kind:=11,pos:=(aj T s.at_).pos}) (by simp) rfl;exact⟨(u.trans F).less ae,by(try simp only);omega,1,ae,.read ae⟩
        |false=>
         rw[al,aN]at h;cases aC:aV T s [40]with
         |true=>
          rw[aC,aS]at h;obtain⟨w,S,d,P,G⟩:=y.inner s p i h aF;exact⟨w,S,d+1,ae,G.up ae⟩
         |false=>
          rw[aC,aN]at h;have R:s.an=0->s.bk<=50:=λm=>(i m).d
          cases ap:aV T (bA T s).2 [40]with
          |true=>
           rw[ap,aS]at h;obtain⟨q,g1,g2⟩:=gG h;cases g2;obtain⟨O,n2⟩:=mo ay i (e5 ap).1;obtain⟨A,B,d,af,ag⟩:=y.args _ q (n2.hq i ae) g1 aF;have aB:=n2.a;have no:=n2.o;have:=Vf (a:={kind:=7,name:=(bA T s).1,pos:=(aj T s.at_).pos}) (l:=q.1) (by have:=fP O;simp;omega);exact⟨(n2.trans A).less ae,by(try simp only);omega,d+1,ae,.call ae O ag⟩
          |false=>
           rw[ap,aN]at h;cases h;obtain⟨O,n2⟩:=mo ay i aF;have aB:=n2.a;have:=xw (a:={kind:=4,name:=(bA T s).1,pos:=(aj T s.at_).pos}) (fP O) rfl;exact⟨n2,by(try simp only);omega,0,by simpa using R n2.f,.var ae O⟩
  ·intro pos s p i h aF;rw[gb]at h;cases x:aV T s [91]with
   |true=>
    rw[x,aS]at h;obtain⟨q,g1,g2⟩:=gG h;cases g2;have m:=(e5 x).1;have u:=gJ ay (i m) x;have M:=u.in (i m) ae;have au:=λj:(bh T [93] (cM T (aw s)).2).an=0=>by
     have ab:(cM T (aw s)).2.an=0:=by
      unfold bh at j;cases L:aV T (cM T (aw s)).2 [93]with
      |true=>exact(e5 L).1
      |false=>rw[L,aN]at j;exact absurd j (eA aK)
     have o:=qn ay (λ_=>M) ab;exact ai o (fA ay (λ_=>o.2.in M ae) j).2.2
    obtain⟨w,S,d,P,G⟩:=y.inner _ q (λj=>((au j).1.2.trans (au j).2).in M ae) g1 aF;obtain⟨⟨bO,b2⟩,cw⟩:=au w.f;have Q:=u.a;have go:=u.o;have aT:=b2.a;have aY:=b2.o;have aX:=cw.a;have to:=cw.o;have:=xx (a:={kind:=9,b4:=(cM T (aw s)).1.1,cy:=(cM T (aw s)).1.2,pos:=pos}) (e:=q.1) (by have:=ib bO;simp;omega);exact⟨(((u.trans b2).trans cw).trans w).less ae,by(try simp only);omega,d+1,ae,.make ae bO G⟩
   |false=>
    rw[x,aN]at h;cases h;obtain⟨O,n2⟩:=mo ay i aF;have aB:=n2.a;have R:=(i n2.f).d;have:=KF (a:={kind:=8,b4:=(bA T s).1,pos:=pos}) (fP O) rfl;exact⟨n2,by(try simp only);omega,0,by simpa using R,.new ae O⟩
  ·intro s p i h aF;rw[fN]at h;cases x:aV T (cB T [40] s) [41]with
   |true=>
    rw[x,aS]at h;cases h;obtain⟨bO,b2,cw,dN,H,ah⟩:=kG ay i (e5 x).1;have F:=tv ay (k:=0) ae cw.symm dN.symm b2 H (.refl H (e5 x).1) aF;have ao:=F.a;refine⟨F.less ae,by simp only[cr];omega,0,ae,λe he=>by cases he⟩
   |false=>
    rw[x,aN]at h;obtain⟨q,g1,g2⟩:=gG h;have v:=λj=>y.expr 0 _ q ae (λm=>(kG ay i m).2.2.2.2.1) g1 j
    have aH:=λj=>kG ay i (v j).1.f
    by_cases j:q.2.an=0
    ·obtain⟨w,S,d,P,G⟩:=v j;obtain⟨bO,b2,cw,dN,H,ah⟩:=aH j;have am:=w.o;have aD:=w.a;have F:=(i b2).c;obtain⟨⟨A,B,af,ag⟩,ax,K,aR,az⟩:=y.B4 [q.1] s.at_ q.2 p (λ_=>w.in H ae) ae (λ_=>⟨by simp only[cr];omega,d,ae,λe he=>by
      simp only[List.mem_cons,List.not_mem_nil,or_false]at he;subst he;exact G.low ae⟩) g2 aF
     exact⟨⟨b2,aF,ae,ae,ag⟩,ax,K,ae,az⟩
    ·exfalso;cases n with
     |zero=>rw[fi]at g2;cases g2
     |succ n=>
      rw[fi,et j,aN]at g2;cases g2;have a8:(bh T [41] q.2).an=0:=aF;unfold bh at a8;rw[et j,aN]at a8;exact absurd a8 (eA aK)
  ·intro l a0 s p i ar he h aF;rw[fi]at h;cases x:aV T s [44]with
   |true=>
    rw[x,aS]at h;obtain⟨q,g1,g2⟩:=gG h;have m:=(e5 x).1;have u:=gJ ay (i m) x;have M:=u.in (i m) ae;have v:=λj=>y.expr 0 _ q ae (λ_=>M) g1 j
    by_cases j:q.2.an=0
    ·obtain⟨w,S,d,P,G⟩:=v j;obtain⟨i2,K,i3,i4⟩:=he m;have go:=u.o;have Q:=u.a;have am:=w.o;have aD:=w.a;obtain⟨⟨A,B,af,ag⟩,ax,d2,aR,az⟩:=y.B4 (l++[q.1]) a0 q.2 p (λ_=>w.in M ae) ae (λ_=>⟨by rw[KH];omega,max d K,tp ae ae,λe he=>by
      rcases List.mem_append.1 he with he|he
      ·exact(i4 e he).more ae
      ·simp only[List.mem_cons,List.not_mem_nil,or_false]at he;subst he;exact(G.low ae).more ae⟩) g2 aF
     exact⟨⟨m,ae,ae,ag⟩,ax,d2,ae,az⟩
    ·exfalso;cases n with
     |zero=>rw[fi]at g2;cases g2
     |succ n=>
      rw[fi,et j,aN]at g2;cases g2;have a8:(bh T [41] q.2).an=0:=aF;unfold bh at a8;rw[et j,aN]at a8;exact absurd a8 (eA aK)
   |false=>
    rw[x,aN]at h;cases h;have a8:(bh T [41] s).an=0:=aF;obtain⟨t1,t2,t3⟩:=fA ay i a8;have m:=t3.f;obtain⟨i2,K,i3,i4⟩:=he m;have aX:=t3.a;have to:=t3.o;have jc:=t3.b;have aL:=t3.in (i m) ae;have e:dh T [41] s={bh T [41] s with bk:=(bh T [41] s).bk-1}:=by unfold dh;exact zQ aL
    simp only[e]at aF ⊢;refine⟨⟨m,by(try simp only);omega,by(try simp only);omega,jc⟩,by(try simp only);omega,K,i3,i4⟩
inductive ez:Nat->bf->Prop
 |var {d x o z p}:ek x=true->iv o z->ez d (.mk {kind:=1,name:=x,b4:=o,cy:=z,pos:=p} [] [] [])
 |lets {d x o z p e}:ek x=true->iv o z->cA d 0 e->ez d (.mk {kind:=2,name:=x,b4:=o,cy:=z,pos:=p} [e] [] [])
 |set {d x p e}:ek x=true->cA d 0 e->ez d (.mk {kind:=3,name:=x,pos:=p} [e] [] [])
 |put {d p e f}:e.kind=5\/e.kind=6->cA d 0 e->cA d 0 f->ez d (.mk {kind:=4,pos:=p} [e,f] [] [])
 |ifs {d p e b c}:cA (d+1) 0 e->(∀s∈b,ez d s)->(∀s∈c,ez d s)->ez (d+1) (.mk {kind:=5,pos:=p} [e] b c)
 |while {d p e b}:cA (d+1) 0 e->(∀s∈b,ez d s)->ez (d+1) (.mk {kind:=6,pos:=p} [e] b [])
 |my {d p}:ez d (.mk {kind:=7,pos:=p} [] [] [])
 |mz {d p e}:cA d 0 e->ez d (.mk {kind:=7,pos:=p} [e] [] [])
 |print {d p e}:cA d 0 e->ez d (.mk {kind:=8,pos:=p} [e] [] [])
 |call {d p e}:e.kind=7->cA d 0 e->ez d (.mk {kind:=9,pos:=p} [e] [] [])
def ez.at{d:Nat}{s:bf}(h:ez d s)(p:Int):ez d (s.at p):=by
 cases h with
 |var a b=>exact .var a b
 |lets a b c=>exact .lets a b c
 |set a b=>exact .set a b
 |put a b c=>exact .put a b c
 |ifs a b c=>exact .ifs a b c
 | «while» a b=>exact .while a b
 |my=>exact .my
 |mz a=>exact .mz a
 |print a=>exact .print a
 |call a b=>exact .call a b
def ez.more{d:Nat}{s:bf}(h:ez d s):∀{e:Nat},d<=e->ez e s:=by
 induction h with
 |var a b=>intro e _;exact .var a b
 |lets a b c=>intro e i;exact .lets a b (c.more i)
 |set a b=>intro e i;exact .set a (b.more i)
 |put a b c=>intro e i;exact .put a (b.more i) (c.more i)
 |ifs a _ _ ih1 ih2=>intro e i;obtain⟨k,rfl⟩:∃k,e=k+1:=⟨e-1,ae⟩;exact .ifs (a.more i) (λs ar=>ih1 s ar ae) (λs ar=>ih2 s ar ae)
 | «while» a _ ih1=>intro e i;obtain⟨k,rfl⟩:∃k,e=k+1:=⟨e-1,ae⟩;exact .while (a.more i) (λs ar=>ih1 s ar ae)
 |my=>intro e _;exact .my
 |mz a=>intro e i;exact .mz (a.more i)
 |print a=>intro e i;exact .print (a.more i)
 |call a b=>intro e i;exact .call a (b.more i)
mutual
def e9:bf->Nat
 | .mk a es b c=>400+a.name.length+a.b4.length+cr es+ec b+ec c
def ec:List bf->Nat
 |[]=>0
 |e::r=>e9 e+ec r
end
def KJ:∀(l:List bf) (e:bf),ec (l++[e])=ec l+e9 e
 |[],e=>by simp[ec]
 |x::l,e=>by rw[List.cons_append,ec,KJ l e,ec];omega
def Vh(s:bf)(p:Int):e9 (s.at p)=e9 s:=by cases s;rfl
def KI{a:b0}(c:a.name.length+a.b4.length<=16):(e9 (.mk a [] [] []):Int)<=416:=by simp[e9,cr,ec];omega
def u3{a:b0}{e:aE}(c:a.name.length+a.b4.length<=16):(e9 (.mk a [e] [] []):Int)<=416+c9 e:=by simp[e9,cr,ec];omega
def Vi{a:b0}{e f:aE}(c:a.name.length+a.b4.length<=16):(e9 (.mk a [e,f] [] []):Int)<=416+c9 e+c9 f:=by simp[e9,cr,ec];omega
def Bc{a:b0}{e:aE}{b c:List bf}(d:a.name.length+a.b4.length<=16):(e9 (.mk a [e] b c):Int)<=416+c9 e+ec b+ec c:=by simp[e9,cr];omega
section
variable {T:List Tok}{E:Int}{s s' s2:al}
def cf.to{y:al}{k:Int}(c:c_ E s)(h:y.an=0->cf E s y k)(d:0<=k):c_ E y:=λa=>(h a).in (c (h a).f) d
def h3(T:List Tok):Prop:=∀s,∃p,dF T 800000000 0 s=D p
def p8(ay:Good T E)(d:h3 T)(e:c_ E s)(h:(bJ T s).2.an=0):cf E s (bJ T s).2 1/\h4 s.bk s.at_ 0 (bJ T s).1 (bJ T s).2.at_:=by
 obtain⟨p,aF⟩:=d s;unfold bJ at h ⊢;rw[aF]at h ⊢;obtain⟨a,c⟩:=(HS ay 800000000).expr 0 s p ae e aF h;exact⟨a,c.low ae⟩
def A_(ay:Good T E)(i:c_ E s)(h:(dd T s).2.an=0):ek (dd T s).1.1=X/\iv (dd T s).1.2.1 (dd T s).1.2.2/\cf E s (dd T s).2 3:=by
 have c:=λj=>mo ay i j
 have d:=λj=>fA ay (s:=(bA T s).2) (x:=[58]) (cf.to i (λa=>(c a).2) ae) j
 have e:=qn ay (s:=bh T [58] (bA T s).2) (cf.to i (λa=>(c (d a).2.2.f).2.trans (d a).2.2) ae) h;have l:=d e.2.f;have k:=c l.2.2.f;exact⟨k.1,e.1,((k.2.trans l.2.2).trans e.2).less ae⟩
structure Li(T:List Tok)(E:Int)(n:Nat):Prop where
 block:∀s p,c_ E s->ej T n s=some p->p.2.an=0->cf E s p.2 2/\(ec p.1:Int)<=400*(p.2.at_-s.at_-2)/\∃d:Nat,s.bk+(d+1)<=50/\∀x∈p.1,ez d x
 loop:∀l a0 s p,c_ E s->(s.an=0->(ec l:Int)<=400*(s.at_-a0)/\∃d:Nat,s.bk+d<=50/\∀x∈l,ez d x)->fH T n l s=some p->p.2.an=0->cf E s p.2 0/\(ec p.1:Int)<=400*(p.2.at_-a0)/\∃d:Nat,s.bk+d<=50/\∀x∈p.1,ez d x
 stmt:∀s p,c_ E s->hb T n s=some p->p.2.an=0->cf E s p.2 2/\(e9 p.1:Int)<=400*(p.2.at_-s.at_)/\∃d:Nat,s.bk+d<=50/\ez d p.1
def Qi(ay:Good T E)(G:h3 T)(K:c_ E s)(h:(fW T s).2.an=0):cf E s (fW T s).2 2/\(e9 (fW T s).1:Int)<=400*((fW T s).2.at_-s.at_)/\∃d:Nat,s.bk+d<=50/\ez d (fW T s).1:=by
 have m:=λc=>p8 ay G K c
 have i1:c_ E (bJ T s).2:=cf.to K (λw=>(m w).1) ae;unfold fW at h ⊢;cases v:aV T (bJ T s).2 [61]with
 |true=>
  rw[v,aS]at h;rw[aS];have u:=(e5 v).1;obtain⟨k,O,d,y,n⟩:=m u;have a8:(bh T [59] (bJ T (hp T (bJ T s).1 (bJ T s).2)).2).an=0:=h;have aq:=λc=>fA ay (s:=bif gn (bJ T s).1 then bQ T 2 (bJ T s).2 else(bJ T s).2) (x:=[61]) (λi=>by
   cases j:gn (bJ T s).1 with
   |true=>rw[j,aS]at i;exact absurd i (eA aK)
   |false=>rw[aN];exact i1 u) c
  have H:(hp T (bJ T s).1 (bJ T s).2).an=0->gn (bJ T s).1=U/\cf E (bJ T s).2 (hp T (bJ T s).1 (bJ T s).2) 1:=λc=>by
   have aH:=(aq c).2.2;cases j:gn (bJ T s).1 with
   |true=>
    have:=aH.f;rw[j,aS]at this;exact absurd this (eA aK)
   |false=>
    rw[j,aN]at aH;unfold hp;rw[j,aN];exact⟨rfl,aH⟩
  have i2:c_ E (hp T (bJ T s).1 (bJ T s).2):=λc=>(H c).2.in (i1 u) ae
  have p:=λc=>p8 ay G i2 c
  have i3:c_ E (bJ T (hp T (bJ T s).1 (bJ T s).2)).2:=cf.to i2 (λw=>(p w).1) ae;obtain⟨-,-,t3⟩:=fA ay i3 a8;obtain⟨z,V,B,W,M⟩:=p t3.f;obtain⟨bb,A⟩:=H z.f;have P:=k.a;have Q:=k.o;have ab:=A.a;have ad:=A.o;have aa:=z.a;have R:=t3.a;have eZ:cf E s (bh T [59] (bJ T (hp T (bJ T s).1 (bJ T s).2)).2) 2:=(((k.trans A).trans z).trans t3).less ae;simp only[mY];refine⟨eZ,?_⟩;cases F:(bJ T s).1.kind==4 with
  |true=>
   rw[aS];have l:(bJ T s).1.kind=4:=by simpa using F
   have L:ek (bJ T s).1.name=true:=by
    generalize (bJ T s).1=e at n l;cases n with
    |par _ h _=>omega
    |var _ h=>exact h
    |bin S m p _ _=>simp only[aE.kind]at l;omega
    |sign _ m _=>simp only[aE.kind]at l;omega
    |_=>simp[aE.kind]at l
   have:=u3 (a:={kind:=3,name:=(bJ T s).1.name}) (e:=(bJ T (hp T (bJ T s).1 (bJ T s).2)).1) (by have:=fP L;simp;omega);exact⟨ae,B,ae,.set L M⟩
  |false=>
   rw[aN];have l:(bJ T s).1.kind≠4:=by simpa using F
   have j:(bJ T s).1.kind=5\/(bJ T s).1.kind=6:=by
    unfold gn at bb;simp only[Bool.and_eq_false_iff,bne_eq_false_iff_eq]at bb;rcases bb with q|q|q
    ·exact absurd q l
    ·exact .inl q
    ·exact .inr q
   have:=Vi (a:={kind:=4}) (e:=(bJ T s).1) (f:=(bJ T (hp T (bJ T s).1 (bJ T s).2)).1) (by simp);exact⟨ae,max d B,tp y ae,.put j (n.more ae) (M.more ae)⟩
 |false=>
  rw[v,aN]at h;rw[aN];have a8:(bh T [59] (bif aV T (bJ T s).2 [59]&&(bJ T s).1.kind != 7 then bQ T 2 (bJ T s).2 else(bJ T s).2)).an=0:=h;cases i:aV T (bJ T s).2 [59]&&(bJ T s).1.kind != 7 with
  |true=>
   rw[i,aS]at a8;unfold bh at a8;rw[et (eA aK),aN,fm (eA aK)]at a8;exact absurd a8 (eA aK)
  |false=>
   rw[i,aN]at a8;obtain⟨t1,t2,t3⟩:=fA ay i1 a8;obtain⟨k,O,d,y,n⟩:=m t3.f;rw[t1,Bool.true_and]at i;have N:(bJ T s).1.kind=7:=by simpa using i
   have P:=k.a;have Q:=k.o;have R:=t3.a;have:=u3 (a:={kind:=9}) (e:=(bJ T s).1) (by simp);simp only[aN];exact⟨(k.trans t3).less ae,ae,d,y,.call N n⟩
def z_(ay:Good T E)(L:h3 T):∀n,Li T E n
 |0=>by
  constructor<;>intros<;>rename_i h _<;>first|cases h|skip
 |n+1=>by
  have O:=z_ ay L n;refine⟨?_,?_,?_⟩
  ·intro s p v h aF;rw[ej]at h;obtain⟨q,g1,g2⟩:=gG h;cases g2;have i:q.2.an=0:=by
    have a8:(bh T [125] q.2).an=0:=aF;unfold bh at a8;cases ap:aV T q.2 [125]with
    |true=>exact(e5 ap).1
    |false=>rw[ap,aN]at a8;exact absurd a8 (eA aK)
   obtain⟨j,M,d,G,z⟩:=O.loop [] (cB T [123] s).at_ _ q (λah=>(kG ay v ah).2.2.2.2.1) (λah=>⟨by simp[ec],0,by have:=(kG ay v ah).2.2.2.2.1.d;simpa using this,λx u=>by cases u⟩) g1 i;obtain⟨bO,b2,cw,dN,aB,aI⟩:=kG ay v j.f;have N:=tv ay (k:=0) ae cw.symm dN.symm b2 aB j aF;have aH:q.2.at_+1<=(dh T [125] q.2).at_:=by
    have a8:(bh T [125] q.2).an=0:=aF;exact(fA ay (λ_=>j.in aB ae) a8).2.2.a
   exact⟨N.less ae,by(try simp only);omega,d,ae,z⟩
  ·intro l a0 s p v he h aF;rw[fH]at h;cases N:(s.an==0&& !aV T s [125])with
   |false=>
    rw[N,aN]at h;cases h;exact⟨.refl (v aF) aF,he aF⟩
   |true=>
    rw[N,aS]at h;simp only[Bool.and_eq_true,beq_iff_eq]at N;obtain⟨q,g1,g2⟩:=gG h;have af:=λi=>O.stmt s q v g1 i
    obtain⟨i2,aC,i3,i4⟩:=he N.1;obtain⟨W,ai,d2,ak,al⟩:=O.loop (l++[q.1]) a0 q.2 p (cf.to v (λy=>(af y).1) ae) (λi=>by
     obtain⟨j,M,d,G,z⟩:=af i;refine⟨by rw[KJ];omega,max d aC,by rw[j.o];exact tp G i3,λx u=> ?_⟩;rcases List.mem_append.1 u with u|u
     ·exact(i4 x u).more ae
     ·simp only[List.mem_cons,List.not_mem_nil,or_false]at u;subst u;exact z.more ae) g2 aF
    have j:=(af W.f).1;exact⟨(j.trans W).less ae,ai,d2,by rw[<-j.o];exact ak,al⟩
  ·intro s p v h aF;rw[hb]at h;obtain⟨q,g1,g2⟩:=gG h;cases g2;have key:cf E s q.2 2/\(e9 q.1:Int)<=400*(q.2.at_-s.at_)/\∃d:Nat,s.bk+d<=50/\ez d q.1:=by
    have i:q.2.an=0:=aF;clear aF;cases ad:(aV T s [118,97,114]||aV T s [108,101,116])with
    |true=>
     rw[ad,aS]at g1;have m:cf E s (aw s) 1:=by
      rcases Bool.or_eq_true_iff.1 ad with u|u<;>exact gJ ay (v (e5 u).1) u
     have w:=m.hq v ae;have S:=m.a;have go:=m.o;have t1:=λi=>A_ ay w i
     have it:c_ E (dd T (aw s)).2:=cf.to w (λy=>(t1 y).2.2) ae;cases H:(aj T s.at_).text==[108,101,116]with
     |true=>
      rw[H,aS]at g1;cases g1;have aq:=λi=>fA ay (x:=[61]) it i
      have au:c_ E (bh T [61] (dd T (aw s)).2):=cf.to it (λy=>(aq y).2.2) ae;have av:=λi=>p8 ay L au i
      have F:c_ E (bJ T (bh T [61] (dd T (aw s)).2)).2:=cf.to au (λy=>(av y).1) ae;obtain⟨-,-,eI⟩:=fA ay (x:=[59]) F i;obtain⟨j,M,d,G,z⟩:=av eI.f;obtain⟨-,-,aa⟩:=aq j.f;obtain⟨Q,n2,P⟩:=t1 aa.f;have ab:=eI.a;have ax:=j.a;have aJ:=aa.a;have aL:=aa.o;have aE:=P.a;have no:=P.o;have:=u3 (a:={kind:=2,name:=(dd T (aw s)).1.1,b4:=(dd T (aw s)).1.2.1,cy:=(dd T (aw s)).1.2.2}) (e:=(bJ T (bh T [61] (dd T (aw s)).2)).1) (by have:=fP Q;have:=ib n2;simp;omega);simp only[kE];exact⟨((((m.trans P).trans aa).trans j).trans eI).less ae,ae,d,ae,.lets Q n2 z⟩
     |false=>
      rw[H,aN]at g1;cases g1;obtain⟨-,-,eI⟩:=fA ay (x:=[59]) it i;obtain⟨Q,n2,P⟩:=t1 eI.f;have ab:=eI.a;have aE:=P.a;have ag:=(v m.f).d;have:=KI (a:={kind:=1,name:=(dd T (aw s)).1.1,b4:=(dd T (aw s)).1.2.1,cy:=(dd T (aw s)).1.2.2}) (by have:=fP Q;have:=ib n2;simp;omega);simp only[ko];exact⟨((m.trans P).trans eI).less ae,ae,0,by simpa using ag,.var Q n2⟩
    |false=>
     rw[ad,aN]at g1;cases H:aV T s [105,102]with
     |true=>
      rw[H,aS]at g1;have m:=gJ ay (v (e5 H).1) H;have w:=m.hq v ae;have S:=m.a;have go:=m.o;have av:=λi=>p8 ay L w i
      have F:c_ E (bJ T (aw s)).2:=cf.to w (λy=>(av y).1) ae;obtain⟨b,g3,g4⟩:=gG g1;have am:=λi=>O.block _ b F g3 i
      cases B:aV T b.2 [101,108,115,101]with
      |true=>
       rw[B,aS]at g4;obtain⟨c,g5,g6⟩:=gG g4;cases g6;have ao:=am (e5 B).1;have ar:c_ E b.2:=ao.1.hq F ae;have V:=gJ ay (ar (e5 B).1) B;obtain⟨m1,m2,d2,m3,m4⟩:=O.block _ c (V.hq ar ae) g5 i;obtain⟨A,az,d1,ea,gi⟩:=ao;obtain⟨j,M,d,G,z⟩:=av A.f;have:=Bc (a:={kind:=5}) (e:=(bJ T (aw s)).1) (b:=b.1) (c:=c.1) (by simp);have aT:=j.a;have a2:=A.a;have a3:=V.a;have a4:=m1.a;have bO:=j.o;have b2:=A.o;have cw:=V.o;refine⟨((((m.trans j).trans A).trans V).trans m1).less ae,by(try simp only);omega,max (d-1) (max d1 d2)+1,ae,.ifs (z.more ae) (λx u=>(gi x u).more ae) (λx u=>(m4 x u).more ae)⟩
      |false=>
       rw[B,aN]at g4;cases g4;obtain⟨A,az,d1,ea,gi⟩:=am i;obtain⟨j,M,d,G,z⟩:=av A.f;have:=Bc (a:={kind:=5}) (e:=(bJ T (aw s)).1) (b:=b.1) (c:=[]) (by simp);have aT:=j.a;have a2:=A.a;have bO:=j.o;have aD:ec []=0:=rfl;refine⟨((m.trans j).trans A).less ae,by(try simp only);omega,max (d-1) d1+1,ae,.ifs (z.more ae) (λx u=>(gi x u).more ae) (λx u=>by cases u)⟩
     |false=>
      rw[H,aN]at g1;cases B:aV T s [119,104,105,108,101]with
      |true=>
       rw[B,aS]at g1;have m:=gJ ay (v (e5 B).1) B;have w:=m.hq v ae;have S:=m.a;have go:=m.o;have av:=λi=>p8 ay L w i
       have F:c_ E (bJ T (aw s)).2:=cf.to w (λy=>(av y).1) ae;obtain⟨b,g3,g4⟩:=gG g1;cases g4;obtain⟨A,az,d1,ea,gi⟩:=O.block _ b F g3 i;obtain⟨j,M,d,G,z⟩:=av A.f;have:=Bc (a:={kind:=6}) (e:=(bJ T (aw s)).1) (b:=b.1) (c:=[]) (by simp);have aT:=j.a;have a2:=A.a;have bO:=j.o;have aD:ec []=0:=rfl;refine⟨((m.trans j).trans A).less ae,by(try simp only);omega,max (d-1) d1+1,ae,.while (z.more ae) (λx u=>(gi x u).more ae)⟩
      |false=>
       rw[B,aN]at g1;cases R:aV T s [114,101,116,117,114,110]with
       |true=>
        rw[R,aS]at g1;have m:=gJ ay (v (e5 R).1) R;have w:=m.hq v ae;have S:=m.a;have go:=m.o;have ag:=(v m.f).d;cases g1;unfold j4 at i ⊢;cases K:aV T (aw s) [59]with
        |true=>
         rw[K,aS]at i;rw[aS];obtain⟨-,-,eI⟩:=fA ay (x:=[59]) w i;have ab:=eI.a;have:=KI (a:={kind:=7}) (by simp);exact⟨(m.trans eI).less ae,by(try simp only);omega,0,by simpa using ag,.my⟩
        |false=>
         rw[K,aN]at i;rw[aN];have av:=λi=>p8 ay L w i
         have F:c_ E (bJ T (aw s)).2:=cf.to w (λy=>(av y).1) ae;obtain⟨-,-,eI⟩:=fA ay (x:=[59]) F i;obtain⟨j,M,d,G,z⟩:=av eI.f;have ab:=eI.a;have ax:=j.a;have:=u3 (a:={kind:=7}) (e:=(bJ T (aw s)).1) (by simp);exact⟨((m.trans j).trans eI).less ae,by(try simp only);omega,d,ae,.mz z⟩
       |false=>
        rw[R,aN]at g1;cases K:aV T s [112,114,105,110,116]with
        |true=>
         rw[K,aS]at g1;have m:=gJ ay (v (e5 K).1) K;have w:=m.hq v ae;have S:=m.a;have go:=m.o;cases g1;unfold lI at i ⊢;have av:=λi=>p8 ay L w i
         have F:c_ E (bJ T (aw s)).2:=cf.to w (λy=>(av y).1) ae;obtain⟨-,-,eI⟩:=fA ay (x:=[59]) F i;obtain⟨j,M,d,G,z⟩:=av eI.f;have ab:=eI.a;have ax:=j.a;have:=u3 (a:={kind:=8}) (e:=(bJ T (aw s)).1) (by simp);exact⟨((m.trans j).trans eI).less ae,by(try simp only);omega,d,ae,.print z⟩
        |false=>
         rw[K,aN]at g1;cases g1;exact Qi ay L v i
   obtain⟨W,ai,d,ak,al⟩:=key;exact⟨W,by rw[Vh];exact ai,d,ak,al.at _⟩
end
def Tok.aQ(t:Tok):Tok:=⟨t.kind,t.text,t.n,0⟩
def dy(T:List Tok):List Tok:=T.map Tok.aQ
def al.aQ(s:al):al:=⟨s.at_,s.bk,s.an,0⟩
def bU.aQ(a:bU):bU:={a with pos:=0}
mutual
def aE.aQ:aE->aE
 | .mk a ks=> .mk a.aQ (dX ks)
def dX:List aE->List aE
 |[]=>[]
 |e::es=>e.aQ::dX es
end
def b0.aQ(a:b0):b0:={a with pos:=0}
mutual
def bf.aQ:bf->bf
 | .mk a es b c=> .mk a.aQ (dX es) (eD b) (eD c)
def eD:List bf->List bf
 |[]=>[]
 |e::es=>e.aQ::eD es
end
def Na(l m:List aE):dX (l++m)=dX l++dX m:=by
 induction l with
 |nil=>rfl
 |cons e l a=>simp only[List.cons_append,dX,a]
def Nc(l m:List bf):eD (l++m)=eD l++eD m:=by
 induction l with
 |nil=>rfl
 |cons e l a=>simp only[List.cons_append,eD,a]
def Nb(e:aE):dX [e]=[e.aQ]:=rfl
def Nf(e:bf):eD [e]=[e.aQ]:=rfl
def ft{α:Type}(f:α->α)(x:ad α):ad α:=x.map λp=>(f p.1,p.2.aQ)
section
variable {α β:Type}{f:α->α}{h:β->β}
def iz(p:α×al):ft f (D p)=D (f p.1,p.2.aQ):=rfl
def kT(c:Bool)(a b:ad α):ft f (bif c then a else b)=bif c then ft f a else ft f b:=by cases c<;>rfl
def iS(x:ad α)(g:α×al->ad β):ft h (x.bind g)=x.bind λp=>ft h (g p):=by cases x<;>rfl
def iR(x:ad α)(g:α×al->ad β):(ft f x).bind g=x.bind λp=>g (f p.1,p.2.aQ):=by cases x<;>rfl
def N0{d e:Type}(c:Bool)(a b:d×e):(bif c then a else b).1=bif c then a.1 else b.1:=by cases c<;>rfl
def Uw{d e:Type}(c:Bool)(a b:d×e):(bif c then a else b).2=bif c then a.2 else b.2:=by cases c<;>rfl
def p7(c:Bool)(a b:al):(bif c then a else b).aQ=bif c then a.aQ else b.aQ:=by cases c<;>rfl
def Uv(c:Bool)(a b:bf):(bif c then a else b).aQ=bif c then a.aQ else b.aQ:=by cases c<;>rfl
end
section
variable (T:List Tok)(s:al)
def jS(i:Int):aj (dy T) i=(aj T i).aQ:=by
 unfold aj dy;rw[List.length_map];split
 ·rfl
 ·rw[List.getElem?_map];cases T[i.toNat]? <;>rfl
def bW(t:Tok):t.aQ.kind=t.kind:=rfl
def eG(t:Tok):t.aQ.text=t.text:=rfl
def uY(t:Tok):t.aQ.n=t.n:=rfl
def pI(t:Tok):t.aQ.pos=0:=rfl
def jR:s.aQ.at_=s.at_:=rfl
def Ux:s.aQ.bk=s.bk:=rfl
def n8:s.aQ.an=s.an:=rfl
def OA(k:Int)(x:aC):bz (dy T) s.aQ k x=bz T s k x:=by unfold bz;rw[jR,n8,jS,bW,eG]
def mf(e:Int):bQ (dy T) e s.aQ=(bQ T e s).aQ:=by
 unfold bQ;rw[n8];split
 ·rw[jS,jR];rfl
 ·rfl
def kB:aw s.aQ=(aw s).aQ:=rfl
def Hq:dU s.aQ=(dU s).aQ:=rfl
def Ox:e0 s.aQ=(e0 s).aQ:=rfl
def gd(x:aC):aV (dy T) s.aQ x=aV T s x:=OA T s _ x
def jb(x:aC):bh (dy T) x s.aQ=(bh T x s).aQ:=by
 unfold bh;rw[gd,kB,mf,p7]
def sd(x:aC):cB (dy T) x s.aQ=(cB T x s).aQ:=by
 unfold cB;rw[gd,Ux,mf,jb,Ox,p7]
def rF(x:aC):dh (dy T) x s.aQ=(dh T x s).aQ:=by unfold dh;rw[jb,Hq]
def qj:bA (dy T) s.aQ=((bA T s).1,(bA T s).2.aQ):=by
 unfold bA;rw[n8,jR,jS,bW,eG,kB,mf];cases(s.an==0&&(aj T s.at_).kind==1)<;>rfl
def AS(x:aC):∀(n:Nat) (s:al),takeN (dy T) x n s.aQ=(takeN T x n s).aQ
 |0,_=>rfl
 |n+1,s=>by rw[takeN,takeN,jb,AS x n]
def Hf:∀(n:Nat) (d:Int) (s:al),fb (dy T) n d s.aQ=match fb T n d s with
  | .inl p=> .inl (p.1,p.2.aQ)
  | .inr s'=> .inr s'.aQ
 |0,d,s=>by
  rw[fb,fb,gd,mf];cases aV T s [91]<;>rfl
 |n+1,d,s=>by
  rw[fb,fb,gd,kB,Hf n];cases aV T s [91]<;>rfl
def PL(d:Int):fz (dy T) d s.aQ=((fz T d s).1,(fz T d s).2.aQ):=by
 unfold fz;rw[gd,gd,jR,jS,eG,kB,AS,qj,AS];cases(aV T s [105,110,116]||aV T s [98,111,111,108])<;>rfl
def we:cM (dy T) s.aQ=((cM T s).1,(cM T s).2.aQ):=by
 unfold cM;rw[Hf];cases fb T 3 0 s with
 |inl p=>exact PL T p.2 p.1
 |inr s'=>rfl
def O8(lev:Nat)(t:Tok):eM lev t.aQ=eM lev t:=rfl
def lv(a:bU)(ks:List aE):(aE.mk a ks).aQ= .mk a.aQ (dX ks):=by rw[aE.aQ]
def ik(a:b0)(es:List aE)(b c:List bf):(bf.mk a es b c).aQ= .mk a.aQ (dX es) (eD b) (eD c):=by rw[bf.aQ]
structure Lb(n:Nat):Prop where
 aq:∀lev s,dF (dy T) n lev s.aQ=ft aE.aQ (dF T n lev s)
 aH:∀lev e s,fV (dy T) n lev (aE.aQ e) s.aQ=ft aE.aQ (fV T n lev e s)
 bu:∀s,gj (dy T) n s.aQ=ft aE.aQ (gj T n s)
 cq:∀k s,hZ (dy T) n k s.aQ=ft aE.aQ (hZ T n k s)
 er:∀e s,eU (dy T) n (aE.aQ e) s.aQ=ft aE.aQ (eU T n e s)
 mc:∀s,e4 (dy T) n s.aQ=ft aE.aQ (e4 T n s)
 p2:∀s,dY (dy T) n s.aQ=ft aE.aQ (dY T n s)
 nr:∀p s,gb (dy T) n 0 s.aQ=ft aE.aQ (gb T n p s)
 ns:∀s,fN (dy T) n s.aQ=ft dX (fN T n s)
 tx:∀l s,fi (dy T) n (dX l) s.aQ=ft dX (fi T n l s)
def C9:∀n,Lb T n
 |0=>⟨λ_ _=>rfl,λ_ _ _=>rfl,λ_=>rfl,λ_ _=>rfl,λ_ _=>rfl,λ_=>rfl,λ_=>rfl,λ_ _=>rfl,λ_=>rfl,λ_ _=>rfl⟩
 |n+1=>by
  have i:=C9 n;refine⟨λlev s=> ?_,λlev e s=> ?_,λs=> ?_,λk s=> ?_,λe s=> ?_,λs=> ?_,λs=> ?_,λp s=> ?_,λs=> ?_,λl s=> ?_⟩
  ·rw[dF,dF];split
   ·exact i.bu s
   ·simp only[i.aq,iR,iS,i.aH]
  ·rw[fV,fV];simp only[n8,jR,jS,O8,kB,i.aq,iR,kT,iS,iz,pI,<-i.aH,lv,dX,bU.aQ]
  ·rw[gj,gj];simp only[gd,i.cq,i.p2,iR,kT,iS,i.er]
  ·rw[hZ,hZ];simp only[jR,jS,eG,sd,i.aq,iR,iS,iz,pI,Hq,lv,dX,bU.aQ]
  ·rw[eU,eU];simp only[gd,jR,jS,kB,qj,sd,rF,i.aq,iR,kT,iS,iz,pI,<-i.er,lv,dX,bU.aQ]
  ·rw[e4,e4];simp only[sd,rF,i.aq,iR,iS,iz]
  ·rw[dY,dY];simp only[n8,gd,jR,jS,bW,eG,uY,pI,kB,qj,we,sd,rF,i.mc,<-i.nr (aj T s.at_).pos,i.ns,iR,kT,iS,iz,lv,dX,bU.aQ]
  ·rw[gb,gb];simp only[gd,kB,qj,we,jb,i.mc,iR,kT,iS,iz,lv,dX,bU.aQ]
  ·rw[fN,fN];simp only[gd,sd,rF,i.aq,iR,kT,iS,iz,<-i.tx,dX]
  ·rw[fi,fi];simp only[gd,kB,rF,i.aq,iR,kT,iS,iz,<-i.tx,Na,Nb]
def rK:bJ (dy T) s.aQ=((bJ T s).1.aQ,(bJ T s).2.aQ):=by
 unfold bJ;rw[(C9 T 800000000).aq];cases dF T 800000000 0 s<;>rfl
def A8:dd (dy T) s.aQ=((dd T s).1,(dd T s).2.aQ):=by
 unfold dd;simp only[qj,jb,we]
def r0(e:aE):e.aQ.kind=e.kind:=by cases e;rfl
def PB(e:aE):e.aQ.name=e.name:=by cases e;rfl
def Nj(e:aE):gn e.aQ=gn e:=by unfold gn;rw[r0]
def M4:ko (dy T) s.aQ=((ko T s).1.aQ,(ko T s).2.aQ):=by
 unfold ko;simp only[A8,jb,ik,b0.aQ,dX,eD]
def O6:kE (dy T) s.aQ=((kE T s).1.aQ,(kE T s).2.aQ):=by
 unfold kE;simp only[A8,jb,rK,ik,b0.aQ,dX,eD]
def QP:j4 (dy T) s.aQ=((j4 T s).1.aQ,(j4 T s).2.aQ):=by
 unfold j4;rw[gd];cases aV T s [59]<;>simp only[aS,aN,jb,rK,ik,b0.aQ,dX,eD]
def Ql:lI (dy T) s.aQ=((lI T s).1.aQ,(lI T s).2.aQ):=by
 unfold lI;simp only[jb,rK,ik,b0.aQ,dX,eD]
def M_(e:aE):hp (dy T) e.aQ s.aQ=(hp T e s).aQ:=by
 unfold hp;rw[Nj,mf,<-p7,jb]
def Ua(e:aE):mY (dy T) e.aQ s.aQ=((mY T e s).1.aQ,(mY T e s).2.aQ):=by
 unfold mY;rw[r0];cases(e.kind==4)<;>simp only[aS,aN,M_,rK,jb,PB,ik,b0.aQ,dX,eD]
def Qh:fW (dy T) s.aQ=((fW T s).1.aQ,(fW T s).2.aQ):=by
 unfold fW;simp only[rK,gd];cases aV T (bJ T s).2 [61]with
 |true=>simp only[aS,Ua]
 |false=>
  simp only[aN,r0,mf,ik,b0.aQ,dX,eD];rw[<-p7,jb]
def Mn(m:bf)(p:Int):(m.at p).aQ=m.aQ.at 0:=by cases m;rfl
structure La(n:Nat):Prop where
 b:∀s,ej (dy T) n s.aQ=ft eD (ej T n s)
 l:∀l s,fH (dy T) n (eD l) s.aQ=ft eD (fH T n l s)
 s:∀s,hb (dy T) n s.aQ=ft bf.aQ (hb T n s)
def C8:∀n,La T n
 |0=>⟨λ_=>rfl,λ_ _=>rfl,λ_=>rfl⟩
 |n+1=>by
  have i:=C8 n;refine⟨λs=> ?_,λl s=> ?_,λs=> ?_⟩
  ·rw[ej,ej];have:=i.l [] (cB T [123] s);simp only[eD]at this;simp only[sd,this,iR,iS,iz,rF]
  ·rw[fH,fH];simp only[n8,gd,i.s,iR,kT,iS,iz,<-i.l,Nc,Nf]
  ·rw[hb,hb];simp only[gd,jR,jS,eG,pI,kB,O6,M4,rK,i.b,QP,Ql,Qh];rw[iS];simp only[iz,Mn];rw[show∀(x:ad bf),(x.bind λp=>D (p.1.aQ.at 0,p.2.aQ))=(ft bf.aQ x).bind λp=>D (p.1.at 0,p.2)fromλx=>(iR (f:=bf.aQ) x λp=>D (p.1.at 0,p.2)).symm]
   congr 1
   cases aV T s [118,97,114]||aV T s [108,101,116]with
   |true=>cases(aj T (aw s).at_).text==[108,101,116]<;>simp only[aS,aN,iz,N0,Uw,p7,Uv]<;>cases(aj T s.at_).text==[108,101,116]<;>rfl
   |false=>
    simp only[aN,kT,iS,iR,iz,gd,kB,i.b,ik,b0.aQ,dX,eD]
end
def bB.aQ(p:bB):bB:={p with pos:=0}
def ep.aQ(r:ep):ep:=⟨r.name,r.fields.map bB.aQ,0⟩
def Fn.aQ(f:Fn):Fn:=⟨f.name,f.params.map bB.aQ,f.has,f.c4,f.rd,eD f.body,0⟩
def bE.aQ(g:bE):bE:=⟨g.b7.map ep.aQ,g.globals.map bB.aQ,g.funcs.map Fn.aQ⟩
section
variable (T:List Tok)(s:al)
def zT:c7 (dy T) s.aQ=((c7 T s).1.aQ,(c7 T s).2.aQ):=by
 unfold c7;simp only[A8,jR,jS,pI,bB.aQ]
def Ei:∀(n:Nat) (l:List bB) (s:al),gp (dy T) n (l.map bB.aQ) s.aQ=ft (List.map bB.aQ) (gp T n l s)
 |0,_,_=>rfl
 |n+1,l,s=>by
  rw[gp,gp];simp only[n8,jR,jS,bW,gd,List.length_map,mf,zT,jb,kT,iz,<-Ei n,List.map_append,List.map_cons,List.map_nil]
def QD(n:Nat):iG (dy T) n s.aQ=ft ep.aQ (iG T n s):=by
 unfold iG;have:=Ei T n [] (bh T [123] (bA T s).2);simp only[List.map_nil]at this;simp only[qj,jb,this,iR,iS,iz,jR,jS,pI,ep.aQ]
def MV:iy (dy T) s.aQ=(iy T s).aQ:=by
 unfold iy;simp only[jb,gd,mf,p7]
def HD:∀(n:Nat) (l:List bB) (s:al),e6 (dy T) n (l.map bB.aQ) s.aQ=ft (List.map bB.aQ) (e6 T n l s)
 |0,_,_=>rfl
 |n+1,l,s=>by
  rw[e6,e6];simp only[n8,jR,jS,bW,gd,List.length_map,mf,zT,MV,<-p7,kT,iz,<-HD n,List.map_append,List.map_cons,List.map_nil]
def QL:e7 (dy T) s.aQ=((e7 T s).1,(e7 T s).2.aQ):=by
 unfold e7;rw[gd,kB,we];cases aV T s [58]<;>rfl
def N3(n:Nat):iB (dy T) n s.aQ=ft Fn.aQ (iB T n s):=by
 unfold iB;have:=HD T n [] (bh T [40] (bA T s).2);simp only[List.map_nil]at this;simp only[qj,jb,this,QL,(C8 T n).b,iR,iS,iz,jR,jS,pI,Fn.aQ]
def OI:isRec (dy T) s.aQ=isRec T s:=gd T s _
def OE:iT (dy T) s.aQ=iT T s:=gd T s _
def OD:isFun (dy T) s.aQ=isFun T s:=gd T s _
def HU(N:Nat):∀(n:Nat) (g:bE) (s:al),eh (dy T) N n g.aQ s.aQ=ft bE.aQ (eh T N n g s)
 |0,_,_=>rfl
 |n+1,g,s=>by
  rw[eh,eh];simp only[kT,iS,iz,<-HU N n];simp only[n8,jR,jS,bW,OI,OE,OD,mf,kB,QD,N3,zT,jb,iR,bE.aQ,List.length_map,List.map_append,List.map_cons,List.map_nil]
