/-
  Texts of one proof, laid together: T1 Sq Pa Pb Pc Pd Ea Eb.
-/
import Derived.Test.YtghmbpmaafnodaaDoorMG
set_option linter.unusedVariables false
set_option linter.unusedSimpArgs false
set_option linter.defProp false
open Option renaming some→D,none→Z
open Bool renaming true→X,false→U
namespace Go.Proofs.YtghmbpmaafnodaaDoor
open Go.b9
structure bZ where
 kind:Int
 name:aB:=[]
 cf:aB:=[]
 c3:Int:=0
 pos:Int:=0
 ref:Int:=0
inductive bB where
 |mk (a:bZ) (es:List aJ) (body els:List bB)
def bB.zero:bB:= .mk {kind:=0} [] [] []
def bB.at(p:Int):bB->bB
 | .mk a es b c=> .mk {a with pos:=p} es b c
def aJ.kind:aJ->Int
 | .mk a _=>a.kind
def aJ.name:aJ->aB
 | .mk a _=>a.name
def ig(e:aJ):Bool:=e.kind != 4&&(e.kind != 5&&e.kind != 6)
def kL(T:List Tok)(e:aJ)(s:aq):aq:=(eo T [61] (bif ig e then cE T 2 s else s)).2
def bz(T:List Tok)(s:aq):aJ×aq:=match ej T 800000000 0 s with
 |some p=>p
 |none=>(.zero,s)
def d_(T:List Tok)(s:aq):(aB×aB×Int)×aq:=(((bp T s).1,(b_ T (bj T [58] (bp T s).2)).1),(b_ T (bj T [58] (bp T s).2)).2)
def pW(T:List Tok)(s:aq):bB×aq:=(.mk {kind:=1,name:=(d_ T s).1.1,cf:=(d_ T s).1.2.1,c3:=(d_ T s).1.2.2} [] [] [],bj T [59] (d_ T s).2)
def qi(T:List Tok)(s:aq):bB×aq:=(.mk {kind:=2,name:=(d_ T s).1.1,cf:=(d_ T s).1.2.1,c3:=(d_ T s).1.2.2} [(bz T (bj T [61] (d_ T s).2)).1] [] [],bj T [59] (bz T (bj T [61] (d_ T s).2)).2)
def vM(T:List Tok)(s:aq):bB×aq:=bif aW T s [59]then(.mk {kind:=7} [] [] [],bj T [59] s)else(.mk {kind:=7} [(bz T s).1] [] [],bj T [59] (bz T s).2)
def vE(T:List Tok)(s:aq):bB×aq:=(.mk {kind:=8} [(bz T s).1] [] [],bj T [59] (bz T s).2)
def hO(T:List Tok)(e:aJ)(s:aq):aq:=bj T [61] (bif ig e then cE T 2 s else s)
def wb(T:List Tok)(e:aJ)(s:aq):bB×aq:=(bif e.kind==4 then .mk {kind:=3,name:=e.name} [(bz T (hO T e s)).1] [] []else .mk {kind:=4} [e,(bz T (hO T e s)).1] [] [],bj T [59] (bz T (hO T e s)).2)
def kd(T:List Tok)(s:aq):bB×aq:=bif aW T (bz T s).2 [61]then wb T (bz T s).1 (bz T s).2 else(.mk {kind:=9} [(bz T s).1] [] [],bj T [59] (bif aW T (bz T s).2 [59]&&(bz T s).1.kind != 7 then cE T 2 (bz T s).2 else(bz T s).2))
mutual
def i_(T:List Tok):Nat->aq->ae (List bB)
 |0,_=>Z
 |n+1,s=>(mO T n [] (cP T [123] s)).bind λp=>D (p.1,dn T [125] p.2)
def mO(T:List Tok):Nat->List bB->aq->ae (List bB)
 |0,_,_=>Z
 |n+1,l,s=>bif s.aD==0&& !aW T s [125]then(pf T n s).bind λp=>mO T n (l++[p.1]) p.2 else D (l,s)
def pf(T:List Tok):Nat->aq->ae bB
 |0,_=>Z
 |n+1,s=>(bif aW T s [118,97,114]||aW T s [108,101,116]then D (bif (ao T s.at_).text==[108,101,116]then qi T (aC s)else pW T (aC s))
  else bif aW T s [105,102]then(i_ T n (bz T (aC s)).2).bind λb=>bif aW T b.2 [101,108,115,101]then
   (i_ T n (aC b.2)).bind λc=>D (.mk {kind:=5} [(bz T (aC s)).1] b.1 c.1,c.2)else D (.mk {kind:=5} [(bz T (aC s)).1] b.1 [],b.2)
  else bif aW T s [119,104,105,108,101]then(i_ T n (bz T (aC s)).2).bind λb=>D (.mk {kind:=6} [(bz T (aC s)).1] b.1 [],b.2)
  else bif aW T s [114,101,116,117,114,110]then D (vM T (aC s))
  else bif aW T s [112,114,105,110,116]then D (vE T (aC s))
  else D (kd T s)).bind λp=>D (p.1.at (ao T s.at_).pos,p.2)
end
structure b5 where
 name:aB
 cf:aB
 c3:Int
 pos:Int
structure e3 where
 name:aB
 fields:List b5
 pos:Int
structure Fn where
 name:aB
 params:List b5
 has:Bool
 dF:aB
 rd:Int
 body:List bB
 pos:Int
structure dm where
 c_:List e3
 globals:List b5
 funcs:List Fn
def dm.none:dm:=⟨[],[],[]⟩
def dD(T:List Tok)(s:aq):b5×aq:=(⟨(d_ T s).1.1,(d_ T s).1.2.1,(d_ T s).1.2.2,(ao T s.at_).pos⟩,(d_ T s).2)
def oh(T:List Tok):Nat->List b5->aq->ae (List b5)
 |0,_,_=>Z
 |n+1,l,s=>bif s.aD==0&& !aW T s [125]then
  (bif (ao T s.at_).kind==1&&l.length==8 then D (l,cE T 4 s)else oh T n (l++[(dD T s).1]) (bj T [59] (dD T s).2))
  else D (l,s)
def mZ(T:List Tok)(n:Nat)(s:aq):ae e3:=(oh T n [] (bj T [123] (bp T s).2)).bind λp=>D (⟨(bp T s).1,p.1,(ao T s.at_).pos⟩,bj T [125] p.2)
def lB(T:List Tok)(s:aq):aq:=bif aW T (bj T [44] s) [41]then cE T 2 (bj T [44] s)else bj T [44] s
def oI(T:List Tok):Nat->List b5->aq->ae (List b5)
 |0,_,_=>Z
 |n+1,l,s=>bif s.aD==0&& !aW T s [41]then
  (bif (ao T s.at_).kind==1&&l.length==6 then D (l,cE T 4 s)else
   oI T n (l++[(dD T s).1]) (bif aW T (dD T s).2 [41]then(dD T s).2 else lB T (dD T s).2))
  else D (l,s)
def gz(T:List Tok)(s:aq):(Bool×aB×Int)×aq:=bif aW T s [58]then((X,(b_ T (aC s)).1),(b_ T (aC s)).2)else((U,[],0),s)
def mI(T:List Tok)(n:Nat)(s:aq):ae Fn:=(oI T n [] (bj T [40] (bp T s).2)).bind λp=>(i_ T n (gz T (bj T [41] p.2)).2).bind λb=>D (⟨(bp T s).1,p.1,(gz T (bj T [41] p.2)).1.1,(gz T (bj T [41] p.2)).1.2.1,(gz T (bj T [41] p.2)).1.2.2,b.1,(ao T s.at_).pos⟩,b.2)
def isRec(T:List Tok)(s:aq):Bool:=aW T s [114,101,99,111,114,100]
def jF(T:List Tok)(s:aq):Bool:=aW T s [103,108,111,98,97,108]
def isFun(T:List Tok)(s:aq):Bool:=aW T s [102,117,110,99]
def hg(T:List Tok)(N:Nat):Nat->dm->aq->ae dm
 |0,_,_=>Z
 |n+1,g,s=>bif s.aD==0&&(ao T s.at_).kind != 0 then
  (bif (isRec T s&&g.c_.length==12)||((jF T s&&g.globals.length==8)||(isFun T s&&g.funcs.length==16))then hg T N n g (cE T 4 s)
  else bif isRec T s then(mZ T N (aC s)).bind λp=>hg T N n {g with c_:=g.c_++[p.1]} p.2
  else bif jF T s then hg T N n {g with globals:=g.globals++[(dD T (aC s)).1]} (bj T [59] (dD T (aC s)).2)
  else bif isFun T s then(mI T N (aC s)).bind λp=>hg T N n {g with funcs:=g.funcs++[p.1]} p.2
  else hg T N n g (cE T 2 s))
  else D (g,s)
def vF(g:dm)(s:aq):dm×Int×Int:=if s.aD=0 then(g,0,0)else(.none,s.aD,s.cO)
def gj:Nat->Nat->aB->aB
 |0,_,a=>a
 |f+1,n,a=>if n/10=0 then UInt8.ofNat (48+n%10)::a else gj f (n/10) (UInt8.ofNat (48+n%10)::a)
def gE(t:Tok):aB:=bif t.kind==2 then gj 20 t.n.toNat []else t.text
def h_(t:Tok):Prop:=(t.kind=1/\t.n=0/\dQ t.text=X)\/(t.kind=3/\t.n=0/\e1 t.text=X)\/(t.kind=2/\t.text=[]/\0<=t.n/\t.n<=9223372036854775807)\/(t.kind=4/\t.n=0/\(e5 t.text h4=X\/∃c,t.text=[c]/\hd c gl=X))
def kR(t:Tok)(b:UInt8):Bool:=bif t.kind==4 then(t.text.length==2|| !e5 (t.text++[b]) h4)&& !(t.text==[47]&&b==47)else !dj b&& !du b
def lM(t:Tok):aB->Bool
 |[]=>X
 |b::_=>kR t b
def sd:(10:Nat)^20=100000000000000000000:=b1
def uc(k:Nat)(h:k<10):(UInt8.ofNat (48+k)).toNat=48+k:=by
 simp only[UInt8.toNat_ofNat'];omega
def rz{c:UInt8}:du c=X↔48<=c.toNat/\c.toNat<=57:=by
 simp only[du,lC,Bool.and_eq_true,decide_eq_true_eq];omega
def By{c:UInt8}:dj c=X↔(97<=c.toNat/\c.toNat<=122)\/(65<=c.toNat/\c.toNat<=90):=by
 simp only[dj,j_,Bool.or_eq_true,Bool.and_eq_true,decide_eq_true_eq];omega
def Fe:∀(f n:Nat) (a:aB),n<10^f->0<f->n<=9223372036854775807->gV 0 (gj f n a)=gV (n:Int) a
 |0,_,_,_,d,_=>af
 |f+1,n,a,e,_,hm=>by
  rw[gj];have c:(UInt8.ofNat (48+n%10)).toNat=48+n%10:=uc _ af;split
  ·rename_i h;rw[gV,c];rw[if_neg af]
   congr 1
   omega
  ·rename_i h;have d:0<f:=by
    cases f with
    |zero=>exfalso;simp at e;omega
    |succ f=>omega
   rw[Fe f (n/10) _ (by rw[Nat.pow_succ]at e;omega) d af,gV,c];rw[if_neg af]
   congr 1
   omega
def yu:∀(f n:Nat) (a:aB),(∀c∈a,du c=X)->∀c∈gj f n a,du c=X
 |0,_,_,h=>h
 |f+1,n,a,h=>by
  have e:du (UInt8.ofNat (48+n%10))=true:=by rw[rz,uc _ af];omega
  have aX:∀c∈UInt8.ofNat (48+n%10)::a,du c=true:=by
   intro c d;rcases List.mem_cons.1 d with rfl|d
   ·exact e
   ·exact h c d
  rw[gj];split
  ·exact aX
  ·exact yu f _ _ aX
def yv:∀(f n:Nat) (a:aB),n<10^f->0<f->∃c r,gj f n a=c::r/\(c.toNat=48->n=0/\r=a)
 |0,_,_,_,i=>af
 |f+1,n,a,j,_=>by
  rw[gj];split
  ·rename_i d;refine⟨_,_,rfl,λh=> ?_⟩;rw[uc _ af]at h;exact⟨af,rfl⟩
  ·rename_i d;have i:0<f:=by
    cases f with
    |zero=>exfalso;simp at j;omega
    |succ f=>omega
   obtain⟨c,r,e,h⟩:=yv f (n/10) (UInt8.ofNat (48+n%10)::a) (by rw[Nat.pow_succ]at j;omega) i;exact⟨c,r,e,λk=>absurd (h k).1 d⟩
def yw:∀(f n:Nat) (a:aB),(gj f n a).length<=f+a.length
 |0,_,_=>by simp[gj]
 |f+1,n,a=>by
  rw[gj];split
  ·rw[List.length_cons];omega
  ·have:=yw f (n/10) (UInt8.ofNat (48+n%10)::a);rw[List.length_cons]at this;omega
def vW{d:Bool}{w:aB}(a:∀b r,w=b::r->dj b=U/\du b=U):∀x:aB,(∀c∈x,(du c||(!d&&dj c))=X)->runN d (x++w)=x.length
 |[],_=>by
  rcases w with _|⟨b,r⟩
  ·rfl
  ·obtain⟨e,i⟩:=a b r rfl;simp[runN,e,i]
 |c::x,h=>by
  rw[List.cons_append,runN,h c (List.mem_cons_self),aU,vW a x (λc j=>h c (List.mem_cons_of_mem _ j)),List.length_cons]
def DA{d:Bool}:∀s:aB,∀c∈s.take (runN d s),(du c||(!d&&dj c))=X
 |[],_,h=>by simp[runN]at h
 |c::r,x,h=>by
  rw[runN]at h;cases a:(du c||(!d&&dj c))with
  |false=>rw[a]at h;simp at h
  |true=>
   rw[a]at h;simp only[aU,List.take_succ_cons,List.mem_cons]at h;rcases h with rfl|h
   ·exact a
   ·exact DA r x h
def Fc:∀(l:aB) (a v:Int),(∀c∈l,du c=X)->0<=a->a<=9223372036854775807->gV a l=D v->0<=v/\v<=9223372036854775807
 |[],a,v,_,i,j,h=>by simp only[gV,aS]at h;omega
 |c::r,a,v,e,i,j,h=>by
  rw[gV]at h;have d:=rz.1 (e c (List.mem_cons_self));split at h
  ·cases h
  ·exact Fc r _ v (λc d=>e c (List.mem_cons_of_mem _ d)) af af h
def B_:∀(l:aB) (c:UInt8),hd c l=X->c∈l
 |[],_,h=>by simp[hd]at h
 |y::a,c,h=>by
  rw[hd]at h;rcases Bool.or_eq_true_iff.1 h with h|h
  ·have:=UInt8.toNat_inj.1 (by simpa using h);exact this▸List.mem_cons_self
  ·exact List.mem_cons_of_mem _ (B_ a c h)
def vf:∀(l:List aB) (c:aB),e5 c l=X->c∈l
 |[],_,h=>by simp[e5]at h
 |y::a,c,h=>by
  rw[e5]at h;rcases Bool.or_eq_true_iff.1 h with h|h
  ·have:y=c:=by simpa using h
   exact this▸List.mem_cons_self
  ·exact List.mem_cons_of_mem _ (vf a c h)
def xn:∀x:aB,iX x=X↔∀c∈x,(du c||(!U&&dj c))=X
 |[]=>by simp[iX]
 |c::r=>by
  have:=xn r;simp only[iX,Bool.and_eq_true,List.mem_cons,forall_eq_or_imp,this,Bool.not_false,Bool.true_and];rw[Bool.or_comm]
def Jf{s:aB}{t:Tok}{m:Nat}(h:fL s=D (t.kind,t.text,t.n,m)):h_ t:=by
 obtain⟨k,x,z,p⟩:=t;rcases s with _|⟨c,r⟩
 ·simp[fL]at h
 rw[fL]at h;cases o:dj c with
 |true=>
  rw[o,aU]at h;generalize (c::r).take (runN U (c::r))=y at*;cases hw:e1 y with
  |true=>
   rw[hw,aU]at h;simp only[aS,bT]at h;obtain⟨rfl,rfl,rfl,-⟩:=h;exact .inr (.inl ⟨rfl,rfl,hw⟩)
  |false=>
   rw[hw,aO]at h;cases e:dQ y with
   |false=>rw[e]at h;cases h
   |true=>
    rw[e,aU]at h;simp only[aS,bT]at h;obtain⟨rfl,rfl,rfl,-⟩:=h;exact .inl ⟨rfl,rfl,e⟩
 |false=>
  rw[o,aO]at h;cases l:du c with
  |true=>
   rw[l,aU]at h;have u:=DA (d:=true) (c::r);cases hw:gV 0 ((c::r).take (runN X (c::r)))with
   |none=>rw[hw]at h;cases h
   |some v=>
    rw[hw]at h;simp only at h;have A:=Fc _ 0 v (λc w=>by simpa using u c w) af af hw;cases q:((decide (1<runN X (c::r))&&c.toNat==48)||(decide (runN X (c::r)<(c::r).length)&&dj (((c::r)[runN X (c::r)]?).getD 0)))with
    |true=>rw[q]at h;cases h
    |false=>
     rw[q]at h;simp only[aO,aS,bT]at h;obtain⟨rfl,rfl,rfl,-⟩:=h;exact .inr (.inr (.inl ⟨rfl,rfl,A⟩))
  |false=>
   rw[l,aO]at h;cases az:gD (c::r)==[]with
   |true=>rw[az]at h;cases h
   |false=>
    rw[az,aO]at h;simp only[aS,bT]at h;obtain⟨rfl,rfl,rfl,-⟩:=h;refine .inr (.inr (.inr ⟨rfl,rfl,?_⟩));have a:(gD (c::r)==[])=false:=az;show e5 (gD (c::r)) h4=X\/∃d,gD (c::r)=[d]/\hd d gl=X;unfold gD at a ⊢;cases i:(decide (2<=(c::r).length)&&e5 ((c::r).take 2) h4)with
    |true=>rw[aU];exact .inl (Bool.and_eq_true_iff.1 i).2
    |false=>
     rw[i]at a;simp only[aO]at a ⊢;cases j:hd c gl with
     |false=>rw[j]at a;cases a
     |true=>exact .inr ⟨c,rfl,j⟩
def GS{c:UInt8}(h:hb c=U)(aX:c.toNat≠47)(w:aB):cw U (c::w)=0:=by
 have:(c==47)=false:=by
  rw[beq_eq_false_iff_ne];intro e;subst e;exact aX rfl
 rw[cw,h,this];rfl
def ya{c:UInt8}(h:dj c=X\/du c=X)(w:aB):cw U (c::w)=0:=by
 have:(97<=c.toNat/\c.toNat<=122)\/(65<=c.toNat/\c.toNat<=90)\/(48<=c.toNat/\c.toNat<=57):=by
  rcases h with h|h
  ·have:=By.1 h;omega
  ·have:=rz.1 h;omega
 exact GS (by simp only[hb,Bool.or_eq_false_iff,beq_eq_false_iff_ne];omega) af w
def Jh:gl.all (λc=> !dj c&& !du c&& !hb c)=true:=by decide+kernel
def NL:nQ.all (λx=>dj (x.headD 0)&&iX x&&decide (1<=x.length))=true:=by decide+kernel
def Cv{x w:aB}{b:Bool}(k:b=e1 x)(i:1<=x.length)(l:dj (x.headD 0)=X)(j:iX x=X)(m:b=X\/dQ x=X)(hw:∀b r,w=b::r->dj b=U/\du b=U):fL (x++w)=D (bif b then 3 else 1,x,0,x.length)/\cw U (x++w)=0/\x≠[]:=by
 rcases x with _|⟨c,x⟩
 ·simp at i
 have h:dj c=true:=l;have a:=vW (d:=false) hw (c::x) ((xn _).1 j);refine⟨?_,?_,by simp⟩
 ·rw[List.cons_append,fL];rw[List.cons_append]at a;simp only[h,aU];have e:(c::(x++w)).take (runN U (c::(x++w)))=c::x:=by
   rw[a,<-List.cons_append,List.take_left'];rfl
  rw[e,a,<-k];cases b with
  |true=>rfl
  |false=>rw[m.resolve_left (by simp)];rfl
 ·rw[List.cons_append];exact ya (.inl h) _
def C9{t:Tok}(h:h_ t)(w:aB)(j:lM t w=X):fL (gE t++w)=D (t.kind,t.text,t.n,(gE t).length)/\cw U (gE t++w)=0/\gE t≠[]:=by
 obtain⟨k,x,z,p⟩:=t;have i:k≠4->∀b r,w=b::r->dj b=U/\du b=false:=by
  rintro F b r rfl;have:(k==4)=false:=by simpa using F
  simpa [lM,kR,this]using j
 rcases h with⟨rfl,rfl,h⟩|⟨rfl,rfl,h⟩|⟨rfl,rfl,A,B⟩|⟨rfl,rfl,h⟩
 ·simp only at h;have e:gE ⟨1,x,0,p⟩=x:=rfl;rw[e];have aX:=h;simp only[dQ,Bool.and_eq_true,decide_eq_true_eq,Bool.not_eq_true']at aX;exact Cv (b:=false) aX.2.2.2.1.symm aX.1 aX.2.2.1 aX.2.2.2.2 (.inr h) (i b1)
 ·simp only at h;have e:gE ⟨3,x,0,p⟩=x:=rfl;rw[e];have hm:=List.all_eq_true.1 NL x (vf _ _ h);simp only[Bool.and_eq_true,decide_eq_true_eq]at hm;exact Cv (b:=true) h.symm hm.2 hm.1.1 hm.1.2 (.inl rfl) (i b1)
 ·obtain⟨n,rfl⟩:∃n:Nat,z=n:=⟨z.toNat,by simp only at A;omega⟩;have H:n<=9223372036854775807:=by simp only at B;omega
  have e:gE ⟨2,[],(n:Int),p⟩=gj 20 n []:=rfl;rw[e];have o:=yu 20 n [] (by simp);have K:=Fe 20 n [] (by rw[sd];omega) af H;obtain⟨c',cg,a,E⟩:=yv 20 n [] (by rw[sd];omega) af;generalize gj 20 n []=y at*;subst a;have l:=o c' List.mem_cons_self;have L:=rz.1 l;have G:dj c'=false:=by
   rw[<-Bool.not_eq_true,By];omega
  have i:=i b1;have m:=vW (d:=true) i (c'::cg) (λc a=>by simp[o c a]);refine⟨?_,by rw[List.cons_append];exact ya (.inr l) _,by simp⟩;rw[List.cons_append,fL];rw[List.cons_append]at m;simp only[G,l,aU,aO];have q:(c'::(cg++w)).take (runN X (c'::(cg++w)))=c'::cg:=by
   rw[m,<-List.cons_append,List.take_left'];rfl
  rw[q,K,m];simp only[gV];have u:(decide (1<(c'::cg).length)&&c'.toNat==48)=false:=by
   rw[Bool.and_eq_false_iff];by_cases a:c'.toNat=48
   ·left;rw[(E a).2];rfl
   ·right;simpa using a
  have v:(decide ((c'::cg).length<(c'::(cg++w)).length)&&dj (((c'::(cg++w))[(c'::cg).length]?).getD 0))=false:=by
   have s:(c'::(cg++w))[(c'::cg).length]? =w[0]? :=by
    rw[<-List.cons_append,List.getElem?_append_right (bf _),Nat.sub_self]
   rw[s];rcases w with _|⟨b,r⟩
   ·simp
   ·simp[(i b r rfl).1]
  rw[u,v,Bool.or_false,aO]
 ·simp only at h;have e:gE ⟨4,x,0,p⟩=x:=rfl;rw[e];rcases h with h|⟨c,rfl,h⟩
  ·have hm:=vf _ _ h;simp only[h4,List.mem_cons,List.not_mem_nil,or_false]at hm;rcases hm with rfl|rfl|rfl|rfl|rfl<;>exact⟨rfl,rfl,by simp⟩
  ·have hm:=List.all_eq_true.1 Jh c (B_ _ _ h);simp only[Bool.and_eq_true,Bool.not_eq_true']at hm;have az:gD (c::w)=[c]:=by
    unfold gD;have:(decide (2<=(c::w).length)&&e5 ((c::w).take 2) h4)=false:=by
     rcases w with _|⟨b,r⟩
     ·rfl
     ·simp only[lM,kR,beq_self_eq_true,aU,Bool.and_eq_true,Bool.or_eq_true,List.length_singleton]at j;have:=j.1.resolve_left b1;simp only[List.singleton_append,Bool.not_eq_true']at this;have e:(c::b::r).take 2=[c,b]:=rfl;rw[e,this,Bool.and_false]
    rw[this];simp[h]
   refine⟨?_,?_,by simp⟩
   ·rw[List.singleton_append,fL];simp only[hm.1.1,hm.1.2,aO,az];rfl
   ·rw[List.singleton_append,cw,hm.2,aO];have:(c==47&&w.head?==D 47)=false:=by
     rcases w with _|⟨b,r⟩
     ·simp
     ·simp only[lM,kR,beq_self_eq_true,aU,Bool.and_eq_true]at j;have:=j.2;simp only[Bool.not_eq_true',Bool.and_eq_false_iff]at this ⊢;rcases this with h|h
      ·left;simpa using h
      ·right;simpa using h
    rw[this,aO]
inductive bw where
 |t (bu:Tok)
 |b (s:aB)
def bw.nN:bw->aB
 | .t bu=>gE bu
 | .b s=>s
def flat:List bw->aB
 |[]=>[]
 |p::r=>p.nN++flat r
def dJ:List bw->List Tok
 |[]=>[]
 | .t t::r=>t::dJ r
 | .b _::r=>dJ r
def h9:List bw->Prop
 |[]=>True
 | .t t::r=>h_ t/\lM t (flat r)=X/\h9 r
 | .b s::r=>s.all hb=X/\h9 r
def lO:List bw->Nat->List Tok
 |[],p=>[⟨0,[],0,p⟩]
 | .t t::r,p=>⟨t.kind,t.text,t.n,p⟩::lO r (p+(gE t).length)
 | .b s::r,p=>lO r (p+s.length)
def c2:∀a b:List bw,flat (a++b)=flat a++flat b
 |[],_=>rfl
 |p::r,b=>by rw[List.cons_append,flat,c2 r b,flat,List.append_assoc]
def s7:∀a b:List bw,dJ (a++b)=dJ a++dJ b
 |[],_=>rfl
 | .t t::r,b=>by rw[List.cons_append,dJ,s7 r b,dJ,List.cons_append]
 | .b s::r,b=>by rw[List.cons_append,dJ,s7 r b,dJ]
def yb:∀(s w:aB),s.all hb=X->cw U (s++w)=s.length+cw U w
 |[],w,_=>by simp
 |c::s,w,h=>by
  simp only[List.all_cons,Bool.and_eq_true]at h;rw[List.cons_append,cw,h.1,aU,yb s w h.2,List.length_cons];omega
def u_:∀(a:List bw) (n p:Nat),h9 a->(dJ a).length<n->fr n ((flat a).drop (cw U (flat a))) (p+cw U (flat a))= .inr (lO a p)
 |_,0,_,_,h=>af
 |[],n+1,p,_,_=>rfl
 | .b s::r,n+1,p,h,d=>by
  rw[h9]at h;have o:=yb s (flat r) h.1;have i:=u_ r (n+1) (p+s.length) h.2 d;rw[flat,bw.nN,o,<-List.drop_drop,List.drop_left',<-Nat.add_assoc]
  ·exact i
  ·rfl
 | .t t::r,n+1,p,h,d=>by
  rw[h9]at h;obtain⟨j,k,m⟩:=C9 h.1 (flat r) h.2.1;have i:=u_ r n (p+(gE t).length) h.2.2 (by simpa [dJ]using d);have l:cw U (flat (.t t::r))=0:=k;rw[l,List.drop_zero,Nat.add_zero];show fr (n+1) (gE t++flat r) p=_;rcases e:gE t++flat r with _|⟨c,x⟩
  ·exact absurd (List.append_eq_nil_iff.1 e).1 m
  have q:(c::x).drop (gE t).length=flat r:=by rw[<-e,List.drop_left'];rfl
  rw[e]at j;rw[fr,j];simp only[q];rw[i];rfl
def s8:∀a:List bw,h9 a->(dJ a).length<=(flat a).length
 |[],_=>bf _
 | .b s::r,h=>by
  rw[h9]at h;have:=s8 r h.2;simp only[dJ,flat,bw.nN,List.length_append];omega
 | .t t::r,h=>by
  rw[h9]at h;have d:=s8 r h.2.2;obtain⟨-,-,c⟩:=C9 h.1 (flat r) h.2.1;have:(gE t).length≠0:=λe=>c (List.length_eq_zero_iff.1 e)
  simp only[dJ,flat,bw.nN,List.length_append,List.length_cons];omega
def Ni{a:List bw}(h:h9 a)(c:(flat a).length<=6000):dq (flat a)=(lO a 0,0,0):=by
 unfold dq;rw[if_neg af,oA];have:=u_ a ((flat a).length+1) 0 h (by have:=s8 a h;omega);rw[Nat.zero_add]at this;rw[this]
def BF:∀(n:Nat) (s:aB) (p:Nat) (l:List Tok),fr n s p= .inr l->∀t∈l,h_ t\/t.kind=0
 |0,_,_,_,h=>by cases h
 |n+1,[],p,l,h=>by cases h;intro t a;simp only[List.mem_cons,List.not_mem_nil,or_false]at a;subst a;exact .inr rfl
 |n+1,c::r,p,l,h=>by
  rw[fr]at h;split at h
  ·cases h
  ·rename_i k t v m e;split at h
   ·cases h
   ·rename_i l' d;cases h;intro u hu;rcases List.mem_cons.1 hu with rfl|hu
    ·exact .inl (Jf (t:=⟨k,t,v,p⟩) e)
    ·exact BF n _ _ _ d u hu
def Ey{s:aB}:∀t∈(dq s).1,h_ t\/t.kind=0:=by
 unfold dq;split
 ·intro t a;cases a
 ·cases h:oA s with
  |inl e=>intro t a;cases a
  |inr l=>exact BF _ _ _ _ h
def c4(k:Int):Nat:=if k=24 then 1 else if k=23 then 2 else if 19<=k/\k<=22 then 3 else if k=14\/k=15 then 4 else if 16<=k/\k<=18 then 5 else if k=12\/k=13 then 6 else 7
def aJ.cr(e:aJ):Nat:=c4 e.kind
def h7(x:aB)(d:Int):Prop:=0<=d/\d<=3/\(dQ x=X\/x=[105,110,116]\/x=[98,111,111,108])
inductive cv:Nat->Nat->aJ->Prop
 |par {d m e}:cv d 0 e->e.cr<m->m<=7->cv (d+1) m e
 |int {d m n p}:m<=7->0<=n->n<=9223372036854775807->cv d m (.mk {kind:=1,n:=n,pos:=p} [])
 |bool {d m n p}:m<=7->n=0\/n=1->cv d m (.mk {kind:=2,n:=n,pos:=p} [])
 |null {d m x z p}:m<=7->h7 x z->cv d m (.mk {kind:=3,cf:=x,c3:=z,pos:=p} [])
 |var {d m x p}:m<=7->dQ x=true->cv d m (.mk {kind:=4,name:=x,pos:=p} [])
 |field {d m x p e}:m<=7->dQ x=true->cv d 7 e->cv d m (.mk {kind:=5,name:=x,pos:=p} [e])
 |item {d m p e i}:m<=7->cv (d+1) 7 e->cv d 0 i->cv (d+1) m (.mk {kind:=6,pos:=p} [e,i])
 |call {d m x p l}:m<=7->dQ x=true->(∀e∈l,cv d 0 e)->cv (d+1) m (.mk {kind:=7,name:=x,pos:=p} l)
 |new {d m x p}:m<=7->dQ x=true->cv d m (.mk {kind:=8,cf:=x,pos:=p} [])
 |make {d m x z p e}:m<=7->h7 x z->cv d 0 e->cv (d+1) m (.mk {kind:=9,cf:=x,c3:=z,pos:=p} [e])
 |len {d m p e}:m<=7->cv d 0 e->cv (d+1) m (.mk {kind:=10,pos:=p} [e])
 |read {d m p}:m<=7->cv (d+1) m (.mk {kind:=11,pos:=p} [])
 |sign {d m k p e}:m<=6->k=12\/k=13->cv d 6 e->cv (d+1) m (.mk {kind:=k,pos:=p} [e])
 |bin {d m k p a b}:m<=c4 k->14<=k->k<=24->cv d (c4 k) a->cv d (c4 k+1) b->cv d m (.mk {kind:=k,pos:=p} [a,b])
def ve(k:Int):1<=c4 k/\c4 k<=7:=by
 unfold c4;(repeat' split)<;>omega
def cv.more{d m:Nat}{e:aJ}(h:cv d m e):∀{a:Nat},d<=a->cv a m e:=by
 induction h with
 |par _ n o l=>intro a j;obtain⟨k,rfl⟩:∃k,a=k+1:=⟨a-1,af⟩;exact .par (l af) n o
 |int c i n=>intro a _;exact .int c i n
 |bool c i=>intro a _;exact .bool c i
 |null c i=>intro a _;exact .null c i
 |var c i=>intro a _;exact .var c i
 |field c i _ l=>intro a j;exact .field c i (l j)
 |item c _ _ ih1 ih2=>intro a j;obtain⟨k,rfl⟩:∃k,a=k+1:=⟨a-1,af⟩;exact .item c (ih1 j) (ih2 af)
 |call c i _ l=>intro a j;obtain⟨k,rfl⟩:∃k,a=k+1:=⟨a-1,af⟩;exact .call c i λe he=>l e he af
 |new c i=>intro a _;exact .new c i
 |make c i _ l=>intro a j;obtain⟨k,rfl⟩:∃k,a=k+1:=⟨a-1,af⟩;exact .make c i (l af)
 |len c _ l=>intro a j;obtain⟨k,rfl⟩:∃k,a=k+1:=⟨a-1,af⟩;exact .len c (l af)
 |read c=>intro a j;obtain⟨k,rfl⟩:∃k,a=k+1:=⟨a-1,af⟩;exact .read c
 |sign c i _ l=>intro a j;obtain⟨k,rfl⟩:∃k,a=k+1:=⟨a-1,af⟩;exact .sign c i (l af)
 |bin c i n _ _ ih1 ih2=>intro a j;exact .bin c i n (ih1 j) (ih2 j)
def cv.at{d m:Nat}{e:aJ}(h:cv d 0 e)(hm:m<=e.cr):cv d m e:=by
 have n:=(ve e.kind).2;have j:m<=7:=Nat.le_trans hm n;cases h with
 |par _ h _=>omega
 |int i a c=>exact .int j a c
 |bool i a=>exact .bool j a
 |null i a=>exact .null j a
 |var i a=>exact .var j a
 |field i a c=>exact .field j a c
 |item i a c=>exact .item j a c
 |call i a c=>exact .call j a c
 |new i a=>exact .new j a
 |make i a c=>exact .make j a c
 |len i a=>exact .len j a
 |read i=>exact .read j
 |sign i a c=>exact .sign (by rcases a with rfl|rfl<;>exact hm) a c
 |bin i a c k l=>exact .bin hm a c k l
def cv.low{d m:Nat}{e:aJ}(h:cv d m e){m':Nat}(hm:m'<=m):cv d m' e:=by
 cases h with
 |par a c j=>
  by_cases l:e.cr<m'
  ·exact .par a l af
  ·exact(a.at af).more (Nat.le_succ _)
 |int i a c=>exact .int af a c
 |bool i a=>exact .bool af a
 |null i a=>exact .null af a
 |var i a=>exact .var af a
 |field i a c=>exact .field af a c
 |item i a c=>exact .item af a c
 |call i a c=>exact .call af a c
 |new i a=>exact .new af a
 |make i a c=>exact .make af a c
 |len i a=>exact .len af a
 |read i=>exact .read af
 |sign i a c=>exact .sign af a c
 |bin i a c j k=>exact .bin af a c j k
def cv.up{d:Nat}{e:aJ}(h:cv d 0 e){m:Nat}(hm:m<=7):cv (d+1) m e:=by
 by_cases a:e.cr<m
 ·exact .par h a hm
 ·exact(h.at af).more (Nat.le_succ _)
mutual
def cL:aJ->Nat
 | .mk a kids=>40+a.name.length+a.cf.length+bY kids
def bY:List aJ->Nat
 |[]=>0
 |e::r=>cL e+bY r
end
def E_:∀(l:List aJ) (e:aJ),bY (l++[e])=bY l+cL e
 |[],e=>by simp[bY]
 |x::l,e=>by rw[List.cons_append,bY,E_ l e,bY];omega
structure In(E:Int)(s:aq):Prop where
 a:0<=s.at_
 b:s.at_<=E
 c:0<=s.bO
 d:s.bO<=50
structure bP(E:Int)(s s':aq)(k:Int):Prop where
 f:s.aD=0
 hs:s'.aD=0
 o:s'.bO=s.bO
 a:s.at_+k<=s'.at_
 b:s'.at_<=E
structure Good(T:List Tok)(E:Int):Prop where
 n:E<=20000000
 lt:∀a,(ao T a).kind≠0->a<E
 t:∀t∈T,h_ t\/t.kind=0
section
variable {T:List Tok}{E:Int}{s s' s2:aq}
def bP.trans{k l:Int}(h:bP E s s' k)(aX:bP E s' s2 l):bP E s s2 (k+l):=⟨h.f,aX.hs,aX.o.trans h.o,by have:=h.a;have:=aX.a;omega,aX.b⟩
def bP.less{k l:Int}(h:bP E s s' k)(c:l<=k):bP E s s' l:=⟨h.f,h.hs,h.o,by have:=h.a;omega,h.b⟩
def bP.in{k:Int}(e:In E s)(h:bP E s s' k)(i:0<=k):In E s':=⟨by have:=h.a;have:=e.a;omega,h.b,by rw[h.o];exact e.c,by rw[h.o];exact e.d⟩
def bP.refl(a:In E s)(h:s.aD=0):bP E s s 0:=⟨h,h,rfl,af,a.b⟩
def wC{a:Int}(h:(ao T a).kind≠0):0<=a/\a<T.length/\ao T a∈T:=by
 unfold ao at h ⊢;split at h
 ·exact absurd rfl h
 ·rename_i c;have:a.toNat<T.length:=af;rw[if_neg c,List.getElem?_eq_getElem this,Option.getD_some];exact⟨af,af,List.getElem_mem _⟩
def Ew(aE:Good T E){a:Int}(h:(ao T a).kind≠0):h_ (ao T a):=(aE.t _ (wC h).2.2).resolve_right h
def Nf(aE:Good T E){a:Int}(h:(ao T a).kind=1):dQ (ao T a).text=true:=by
 rcases Ew aE (a:=a) af with aX|aX|aX|aX
 ·exact aX.2.2
 all_goals omega
def Nd(aE:Good T E){a:Int}(h:(ao T a).kind=2):0<=(ao T a).n/\(ao T a).n<=9223372036854775807:=by
 rcases Ew aE (a:=a) af with aX|aX|aX|aX
 ·omega
 ·omega
 ·exact aX.2.2
 ·omega
def go_ok(aE:Good T E)(d:In E s)(c:s.aD=0)(h:(ao T s.at_).kind≠0):aC s={s with at_:=s.at_+1}/\bP E s (aC s) 1:=by
 have j:=aE.lt _ h;have k:=aE.n;have i:=d.a;have e:aC s={s with at_:=s.at_+1}:=by
  unfold aC jq;rw[IntWalk.i64_in _ ⟨af,af⟩]
 refine⟨e,?_⟩;rw[e];exact⟨c,c,rfl,by simp,by simp only;omega⟩
def eT{e:Int}(he:e≠0):(cE T e s).aD≠0:=by
 unfold cE;split
 ·exact he
 ·assumption
def dZ{x:aB}(h:aW T s x=X):s.aD=0/\(ao T s.at_).kind=kw x/\(ao T s.at_).text=x:=uQ h
def uW(x:aB):kw x≠0:=by
 unfold kw;split
 ·split<;>decide
 ·decide
def fq(aE:Good T E)(d:In E s){x:aB}(h:aW T s x=X):bP E s (aC s) 1:=by
 obtain⟨a,c,-⟩:=dZ h;exact(go_ok aE d a (by rw[c];exact uW x)).2
abbrev cM(E:Int)(s:aq):Prop:=s.aD=0->In E s
def bP.fJ{k:Int}(a:cM E s)(h:bP E s s' k)(c:0<=k):cM E s':=λ_=>h.in (a h.f) c
def eB(aE:Good T E)(c:cM E s){x:aB}(h:(bj T x s).aD=0):aW T s x=X/\bj T x s=aC s/\bP E s (bj T x s) 1:=by
 unfold bj at h ⊢;cases a:aW T s x with
 |true=>rw[aU];exact⟨rfl,rfl,fq aE (c (dZ a).1) a⟩
 |false=>rw[a,aO]at h;exact absurd h (eT b1)
def kb(aE:Good T E)(c:cM E s)(h:(bp T s).2.aD=0):dQ (bp T s).1=X/\bP E s (bp T s).2 1:=by
 unfold bp at h ⊢;cases a:(s.aD==0&&(ao T s.at_).kind==1)with
 |true=>
  simp only[Bool.and_eq_true,beq_iff_eq]at a;rw[aU];exact⟨Nf aE a.2,(go_ok aE (c a.1) a.1 af).2⟩
 |false=>rw[a,aO]at h;exact absurd h (eT b1)
def eN{x:aB}(h:dQ x=X):x.length<=8:=by
 simp only[dQ,Bool.and_eq_true,decide_eq_true_eq]at h;exact h.2.1
def fs{x:aB}{d:Int}(h:h7 x d):x.length<=8:=by
 rcases h.2.2 with h|rfl|rfl
 ·exact eN h
 ·decide
 ·decide
def iO(aE:Good T E)(d:cM E s){x:aB}(h:(cP T x s).aD=0):aW T s x=X/\s.aD=0/\(cP T x s).bO=s.bO+1/\(cP T x s).at_=s.at_+1/\In E (cP T x s)/\s.bO+1<=50:=by
 unfold cP at h ⊢;cases i:aW T s x&&decide (50<=s.bO)with
 |true=>rw[i,aU]at h;exact absurd h (eT b1)
 |false=>
  rw[i,aO]at h;rw[aO];have aX:(bj T x s).aD=0:=h;obtain⟨j,o,l⟩:=eB aE d aX;obtain⟨k,p,-⟩:=dZ j;have d:=d k;obtain⟨g1,-⟩:=go_ok aE d k (by rw[p];exact uW x);rw[j,Bool.true_and]at i;have v:s.bO<50:=by have:=of_decide_eq_false i;omega
  have q:=d.c;have e:jq (s.bO+1)=s.bO+1:=IntWalk.i64_in _ ⟨af,af⟩;have m:=l.a;have n:=l.b;have u:=d.a;rw[o,g1]at m n ⊢;simp only[eU,e]at m n ⊢;exact⟨j,k,trivial,trivial,⟨by simp only;omega,by simp only;omega,by simp only;omega,by simp only;omega⟩,af⟩
def vv(a:In E s):er s={s with bO:=s.bO-1}:=by
 have:=a.c;have:=a.d;unfold er jq;rw[IntWalk.i64_in _ ⟨af,af⟩]
def pT(aE:Good T E){k:Int}(l:0<=k)(q:s.bO+1=s'.bO)(p:s.at_+1=s'.at_)(e:s.aD=0)(i:In E s')(hw:bP E s' s2 k){x:aB}(h:(dn T x s2).aD=0):bP E s (dn T x s2) (k+2):=by
 have aX:(bj T x s2).aD=0:=h;have d:=hw.in i l;obtain⟨m,n,c⟩:=eB aE (λ_=>d) aX;have j:=c.in d af;unfold dn at h ⊢;rw[vv j]at h ⊢;have aQ:=hw.a;have a2:=c.a;have bE:=hw.o;have bX:=c.o;exact⟨e,h,by simp only;omega,by simp only;omega,c.b⟩
def wz(aE:Good T E){x:aB}:∀(n:Nat) (s:aq),cM E s->(takeN T x n s).aD=0->bP E s (takeN T x n s) n
 |0,s,c,h=> .refl (c h) h
 |n+1,s,c,h=>by
  have a:(bj T x s).aD=0:=by
   by_cases a:(bj T x s).aD=0
   ·exact a
   ·exfalso;have key:∀(n:Nat) (s:aq),s.aD≠0->(takeN T x n s).aD≠0:=by
     intro n
     induction n with
     |zero=>intro s az;exact az
     |succ n e=>intro s az;exact e _ (by unfold bj;rw[ew az,aO,fp az];exact az)
    exact key n _ a h
  obtain⟨-,-,d⟩:=eB aE c a;have:=d.trans (wz aE n _ (d.fJ c af) h);exact this.less af
def Cq(aE:Good T E):∀(n:Nat) (d:Int) (s:aq) {q:Int×aq},In E s->0<=d->ek T n d s= .inl q->s.aD=0->d<=q.1/\q.1<=d+n/\bP E s q.2 (q.1-d)/\aW T q.2 [91]=U
 |0,d,s,q,c,l,h,e=>by
  rw[ek]at h;cases a:aW T s [91]with
  |true=>rw[a,aU]at h;cases h
  |false=>
   rw[a,aO]at h;cases h;exact⟨Int.le_refl _,by simp,(bP.refl c e).less (by simp),a⟩
 |n+1,d,s,q,c,l,h,e=>by
  rw[ek]at h;cases a:aW T s [91]with
  |true=>
   rw[a,aU]at h;have i:=fq aE c a;obtain⟨m,o,j,k⟩:=Cq aE n (d+1) _ (i.in c af) af h i.hs;exact⟨af,af,(i.trans j).less af,k⟩
  |false=>
   rw[a,aO]at h;cases h;exact⟨Int.le_refl _,af,(bP.refl c e).less (by simp),a⟩
def I_:∀(n:Nat) (d:Int) (s:aq),s.aD≠0->ek T n d s= .inl (d,s)
 |0,d,s,h=>by rw[ek,ew h];rfl
 |n+1,d,s,h=>by rw[ek,ew h];rfl
def wu{x:aB}:∀(n:Nat) (s:aq),s.aD≠0->(takeN T x n s).aD≠0
 |0,s,az=>az
 |n+1,s,az=>wu n _ (by unfold bj;rw[ew az,aO,fp az];exact az)
def mS(aE:Good T E)(k:cM E s)(h:(b_ T s).2.aD=0):h7 (b_ T s).1.1 (b_ T s).1.2/\bP E s (b_ T s).2 1:=by
 have c:s.aD=0:=by
  by_cases c:s.aD=0
  ·exact c
  ·exfalso;unfold b_ at h;rw[I_ 3 0 s c]at h;simp only[eH,ew c,Bool.or_self,aO,Cb c]at h;exact wu _ _ c h
 have k:=k c;unfold b_ at h ⊢;cases l:ek T 3 0 s with
 |inr s'=>
  exfalso;rw[l]at h;have key:∀(n:Nat) (d:Int) (s:aq) {s':aq},ek T n d s= .inr s'->s'.aD≠0:=by
   intro n
   induction n with
   |zero=>
    intro d s s' h;rw[ek]at h;cases a:aW T s [91]<;>rw[a]at h<;>cases h;exact eT b1
   |succ n v=>
    intro d s s' h;rw[ek]at h;cases a:aW T s [91]<;>rw[a]at h
    ·cases h
    ·exact v _ _ h
  exact key _ _ _ l h
 |inl q=>
  obtain⟨m,o,i,-⟩:=Cq aE 3 0 s k af l c;rw[l]at h;obtain⟨d,s1⟩:=q;simp only at h m o i ⊢;have e:=i.in k af;unfold eH at h ⊢;cases a:aW T s1 [105,110,116]||aW T s1 [98,111,111,108]with
  |true=>
   rw[a,aU]at h;rw[aU];have p:bP E s1 (aC s1) 1/\((ao T s1.at_).text=[105,110,116]\/(ao T s1.at_).text=[98,111,111,108]):=by
    rcases Bool.or_eq_true_iff.1 a with a|a
    ·exact⟨fq aE e a,.inl (dZ a).2.2⟩
    ·exact⟨fq aE e a,.inr (dZ a).2.2⟩
   have u:=wz aE _ _ (p.1.fJ (λ_=>e) af) h;exact⟨⟨m,by simpa using o,.inr p.2⟩,((i.trans p.1).trans u).less af⟩
  |false=>
   rw[a,aO]at h;rw[aO];have j:(bp T s1).2.aD=0:=by
    by_cases j:(bp T s1).2.aD=0
    ·exact j
    ·exact absurd h (wu _ _ j)
   obtain⟨w,n2⟩:=kb aE (λ_=>e) j;have u:=wz aE _ _ (n2.fJ (λ_=>e) af) h;exact⟨⟨m,by simpa using o,.inl w⟩,((i.trans n2).trans u).less af⟩
end
def gu(o a0:Int)(m:Nat)(e:aJ)(aQ:Int):Prop:=(cL e:Int)<=60*(aQ-a0)/\∃d:Nat,o+d<=50/\cv d m e
def gu.low{o a0 aQ:Int}{m m':Nat}{e:aJ}(h:gu o a0 m e aQ)(hm:m'<=m):gu o a0 m' e aQ:=⟨h.1,h.2.imp λ_ h=>⟨h.1,h.2.low hm⟩⟩
def gu.wide{o a0 aQ a c:Int}{m:Nat}{e:aJ}(h:gu o a0 m e aQ)(d:a<=a0)(i:aQ<=c):gu o a m e c:=⟨by have:=h.1;omega,h.2⟩
def ta{a:bM}(d:a.name.length<=8)(c:a.cf=[]):(cL (.mk a []):Int)<=60:=by simp[cL,bY,c];omega
def E8{a:bM}(d:a.cf.length<=8)(c:a.name=[]):(cL (.mk a []):Int)<=60:=by simp[cL,bY,c];omega
def tb{a:bM}{e:aJ}(c:a.name.length+a.cf.length<=8):(cL (.mk a [e]):Int)<=60+cL e:=by simp[cL,bY];omega
def E9{a:bM}{e f:aJ}(c:a.name.length+a.cf.length<=8):(cL (.mk a [e,f]):Int)<=60+cL e+cL f:=by simp[cL,bY];omega
def NA{a:bM}{l:List aJ}(c:a.name.length+a.cf.length<=8):(cL (.mk a l):Int)<=60+bY l:=by simp[cL];omega
structure FF(T:List Tok)(E:Int)(n:Nat):Prop where
 expr:∀lev s p,lev<=5->cM E s->ej T n lev s=some p->p.2.aD=0->bP E s p.2 1/\gu s.bO s.at_ (lev+1) p.1 p.2.at_
 yK:∀lev e a0 s p,lev<=4->cM E s->(s.aD=0->gu s.bO a0 (lev+1) e s.at_)->hP T n lev e s=some p->p.2.aD=0->bP E s p.2 0/\gu s.bO a0 (lev+1) p.1 p.2.at_
 unary:∀s p,cM E s->jo T n s=some p->p.2.aD=0->bP E s p.2 1/\gu s.bO s.at_ 6 p.1 p.2.at_
 sign:∀k s p,k=12\/k=13->cM E s->kC T n k s=some p->p.2.aD=0->bP E s p.2 1/\gu s.bO s.at_ 6 p.1 p.2.at_
 behind:∀e a0 s p,cM E s->(s.aD=0->gu s.bO a0 7 e s.at_)->fm T n e s=some p->p.2.aD=0->bP E s p.2 0/\gu s.bO a0 7 p.1 p.2.at_
 inner:∀s p,cM E s->ha T n s=some p->p.2.aD=0->bP E s p.2 1/\gu (s.bO+1) s.at_ 0 p.1 p.2.at_
 first:∀s p,cM E s->hQ T n s=some p->p.2.aD=0->bP E s p.2 1/\gu s.bO s.at_ 7 p.1 p.2.at_
 fresh:∀pos s p,cM E s->j6 T n pos s=some p->p.2.aD=0->bP E s p.2 1/\gu s.bO (s.at_-1) 7 p.1 p.2.at_
 args:∀s p,cM E s->ia T n s=some p->p.2.aD=0->bP E s p.2 1/\(bY p.1:Int)<=60*(p.2.at_-s.at_)/\∃d:Nat,s.bO+1+d<=50/\∀e∈p.1,cv d 0 e
 xA:∀l a0 s p,cM E s->1<=s.bO->(s.aD=0->(bY l:Int)<=60*(s.at_-a0)/\∃d:Nat,s.bO+d<=50/\∀e∈l,cv d 0 e)->g_ T n l s=some p->p.2.aD=0->(s.aD=0/\p.2.bO=s.bO-1/\s.at_+1<=p.2.at_/\p.2.at_<=E)/\(bY p.1:Int)<=60*(p.2.at_-a0)/\∃d:Nat,s.bO+d<=50/\∀e∈p.1,cv d 0 e
def fo{α β:Type}{x:Option α}{f:α->Option β}{b:β}(h:x.bind f=D b):∃a,x=D a/\f a=D b:=cS.1 h
def Bz{x:aB}:∀l:List (aB×Int),ka x l≠0->∃k,(x,k)∈l/\ka x l=k
 |[],h=>absurd rfl h
 |(y,k)::r,h=>by
  rw[ka]at h ⊢;cases a:y==x with
  |true=>
   obtain rfl:y=x:=by simpa using a
   rw[aU];exact⟨k,List.mem_cons_self,rfl⟩
  |false=>
   rw[a,aO]at h;rw[aO];obtain⟨k,c,d⟩:=Bz r h;exact⟨k,List.mem_cons_of_mem _ c,d⟩
def IS(lev:Nat):Bool:=(jI[lev]?.getD []).all λp=>decide (14<=p.2)&&decide (p.2<=24)&&c4 p.2==lev+1
def IT:(List.range 5).all IS=true:=by decide+kernel
def IH{lev:Nat}(e:lev<=4){t:Tok}(h:ez lev t≠0):t.kind=4/\14<=ez lev t/\ez lev t<=24/\c4 (ez lev t)=lev+1/\(t.text,ez lev t)∈jI[lev]?.getD []:=by
 unfold ez at h ⊢;cases a:(t.kind != 4)with
 |true=>rw[a,aU]at h;exact absurd rfl h
 |false=>
  rw[a,aO]at h;rw[aO];obtain⟨k,c,d⟩:=Bz _ h;have:=List.all_eq_true.1 (List.all_eq_true.1 IT lev (List.mem_range.2 af)) _ c;simp only[Bool.and_eq_true,decide_eq_true_eq,beq_iff_eq]at this;rw[d];exact⟨by simpa using a,this.1.1,this.1.2,this.2,c⟩
def pP{o:Int}{d a:Nat}(h:o+d<=50)(aX:o+a<=50):o+(max d a:Nat)<=50:=af
def CK{T:List Tok}{E:Int}(aE:Good T E):∀n,FF T E n
 |0=>by
  constructor<;>intros<;>rename_i h _<;>first|cases h|skip
 |n+1=>by
  have y:=CK aE n;refine⟨?_,?_,?_,?_,?_,?_,?_,?_,?_,?_⟩
  ·intro lev s p ap i h aF;rw[ej]at h;split at h
   ·rename_i V;subst V;exact y.unary s p i h aF
   ·obtain⟨q,g1,g2⟩:=fo h;have v:=λj=>y.expr (lev+1) s q af i g1 j
    obtain⟨A,B⟩:=y.yK lev q.1 s.at_ q.2 p af (λj=>(v j).1.in (i (v j).1.f) af) (λj=>by rw[(v j).1.o];exact(v j).2.low af) g2 aF;have v:=v A.f;exact⟨(v.1.trans A).less af,by rw[v.1.o]at B;exact B⟩
  ·intro lev e a0 s p ap i he h aF;rw[hP]at h;cases F:(s.aD==0&&ez lev (ao T s.at_) != 0)with
   |false=>
    rw[F,aO]at h;cases h;exact⟨.refl (i aF) aF,he aF⟩
   |true=>
    rw[F,aU]at h;simp only[Bool.and_eq_true,beq_iff_eq,bne_iff_ne,ne_eq]at F;obtain⟨m,aM⟩:=F;obtain⟨aZ,aS,aT,aG,-⟩:=IH ap aM;have u:=(go_ok aE (i m) m af).2;have M:=u.in (i m) af;obtain⟨q,g1,g2⟩:=fo h;have v:=λj=>y.expr (lev+1) (aC s) q af (λ_=>M) g1 j
    have key:∀j:q.2.aD=0,gu q.2.bO a0 (lev+1) (.mk {kind:=ez lev (ao T s.at_),pos:=(ao T s.at_).pos} [e,q.1]) q.2.at_:=by
     intro j;obtain⟨w,S,d,P,G⟩:=v j;obtain⟨i2,K,i3,i4⟩:=he m;have:=E9 (a:={kind:=ez lev (ao T s.at_),pos:=(ao T s.at_).pos}) (e:=e) (f:=q.1) (by simp);have Q:=u.a;have go:=u.o;have al:=w.o;refine⟨af,max d K,by rw[al,go];exact pP (by rw[<-go];exact P) i3,?_⟩;refine .bin af aS aT ?_ ?_
     ·rw[aG];exact i4.more af
     ·rw[aG];exact G.more af
    obtain⟨A,B⟩:=y.yK lev _ a0 q.2 p ap (λj=>(v j).1.in M af) key g2 aF;have v:=v A.f;refine⟨((u.trans v.1).trans A).less af,?_⟩;rw[v.1.o,u.o]at B;exact B
  ·intro s p i h aF;rw[jo]at h;cases x:aW T s [45]with
   |true=>rw[x,aU]at h;exact y.sign 12 s p (.inl rfl) i h aF
   |false=>
    rw[x,aO]at h;cases aa:aW T s [33]with
    |true=>rw[aa,aU]at h;exact y.sign 13 s p (.inr rfl) i h aF
    |false=>
     rw[aa,aO]at h;obtain⟨q,g1,g2⟩:=fo h;have v:=λj=>y.first s q i g1 j
     obtain⟨A,B⟩:=y.behind q.1 s.at_ q.2 p (λj=>(v j).1.in (i (v j).1.f) af) (λj=>by rw[(v j).1.o];exact(v j).2) g2 aF;have v:=v A.f;exact⟨(v.1.trans A).less af,by rw[v.1.o]at B;exact B.low af⟩
  ·intro k s p aL i h aF;rw[kC]at h;obtain⟨q,g1,g2⟩:=fo h;cases g2;have j:q.2.aD=0:=aF;have aP:(cP T (ao T s.at_).text s).aD=0->cM E (cP T (ao T s.at_).text s):=λm _=>(iO aE i m).2.2.2.2.1
   obtain⟨w,S,d,P,G⟩:=y.expr 5 _ q af (λm=>aP m m) g1 j;obtain⟨bE,bX,ck,dr,H,ah⟩:=iO aE i w.f;have aJ:=w.in H af;have aN:=vv aJ;simp only[aN]at aF ⊢;have aB:=w.a;have al:=w.o;have au:=w.b;have:=tb (a:={kind:=k,pos:=(ao T s.at_).pos}) (e:=q.1) (by simp);refine⟨⟨bX,aF,by(try simp only);omega,by(try simp only);omega,au⟩,by(try simp only);omega,d+1,af,.sign af aL G⟩
  ·intro e a0 s p i he h aF;rw[fm]at h;cases x:aW T s [46]with
   |true=>
    rw[x,aU]at h;have m:=(dZ x).1;have u:=fq aE (i m) x;have M:=u.in (i m) af;have W:=λj=>kb aE (s:=aC s) (λ_=>M) j
    obtain⟨i2,K,i3,i4⟩:=he m;obtain⟨A,B⟩:=y.behind _ a0 _ p (λj=>(W j).2.in M af) (λj=>by
     obtain⟨O,n2⟩:=W j;have:=tb (a:={kind:=5,name:=(bp T (aC s)).1,pos:=(ao T s.at_).pos}) (e:=e) (by have:=eN O;simp;omega);have ax:=n2.a;have Q:=u.a;refine⟨af,K,by rw[n2.o,u.o];exact i3,.field af O i4⟩) h aF
    have n2:=(W A.f).2;refine⟨((u.trans n2).trans A).less af,?_⟩;rw[n2.o,u.o]at B;exact B
   |false=>
    rw[x,aO]at h;cases aa:aW T s [91]with
    |true=>
     rw[aa,aU]at h;have m:=(dZ aa).1;obtain⟨q,g1,g2⟩:=fo h;obtain⟨i2,K,i3,i4⟩:=he m;have v:=λj=>y.expr 0 _ q af (λm=>(iO aE i m).2.2.2.2.1) g1 j
     have aI:(dn T [93] q.2).aD=0->q.2.aD=0:=λN=>by
      have aX:(bj T [93] q.2).aD=0:=N;unfold bj at aX;cases L:aW T q.2 [93]with
      |true=>exact(dZ L).1
      |false=>rw[L,aO]at aX;exact absurd aX (eT b1)
     have key:∀N:(dn T [93] q.2).aD=0,bP E s (dn T [93] q.2) 3/\gu s.bO a0 7 (.mk {kind:=6,pos:=(ao T s.at_).pos} [e,q.1]) (dn T [93] q.2).at_:=by
      intro N;obtain⟨w,S,d,P,G⟩:=v (aI N);obtain⟨bE,bX,ck,dr,H,ah⟩:=iO aE i w.f;have F:=pT aE af ck.symm dr.symm m H w N;have am:=F.a;have au:q.2.at_+1<=(dn T [93] q.2).at_:=by
       have aX:(bj T [93] q.2).aD=0:=N;have:=(eB aE (λ_=>w.in H af) aX).2.2.a;exact this
      have:=E9 (a:={kind:=6,pos:=(ao T s.at_).pos}) (e:=e) (f:=q.1) (by simp);refine⟨F.less af,af,max K (d+1),pP i3 af,?_⟩;obtain⟨z,L⟩:∃z,max K (d+1)=z+1:=⟨max K (d+1)-1,af⟩;rw[L];exact .item af (i4.more af) ((G.low af).more af)
     obtain⟨A,B⟩:=y.behind _ a0 _ p (λN=>(key N).1.in (i m) af) (λN=>by rw[(key N).1.o];exact(key N).2) g2 aF;have ae:=(key A.f).1;refine⟨(ae.trans A).less af,?_⟩;rw[ae.o]at B;exact B
    |false=>
     rw[aa,aO]at h;cases h;exact⟨.refl (i aF) aF,he aF⟩
  ·intro s p i h aF;rw[ha]at h;obtain⟨q,g1,g2⟩:=fo h;cases g2;have j:q.2.aD=0:=by
    have aX:(bj T [41] q.2).aD=0:=aF;unfold bj at aX;cases L:aW T q.2 [41]with
    |true=>exact(dZ L).1
    |false=>rw[L,aO]at aX;exact absurd aX (eT b1)
   obtain⟨w,S,d,P,G⟩:=y.expr 0 _ q af (λm=>(iO aE i m).2.2.2.2.1) g1 j;obtain⟨bE,bX,ck,dr,H,ah⟩:=iO aE i w.f;have F:=pT aE af ck.symm dr.symm bX H w aF;have am:=F.a;have au:q.2.at_+1<=(dn T [41] q.2).at_:=by
    have aX:(bj T [41] q.2).aD=0:=aF;exact(eB aE (λ_=>w.in H af) aX).2.2.a
   refine⟨F.less af,by(try simp only);omega,d,by rw[<-ck];exact P,G.low af⟩
  ·intro s p i h aF;rw[hQ]at h;cases v:(s.aD==0&&(ao T s.at_).kind==2)with
   |true=>
    rw[v,aU]at h;cases h;simp only[Bool.and_eq_true,beq_iff_eq]at v;have u:=(go_ok aE (i v.1) v.1 af).2;have W:=Nd aE v.2;have Q:=u.a;have:=ta (a:={kind:=1,n:=(ao T s.at_).n,pos:=(ao T s.at_).pos}) (by simp) rfl;have R:=(i v.1).d;exact⟨u,by(try simp only);omega,0,by simpa using R,.int af W.1 W.2⟩
   |false=>
    rw[v,aO]at h;cases ab:(aW T s [116,114,117,101]||aW T s [102,97,108,115,101])with
    |true=>
     rw[ab,aU]at h;cases h;have u:bP E s (aC s) 1:=by
      rcases Bool.or_eq_true_iff.1 ab with x|x<;>exact fq aE (i (dZ x).1) x
     have Q:=u.a;have R:=(i u.f).d;have:=ta (a:={kind:=2,n:=bif (ao T s.at_).text==[116,114,117,101]then 1 else 0,pos:=(ao T s.at_).pos}) (by simp) rfl;refine⟨u,by(try simp only);omega,0,by simpa using R,.bool af ?_⟩;cases(ao T s.at_).text==[116,114,117,101]
     ·exact .inl rfl
     ·exact .inr rfl
    |false=>
     rw[ab,aO]at h;cases aj:aW T s [110,117,108,108]with
     |true=>
      rw[aj,aU]at h;cases h;have m:=(dZ aj).1;have u:=fq aE (i m) aj;obtain⟨bE,bX⟩:=mS aE (u.fJ i af) aF;have Q:=u.a;have aR:=bX.a;have R:=(i m).d;have:=E8 (a:={kind:=3,cf:=(b_ T (aC s)).1.1,c3:=(b_ T (aC s)).1.2,pos:=(ao T s.at_).pos}) (fs bE) rfl;exact⟨(u.trans bX).less af,by(try simp only);omega,0,by simpa using R,.null af bE⟩
     |false=>
      rw[aj,aO]at h;cases ad:aW T s [110,101,119]with
      |true=>
       rw[ad,aU]at h;have m:=(dZ ad).1;have u:=fq aE (i m) ad;obtain⟨A,B⟩:=y.fresh _ _ p (u.fJ i af) h aF;have Q:=u.a;have ge:=(go_ok aE (i m) m (by rw[(dZ ad).2.1];exact uW _)).1;rw[u.o]at B;exact⟨(u.trans A).less af,B.wide (by rw[ge];simp) (Int.le_refl _)⟩
      |false=>
       rw[ad,aO]at h;cases V:aW T s [108,101,110]with
       |true=>
        rw[V,aU]at h;have m:=(dZ V).1;have u:=fq aE (i m) V;obtain⟨q,g1,g2⟩:=fo h;cases g2;obtain⟨w,S,d,P,G⟩:=y.inner _ q (u.fJ i af) g1 aF;have Q:=u.a;have go:=u.o;have:=tb (a:={kind:=10,pos:=(ao T s.at_).pos}) (e:=q.1) (by simp);exact⟨(u.trans w).less af,by(try simp only);omega,d+1,af,.len af G⟩
       |false=>
        rw[V,aO]at h;cases ak:aW T s [114,101,97,100]with
        |true=>
         rw[ak,aU]at h;cases h;have m:=(dZ ak).1;have u:=fq aE (i m) ak;have j:(cP T [40] (aC s)).aD=0:=by
          have aX:(bj T [41] (cP T [40] (aC s))).aD=0:=aF;unfold bj at aX;cases L:aW T (cP T [40] (aC s)) [41]with
          |true=>exact(dZ L).1
          |false=>rw[L,aO]at aX;exact absurd aX (eT b1)
         obtain⟨bE,bX,ck,dr,H,ah⟩:=iO aE (u.fJ i af) j;have F:=pT aE (k:=0) af ck.symm dr.symm bX H (.refl H j) aF;have Q:=u.a;have go:=u.o;have am:=F.a;have:=ta (a:={kind:=11,pos:=(ao T s.at_).pos}) (by simp) rfl;exact⟨(u.trans F).less af,by(try simp only);omega,1,af,.read af⟩
        |false=>
         rw[ak,aO]at h;cases aA:aW T s [40]with
         |true=>
          rw[aA,aU]at h;obtain⟨w,S,d,P,G⟩:=y.inner s p i h aF;exact⟨w,S,d+1,af,G.up af⟩
         |false=>
          rw[aA,aO]at h;have R:s.aD=0->s.bO<=50:=λm=>(i m).d
          cases an:aW T (bp T s).2 [40]with
          |true=>
           rw[an,aU]at h;obtain⟨q,g1,g2⟩:=fo h;cases g2;obtain⟨O,n2⟩:=kb aE i (dZ an).1;obtain⟨A,B,d,ae,ag⟩:=y.args _ q (n2.fJ i af) g1 aF;have ax:=n2.a;have no:=n2.o;have:=NA (a:={kind:=7,name:=(bp T s).1,pos:=(ao T s.at_).pos}) (l:=q.1) (by have:=eN O;simp;omega);exact⟨(n2.trans A).less af,by(try simp only);omega,d+1,af,.call af O ag⟩
          |false=>
           rw[an,aO]at h;cases h;obtain⟨O,n2⟩:=kb aE i aF;have ax:=n2.a;have:=ta (a:={kind:=4,name:=(bp T s).1,pos:=(ao T s.at_).pos}) (eN O) rfl;exact⟨n2,by(try simp only);omega,0,by simpa using R n2.f,.var af O⟩
  ·intro pos s p i h aF;rw[j6]at h;cases x:aW T s [91]with
   |true=>
    rw[x,aU]at h;obtain⟨q,g1,g2⟩:=fo h;cases g2;have m:=(dZ x).1;have u:=fq aE (i m) x;have M:=u.in (i m) af;have aq:=λj:(bj T [93] (b_ T (aC s)).2).aD=0=>by
     have ab:(b_ T (aC s)).2.aD=0:=by
      unfold bj at j;cases L:aW T (b_ T (aC s)).2 [93]with
      |true=>exact(dZ L).1
      |false=>rw[L,aO]at j;exact absurd j (eT b1)
     have o:=mS aE (λ_=>M) ab;exact ai o (eB aE (λ_=>o.2.in M af) j).2.2
    obtain⟨w,S,d,P,G⟩:=y.inner _ q (λj=>((aq j).1.2.trans (aq j).2).in M af) g1 aF;obtain⟨⟨bE,bX⟩,ck⟩:=aq w.f;have Q:=u.a;have go:=u.o;have aR:=bX.a;have aY:=bX.o;have aV:=ck.a;have to:=ck.o;have:=tb (a:={kind:=9,cf:=(b_ T (aC s)).1.1,c3:=(b_ T (aC s)).1.2,pos:=pos}) (e:=q.1) (by have:=fs bE;simp;omega);exact⟨(((u.trans bX).trans ck).trans w).less af,by(try simp only);omega,d+1,af,.make af bE G⟩
   |false=>
    rw[x,aO]at h;cases h;obtain⟨O,n2⟩:=kb aE i aF;have ax:=n2.a;have R:=(i n2.f).d;have:=E8 (a:={kind:=8,cf:=(bp T s).1,pos:=pos}) (eN O) rfl;exact⟨n2,by(try simp only);omega,0,by simpa using R,.new af O⟩
  ·intro s p i h aF;rw[ia]at h;cases x:aW T (cP T [40] s) [41]with
   |true=>
    rw[x,aU]at h;cases h;obtain⟨bE,bX,ck,dr,H,ah⟩:=iO aE i (dZ x).1;have F:=pT aE (k:=0) af ck.symm dr.symm bX H (.refl H (dZ x).1) aF;have am:=F.a;refine⟨F.less af,by simp only[bY];omega,0,af,λe he=>by cases he⟩
   |false=>
    rw[x,aO]at h;obtain⟨q,g1,g2⟩:=fo h;have v:=λj=>y.expr 0 _ q af (λm=>(iO aE i m).2.2.2.2.1) g1 j
    have aH:=λj=>iO aE i (v j).1.f
    by_cases j:q.2.aD=0
    ·obtain⟨w,S,d,P,G⟩:=v j;obtain⟨bE,bX,ck,dr,H,ah⟩:=aH j;have al:=w.o;have aB:=w.a;have F:=(i bX).c;obtain⟨⟨A,B,ae,ag⟩,av,K,aQ,aw⟩:=y.xA [q.1] s.at_ q.2 p (λ_=>w.in H af) af (λ_=>⟨by simp only[bY];omega,d,af,λe he=>by
      simp only[List.mem_cons,List.not_mem_nil,or_false]at he;subst he;exact G.low af⟩) g2 aF
     exact⟨⟨bX,aF,af,af,ag⟩,av,K,af,aw⟩
    ·exfalso;cases n with
     |zero=>rw[g_]at g2;cases g2
     |succ n=>
      rw[g_,ew j,aO]at g2;cases g2;have aX:(bj T [41] q.2).aD=0:=aF;unfold bj at aX;rw[ew j,aO]at aX;exact absurd aX (eT b1)
  ·intro l a0 s p i az he h aF;rw[g_]at h;cases x:aW T s [44]with
   |true=>
    rw[x,aU]at h;obtain⟨q,g1,g2⟩:=fo h;have m:=(dZ x).1;have u:=fq aE (i m) x;have M:=u.in (i m) af;have v:=λj=>y.expr 0 _ q af (λ_=>M) g1 j
    by_cases j:q.2.aD=0
    ·obtain⟨w,S,d,P,G⟩:=v j;obtain⟨i2,K,i3,i4⟩:=he m;have go:=u.o;have Q:=u.a;have al:=w.o;have aB:=w.a;obtain⟨⟨A,B,ae,ag⟩,av,d2,aQ,aw⟩:=y.xA (l++[q.1]) a0 q.2 p (λ_=>w.in M af) af (λ_=>⟨by rw[E_];omega,max d K,pP af af,λe he=>by
      rcases List.mem_append.1 he with he|he
      ·exact(i4 e he).more af
      ·simp only[List.mem_cons,List.not_mem_nil,or_false]at he;subst he;exact(G.low af).more af⟩) g2 aF
     exact⟨⟨m,af,af,ag⟩,av,d2,af,aw⟩
    ·exfalso;cases n with
     |zero=>rw[g_]at g2;cases g2
     |succ n=>
      rw[g_,ew j,aO]at g2;cases g2;have aX:(bj T [41] q.2).aD=0:=aF;unfold bj at aX;rw[ew j,aO]at aX;exact absurd aX (eT b1)
   |false=>
    rw[x,aO]at h;cases h;have aX:(bj T [41] s).aD=0:=aF;obtain⟨t1,t2,t3⟩:=eB aE i aX;have m:=t3.f;obtain⟨i2,K,i3,i4⟩:=he m;have aV:=t3.a;have to:=t3.o;have s3:=t3.b;have aK:=t3.in (i m) af;have e:dn T [41] s={bj T [41] s with bO:=(bj T [41] s).bO-1}:=by unfold dn;exact vv aK
    simp only[e]at aF ⊢;refine⟨⟨m,by(try simp only);omega,by(try simp only);omega,s3⟩,by(try simp only);omega,K,i3,i4⟩
inductive ed:Nat->bB->Prop
 |var {d x o z p}:dQ x=true->h7 o z->ed d (.mk {kind:=1,name:=x,cf:=o,c3:=z,pos:=p} [] [] [])
 |lets {d x o z p e}:dQ x=true->h7 o z->cv d 0 e->ed d (.mk {kind:=2,name:=x,cf:=o,c3:=z,pos:=p} [e] [] [])
 |set {d x p e}:dQ x=true->cv d 0 e->ed d (.mk {kind:=3,name:=x,pos:=p} [e] [] [])
 |put {d p e f}:e.kind=5\/e.kind=6->cv d 0 e->cv d 0 f->ed d (.mk {kind:=4,pos:=p} [e,f] [] [])
 |ifs {d p e b c}:cv (d+1) 0 e->(∀s∈b,ed d s)->(∀s∈c,ed d s)->ed (d+1) (.mk {kind:=5,pos:=p} [e] b c)
 |while {d p e b}:cv (d+1) 0 e->(∀s∈b,ed d s)->ed (d+1) (.mk {kind:=6,pos:=p} [e] b [])
 |m_ {d p}:ed d (.mk {kind:=7,pos:=p} [] [] [])
 |na {d p e}:cv d 0 e->ed d (.mk {kind:=7,pos:=p} [e] [] [])
 |print {d p e}:cv d 0 e->ed d (.mk {kind:=8,pos:=p} [e] [] [])
 |call {d p e}:e.kind=7->cv d 0 e->ed d (.mk {kind:=9,pos:=p} [e] [] [])
def ed.at{d:Nat}{s:bB}(h:ed d s)(p:Int):ed d (s.at p):=by
 cases h with
 |var a b=>exact .var a b
 |lets a b c=>exact .lets a b c
 |set a b=>exact .set a b
 |put a b c=>exact .put a b c
 |ifs a b c=>exact .ifs a b c
 | «while» a b=>exact .while a b
 |m_=>exact .m_
 |na a=>exact .na a
 |print a=>exact .print a
 |call a b=>exact .call a b
def ed.more{d:Nat}{s:bB}(h:ed d s):∀{e:Nat},d<=e->ed e s:=by
 induction h with
 |var a b=>intro e _;exact .var a b
 |lets a b c=>intro e i;exact .lets a b (c.more i)
 |set a b=>intro e i;exact .set a (b.more i)
 |put a b c=>intro e i;exact .put a (b.more i) (c.more i)
 |ifs a _ _ ih1 ih2=>intro e i;obtain⟨k,rfl⟩:∃k,e=k+1:=⟨e-1,af⟩;exact .ifs (a.more i) (λs az=>ih1 s az af) (λs az=>ih2 s az af)
 | «while» a _ ih1=>intro e i;obtain⟨k,rfl⟩:∃k,e=k+1:=⟨e-1,af⟩;exact .while (a.more i) (λs az=>ih1 s az af)
 |m_=>intro e _;exact .m_
 |na a=>intro e i;exact .na (a.more i)
 |print a=>intro e i;exact .print (a.more i)
 |call a b=>intro e i;exact .call a (b.more i)
mutual
def ea:bB->Nat
 | .mk a es b c=>400+a.name.length+a.cf.length+bY es+dv b+dv c
def dv:List bB->Nat
 |[]=>0
 |e::r=>ea e+dv r
end
def Fb:∀(l:List bB) (e:bB),dv (l++[e])=dv l+ea e
 |[],e=>by simp[dv]
 |x::l,e=>by rw[List.cons_append,dv,Fb l e,dv];omega
def NC(s:bB)(p:Int):ea (s.at p)=ea s:=by cases s;rfl
def Fa{a:bZ}(c:a.name.length+a.cf.length<=16):(ea (.mk a [] [] []):Int)<=416:=by simp[ea,bY,dv];omega
def ra{a:bZ}{e:aJ}(c:a.name.length+a.cf.length<=16):(ea (.mk a [e] [] []):Int)<=416+cL e:=by simp[ea,bY,dv];omega
def ND{a:bZ}{e f:aJ}(c:a.name.length+a.cf.length<=16):(ea (.mk a [e,f] [] []):Int)<=416+cL e+cL f:=by simp[ea,bY,dv];omega
def wK{a:bZ}{e:aJ}{b c:List bB}(d:a.name.length+a.cf.length<=16):(ea (.mk a [e] b c):Int)<=416+cL e+dv b+dv c:=by simp[ea,bY];omega
section
variable {T:List Tok}{E:Int}{s s' s2:aq}
def bP.to{y:aq}{k:Int}(c:cM E s)(h:y.aD=0->bP E s y k)(d:0<=k):cM E y:=λa=>(h a).in (c (h a).f) d
def ml(T:List Tok):Prop:=∀s,∃p,ej T 800000000 0 s=D p
def mF(aE:Good T E)(d:ml T)(e:cM E s)(h:(bz T s).2.aD=0):bP E s (bz T s).2 1/\gu s.bO s.at_ 0 (bz T s).1 (bz T s).2.at_:=by
 obtain⟨p,aF⟩:=d s;unfold bz at h ⊢;rw[aF]at h ⊢;obtain⟨a,c⟩:=(CK aE 800000000).expr 0 s p af e aF h;exact⟨a,c.low af⟩
def E3(aE:Good T E)(i:cM E s)(h:(d_ T s).2.aD=0):dQ (d_ T s).1.1=X/\h7 (d_ T s).1.2.1 (d_ T s).1.2.2/\bP E s (d_ T s).2 3:=by
 have c:=λj=>kb aE i j
 have d:=λj=>eB aE (s:=(bp T s).2) (x:=[58]) (bP.to i (λa=>(c a).2) af) j
 have e:=mS aE (s:=bj T [58] (bp T s).2) (bP.to i (λa=>(c (d a).2.2.f).2.trans (d a).2.2) af) h;have l:=d e.2.f;have k:=c l.2.2.f;exact⟨k.1,e.1,((k.2.trans l.2.2).trans e.2).less af⟩
structure FI(T:List Tok)(E:Int)(n:Nat):Prop where
 block:∀s p,cM E s->i_ T n s=some p->p.2.aD=0->bP E s p.2 2/\(dv p.1:Int)<=400*(p.2.at_-s.at_-2)/\∃d:Nat,s.bO+(d+1)<=50/\∀x∈p.1,ed d x
 loop:∀l a0 s p,cM E s->(s.aD=0->(dv l:Int)<=400*(s.at_-a0)/\∃d:Nat,s.bO+d<=50/\∀x∈l,ed d x)->mO T n l s=some p->p.2.aD=0->bP E s p.2 0/\(dv p.1:Int)<=400*(p.2.at_-a0)/\∃d:Nat,s.bO+d<=50/\∀x∈p.1,ed d x
 stmt:∀s p,cM E s->pf T n s=some p->p.2.aD=0->bP E s p.2 2/\(ea p.1:Int)<=400*(p.2.at_-s.at_)/\∃d:Nat,s.bO+d<=50/\ed d p.1
def Jx(aE:Good T E)(H:ml T)(L:cM E s)(h:(kd T s).2.aD=0):bP E s (kd T s).2 2/\(ea (kd T s).1:Int)<=400*((kd T s).2.at_-s.at_)/\∃d:Nat,s.bO+d<=50/\ed d (kd T s).1:=by
 have m:=λc=>mF aE H L c
 have i1:cM E (bz T s).2:=bP.to L (λy=>(m y).1) af;unfold kd at h ⊢;cases w:aW T (bz T s).2 [61]with
 |true=>
  rw[w,aU]at h;rw[aU];have v:=(dZ w).1;obtain⟨k,Q,d,z,n⟩:=m v;have aX:(bj T [59] (bz T (hO T (bz T s).1 (bz T s).2)).2).aD=0:=h;have O:=λc=>eB aE (s:=bif ig (bz T s).1 then cE T 2 (bz T s).2 else(bz T s).2) (x:=[61]) (λi=>by
   cases j:ig (bz T s).1 with
   |true=>rw[j,aU]at i;exact absurd i (eT b1)
   |false=>rw[aO];exact i1 v) c
  have K:(hO T (bz T s).1 (bz T s).2).aD=0->ig (bz T s).1=U/\bP E (bz T s).2 (hO T (bz T s).1 (bz T s).2) 1:=λc=>by
   have p:=(O c).2.2;cases j:ig (bz T s).1 with
   |true=>
    have:=p.f;rw[j,aU]at this;exact absurd this (eT b1)
   |false=>
    rw[j,aO]at p;unfold hO;rw[j,aO];exact⟨rfl,p⟩
  have i2:cM E (hO T (bz T s).1 (bz T s).2):=λc=>(K c).2.in (i1 v) af
  have u:=λc=>mF aE H i2 c
  have i3:cM E (bz T (hO T (bz T s).1 (bz T s).2)).2:=bP.to i2 (λy=>(u y).1) af;obtain⟨-,-,t3⟩:=eB aE i3 aX;obtain⟨A,aa,F,ab,N⟩:=u t3.f;obtain⟨aZ,B⟩:=K A.f;have R:=k.a;have S:=k.o;have ae:=B.a;have ag:=B.o;have ad:=A.a;have V:=t3.a;have rG:bP E s (bj T [59] (bz T (hO T (bz T s).1 (bz T s).2)).2) 2:=(((k.trans B).trans A).trans t3).less af;simp only[wb];refine⟨rG,?_⟩;cases G:(bz T s).1.kind==4 with
  |true=>
   rw[aU];have l:(bz T s).1.kind=4:=by simpa using G
   have M:dQ (bz T s).1.name=true:=by
    generalize (bz T s).1=e at n l;cases n with
    |par _ h _=>omega
    |var _ h=>exact h
    |bin W m u _ _=>simp only[aJ.kind]at l;omega
    |sign _ m _=>simp only[aJ.kind]at l;omega
    |_=>simp[aJ.kind]at l
   have:=ra (a:={kind:=3,name:=(bz T s).1.name}) (e:=(bz T (hO T (bz T s).1 (bz T s).2)).1) (by have:=eN M;simp;omega);exact⟨af,F,af,.set M N⟩
  |false=>
   rw[aO];have l:(bz T s).1.kind≠4:=by simpa using G
   have j:(bz T s).1.kind=5\/(bz T s).1.kind=6:=by
    unfold ig at aZ;simp only[Bool.and_eq_false_iff,bne_eq_false_iff_eq]at aZ;rcases aZ with q|q|q
    ·exact absurd q l
    ·exact .inl q
    ·exact .inr q
   have:=ND (a:={kind:=4}) (e:=(bz T s).1) (f:=(bz T (hO T (bz T s).1 (bz T s).2)).1) (by simp);exact⟨af,max d F,pP z af,.put j (n.more af) (N.more af)⟩
 |false=>
  rw[w,aO]at h;rw[aO];have aX:(bj T [59] (bif aW T (bz T s).2 [59]&&(bz T s).1.kind != 7 then cE T 2 (bz T s).2 else(bz T s).2)).aD=0:=h;cases i:aW T (bz T s).2 [59]&&(bz T s).1.kind != 7 with
  |true=>
   rw[i,aU]at aX;unfold bj at aX;rw[ew (eT b1),aO,fp (eT b1)]at aX;exact absurd aX (eT b1)
  |false=>
   rw[i,aO]at aX;obtain⟨t1,t2,t3⟩:=eB aE i1 aX;obtain⟨k,Q,d,z,n⟩:=m t3.f;rw[t1,Bool.true_and]at i;have P:(bz T s).1.kind=7:=by simpa using i
   have R:=k.a;have S:=k.o;have V:=t3.a;have:=ra (a:={kind:=9}) (e:=(bz T s).1) (by simp);simp only[aO];exact⟨(k.trans t3).less af,af,d,z,.call P n⟩
def CL(aE:Good T E)(L:ml T):∀n,FI T E n
 |0=>by
  constructor<;>intros<;>rename_i h _<;>first|cases h|skip
 |n+1=>by
  have O:=CL aE L n;refine⟨?_,?_,?_⟩
  ·intro s p v h aF;rw[i_]at h;obtain⟨q,g1,g2⟩:=fo h;cases g2;have i:q.2.aD=0:=by
    have aX:(bj T [125] q.2).aD=0:=aF;unfold bj at aX;cases ap:aW T q.2 [125]with
    |true=>exact(dZ ap).1
    |false=>rw[ap,aO]at aX;exact absurd aX (eT b1)
   obtain⟨j,M,d,G,z⟩:=O.loop [] (cP T [123] s).at_ _ q (λah=>(iO aE v ah).2.2.2.2.1) (λah=>⟨by simp[dv],0,by have:=(iO aE v ah).2.2.2.2.1.d;simpa using this,λx u=>by cases u⟩) g1 i;obtain⟨bE,bX,ck,dr,az,aI⟩:=iO aE v j.f;have N:=pT aE (k:=0) af ck.symm dr.symm bX az j aF;have aH:q.2.at_+1<=(dn T [125] q.2).at_:=by
    have aX:(bj T [125] q.2).aD=0:=aF;exact(eB aE (λ_=>j.in az af) aX).2.2.a
   exact⟨N.less af,by(try simp only);omega,d,af,z⟩
  ·intro l a0 s p v he h aF;rw[mO]at h;cases N:(s.aD==0&& !aW T s [125])with
   |false=>
    rw[N,aO]at h;cases h;exact⟨.refl (v aF) aF,he aF⟩
   |true=>
    rw[N,aU]at h;simp only[Bool.and_eq_true,beq_iff_eq]at N;obtain⟨q,g1,g2⟩:=fo h;have ae:=λi=>O.stmt s q v g1 i
    obtain⟨i2,aA,i3,i4⟩:=he N.1;obtain⟨W,ai,d2,aj,ak⟩:=O.loop (l++[q.1]) a0 q.2 p (bP.to v (λy=>(ae y).1) af) (λi=>by
     obtain⟨j,M,d,G,z⟩:=ae i;refine⟨by rw[Fb];omega,max d aA,by rw[j.o];exact pP G i3,λx u=> ?_⟩;rcases List.mem_append.1 u with u|u
     ·exact(i4 x u).more af
     ·simp only[List.mem_cons,List.not_mem_nil,or_false]at u;subst u;exact z.more af) g2 aF
    have j:=(ae W.f).1;exact⟨(j.trans W).less af,ai,d2,by rw[<-j.o];exact aj,ak⟩
  ·intro s p v h aF;rw[pf]at h;obtain⟨q,g1,g2⟩:=fo h;cases g2;have key:bP E s q.2 2/\(ea q.1:Int)<=400*(q.2.at_-s.at_)/\∃d:Nat,s.bO+d<=50/\ed d q.1:=by
    have i:q.2.aD=0:=aF;clear aF;cases ad:(aW T s [118,97,114]||aW T s [108,101,116])with
    |true=>
     rw[ad,aU]at g1;have m:bP E s (aC s) 1:=by
      rcases Bool.or_eq_true_iff.1 ad with u|u<;>exact fq aE (v (dZ u).1) u
     have w:=m.fJ v af;have S:=m.a;have go:=m.o;have t1:=λi=>E3 aE w i
     have it:cM E (d_ T (aC s)).2:=bP.to w (λy=>(t1 y).2.2) af;cases H:(ao T s.at_).text==[108,101,116]with
     |true=>
      rw[H,aU]at g1;cases g1;have am:=λi=>eB aE (x:=[61]) it i
      have av:cM E (bj T [61] (d_ T (aC s)).2):=bP.to it (λy=>(am y).2.2) af;have au:=λi=>mF aE L av i
      have F:cM E (bz T (bj T [61] (d_ T (aC s)).2)).2:=bP.to av (λy=>(au y).1) af;obtain⟨-,-,dL⟩:=eB aE (x:=[59]) F i;obtain⟨j,M,d,G,z⟩:=au dL.f;obtain⟨-,-,aa⟩:=am j.f;obtain⟨Q,n2,P⟩:=t1 aa.f;have ab:=dL.a;have aw:=j.a;have aJ:=aa.a;have aK:=aa.o;have aG:=P.a;have no:=P.o;have:=ra (a:={kind:=2,name:=(d_ T (aC s)).1.1,cf:=(d_ T (aC s)).1.2.1,c3:=(d_ T (aC s)).1.2.2}) (e:=(bz T (bj T [61] (d_ T (aC s)).2)).1) (by have:=eN Q;have:=fs n2;simp;omega);simp only[qi];exact⟨((((m.trans P).trans aa).trans j).trans dL).less af,af,d,af,.lets Q n2 z⟩
     |false=>
      rw[H,aO]at g1;cases g1;obtain⟨-,-,dL⟩:=eB aE (x:=[59]) it i;obtain⟨Q,n2,P⟩:=t1 dL.f;have ab:=dL.a;have aG:=P.a;have ag:=(v m.f).d;have:=Fa (a:={kind:=1,name:=(d_ T (aC s)).1.1,cf:=(d_ T (aC s)).1.2.1,c3:=(d_ T (aC s)).1.2.2}) (by have:=eN Q;have:=fs n2;simp;omega);simp only[pW];exact⟨((m.trans P).trans dL).less af,af,0,by simpa using ag,.var Q n2⟩
    |false=>
     rw[ad,aO]at g1;cases H:aW T s [105,102]with
     |true=>
      rw[H,aU]at g1;have m:=fq aE (v (dZ H).1) H;have w:=m.fJ v af;have S:=m.a;have go:=m.o;have au:=λi=>mF aE L w i
      have F:cM E (bz T (aC s)).2:=bP.to w (λy=>(au y).1) af;obtain⟨b,g3,g4⟩:=fo g1;have al:=λi=>O.block _ b F g3 i
      cases B:aW T b.2 [101,108,115,101]with
      |true=>
       rw[B,aU]at g4;obtain⟨c,g5,g6⟩:=fo g4;cases g6;have an:=al (dZ B).1;have aq:cM E b.2:=an.1.fJ F af;have V:=fq aE (aq (dZ B).1) B;obtain⟨m1,m2,d2,m3,m4⟩:=O.block _ c (V.fJ aq af) g5 i;obtain⟨A,ax,d1,dI,e0⟩:=an;obtain⟨j,M,d,G,z⟩:=au A.f;have:=wK (a:={kind:=5}) (e:=(bz T (aC s)).1) (b:=b.1) (c:=c.1) (by simp);have aQ:=j.a;have a2:=A.a;have a3:=V.a;have a4:=m1.a;have bE:=j.o;have bX:=A.o;have ck:=V.o;refine⟨((((m.trans j).trans A).trans V).trans m1).less af,by(try simp only);omega,max (d-1) (max d1 d2)+1,af,.ifs (z.more af) (λx u=>(e0 x u).more af) (λx u=>(m4 x u).more af)⟩
      |false=>
       rw[B,aO]at g4;cases g4;obtain⟨A,ax,d1,dI,e0⟩:=al i;obtain⟨j,M,d,G,z⟩:=au A.f;have:=wK (a:={kind:=5}) (e:=(bz T (aC s)).1) (b:=b.1) (c:=[]) (by simp);have aQ:=j.a;have a2:=A.a;have bE:=j.o;have aB:dv []=0:=rfl;refine⟨((m.trans j).trans A).less af,by(try simp only);omega,max (d-1) d1+1,af,.ifs (z.more af) (λx u=>(e0 x u).more af) (λx u=>by cases u)⟩
     |false=>
      rw[H,aO]at g1;cases B:aW T s [119,104,105,108,101]with
      |true=>
       rw[B,aU]at g1;have m:=fq aE (v (dZ B).1) B;have w:=m.fJ v af;have S:=m.a;have go:=m.o;have au:=λi=>mF aE L w i
       have F:cM E (bz T (aC s)).2:=bP.to w (λy=>(au y).1) af;obtain⟨b,g3,g4⟩:=fo g1;cases g4;obtain⟨A,ax,d1,dI,e0⟩:=O.block _ b F g3 i;obtain⟨j,M,d,G,z⟩:=au A.f;have:=wK (a:={kind:=6}) (e:=(bz T (aC s)).1) (b:=b.1) (c:=[]) (by simp);have aQ:=j.a;have a2:=A.a;have bE:=j.o;have aB:dv []=0:=rfl;refine⟨((m.trans j).trans A).less af,by(try simp only);omega,max (d-1) d1+1,af,.while (z.more af) (λx u=>(e0 x u).more af)⟩
      |false=>
       rw[B,aO]at g1;cases R:aW T s [114,101,116,117,114,110]with
       |true=>
        rw[R,aU]at g1;have m:=fq aE (v (dZ R).1) R;have w:=m.fJ v af;have S:=m.a;have go:=m.o;have ag:=(v m.f).d;cases g1;unfold vM at i ⊢;cases K:aW T (aC s) [59]with
        |true=>
         rw[K,aU]at i;rw[aU];obtain⟨-,-,dL⟩:=eB aE (x:=[59]) w i;have ab:=dL.a;have:=Fa (a:={kind:=7}) (by simp);exact⟨(m.trans dL).less af,by(try simp only);omega,0,by simpa using ag,.m_⟩
        |false=>
         rw[K,aO]at i;rw[aO];have au:=λi=>mF aE L w i
         have F:cM E (bz T (aC s)).2:=bP.to w (λy=>(au y).1) af;obtain⟨-,-,dL⟩:=eB aE (x:=[59]) F i;obtain⟨j,M,d,G,z⟩:=au dL.f;have ab:=dL.a;have aw:=j.a;have:=ra (a:={kind:=7}) (e:=(bz T (aC s)).1) (by simp);exact⟨((m.trans j).trans dL).less af,by(try simp only);omega,d,af,.na z⟩
       |false=>
        rw[R,aO]at g1;cases K:aW T s [112,114,105,110,116]with
        |true=>
         rw[K,aU]at g1;have m:=fq aE (v (dZ K).1) K;have w:=m.fJ v af;have S:=m.a;have go:=m.o;cases g1;unfold vE at i ⊢;have au:=λi=>mF aE L w i
         have F:cM E (bz T (aC s)).2:=bP.to w (λy=>(au y).1) af;obtain⟨-,-,dL⟩:=eB aE (x:=[59]) F i;obtain⟨j,M,d,G,z⟩:=au dL.f;have ab:=dL.a;have aw:=j.a;have:=ra (a:={kind:=8}) (e:=(bz T (aC s)).1) (by simp);exact⟨((m.trans j).trans dL).less af,by(try simp only);omega,d,af,.print z⟩
        |false=>
         rw[K,aO]at g1;cases g1;exact Jx aE L v i
   obtain⟨W,ai,d,aj,ak⟩:=key;exact⟨W,by rw[NC];exact ai,d,aj,ak.at _⟩
end
def Tok.cH(t:Tok):Tok:=⟨t.kind,t.text,t.n,0⟩
def ie(T:List Tok):List Tok:=T.map Tok.cH
def aq.cH(s:aq):aq:=⟨s.at_,s.bO,s.aD,0⟩
def bM.cH(a:bM):bM:={a with pos:=0}
mutual
def aJ.cH:aJ->aJ
 | .mk a ks=> .mk a.cH (uh ks)
def uh:List aJ->List aJ
 |[]=>[]
 |e::es=>e.cH::uh es
end
def bZ.cH(a:bZ):bZ:={a with pos:=0}
mutual
def bB.cH:bB->bB
 | .mk a es b c=> .mk a.cH (uh es) (rC b) (rC c)
def rC:List bB->List bB
 |[]=>[]
 |e::es=>e.cH::rC es
end
section
variable {α β:Type}{f:α->α}{h:β->β}
def Hh(c:Bool)(a b:aq):(bif c then a else b).cH=bif c then a.cH else b.cH:=by cases c<;>rfl
end
section
variable (T:List Tok)(s:aq)
def s5(i:Int):ao (ie T) i=(ao T i).cH:=by
 unfold ao ie;rw[List.length_map];split
 ·rfl
 ·rw[List.getElem?_map];cases T[i.toNat]? <;>rfl
def bu(t:Tok):t.cH.kind=t.kind:=rfl
def dV(t:Tok):t.cH.text=t.text:=rfl
def s4(t:Tok):t.cH.n=t.n:=rfl
def sW:s.cH.at_=s.at_:=rfl
def wc:s.cH.aD=s.aD:=rfl
def Ia(k:Int)(x:aB):b8 (ie T) s.cH k x=b8 T s k x:=by unfold b8;rw[sW,wc,s5,bu,dV]
def uj(e:Int):cE (ie T) e s.cH=(cE T e s).cH:=by
 unfold cE;rw[wc];split
 ·rw[s5,sW];rfl
 ·rfl
def rI:aC s.cH=(aC s).cH:=rfl
def qb(x:aB):aW (ie T) s.cH x=aW T s x:=Ia T s _ x
def M_(x:aB):bj (ie T) x s.cH=(bj T x s).cH:=by
 unfold bj;rw[qb,rI,uj,Hh]
def I2:bp (ie T) s.cH=((bp T s).1,(bp T s).2.cH):=by
 unfold bp;rw[wc,sW,s5,bu,dV,rI,uj];cases(s.aD==0&&(ao T s.at_).kind==1)<;>rfl
def wv(x:aB):∀(n:Nat) (s:aq),takeN (ie T) x n s.cH=(takeN T x n s).cH
 |0,_=>rfl
 |n+1,s=>by rw[takeN,takeN,M_,wv x n]
def Cp:∀(n:Nat) (d:Int) (s:aq),ek (ie T) n d s.cH=match ek T n d s with
  | .inl p=> .inl (p.1,p.2.cH)
  | .inr s'=> .inr s'.cH
 |0,d,s=>by
  rw[ek,ek,qb,uj];cases aW T s [91]<;>rfl
 |n+1,d,s=>by
  rw[ek,ek,qb,rI,Cp n];cases aW T s [91]<;>rfl
def I9(d:Int):eH (ie T) d s.cH=((eH T d s).1,(eH T d s).2.cH):=by
 unfold eH;rw[qb,qb,sW,s5,dV,rI,wv,I2,wv];cases(aW T s [105,110,116]||aW T s [98,111,111,108])<;>rfl
def Ja:b_ (ie T) s.cH=((b_ T s).1,(b_ T s).2.cH):=by
 unfold b_;rw[Cp];cases ek T 3 0 s with
 |inl p=>exact I9 T p.2 p.1
 |inr s'=>rfl
end
def b5.cH(p:b5):b5:={p with pos:=0}
def e3.cH(r:e3):e3:=⟨r.name,r.fields.map b5.cH,0⟩
def Fn.cH(f:Fn):Fn:=⟨f.name,f.params.map b5.cH,f.has,f.dF,f.rd,rC f.body,0⟩
def dm.cH(g:dm):dm:=⟨g.c_.map e3.cH,g.globals.map b5.cH,g.funcs.map Fn.cH⟩
section
variable (T:List Tok)(s:aq)
