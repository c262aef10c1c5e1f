/-
  Texts of one proof, laid together: T1 Sq Pa Pb Pc Pd Ea Eb.
-/
import Derived.Test.YtghmbpmaafnodaaDoorMG
set_option linter.unusedVariables false
set_option linter.unusedSimpArgs false
set_option linter.defProp false
open Option renaming some→D,none→C
open Bool renaming true→X,false→U
namespace Go.Proofs.YtghmbpmaafnodaaDoor
open Go.bs
structure b9 where
 kind:Int
 name:aC:=[]
 cf:aC:=[]
 cS:Int:=0
 pos:Int:=0
 ref:Int:=0
inductive bM where
 |mk (a:b9) (es:List aA) (body els:List bM)
def bM.zero:bM:= .mk {kind:=0} [] [] []
def bM.at(p:Int):bM->bM
 | .mk a es b c=> .mk {a with pos:=p} es b c
def aA.kind:aA->Int
 | .mk a _=>a.kind
def aA.name:aA->aC
 | .mk a _=>a.name
def iD(e:aA):Bool:=e.kind != 4&&(e.kind != 5&&e.kind != 6)
def lv(T:List Tok)(e:aA)(s:au):au:=(eG T [61] (bif iD e then cQ T 2 s else s)).2
def bK(T:List Tok)(s:au):aA×au:=match dd T 800000000 0 s with
 |some p=>p
 |none=>(.zero,s)
def et(T:List Tok)(s:au):(aC×aC×Int)×au:=(((bA T s).1,(cI T (bo T [58] (bA T s).2)).1),(cI T (bo T [58] (bA T s).2)).2)
def q2(T:List Tok)(s:au):bM×au:=(.mk {kind:=1,name:=(et T s).1.1,cf:=(et T s).1.2.1,cS:=(et T s).1.2.2} [] [] [],bo T [59] (et T s).2)
def rr(T:List Tok)(s:au):bM×au:=(.mk {kind:=2,name:=(et T s).1.1,cf:=(et T s).1.2.1,cS:=(et T s).1.2.2} [(bK T (bo T [61] (et T s).2)).1] [] [],bo T [59] (bK T (bo T [61] (et T s).2)).2)
def xo(T:List Tok)(s:au):bM×au:=bif aY T s [59]then(.mk {kind:=7} [] [] [],bo T [59] s)else(.mk {kind:=7} [(bK T s).1] [] [],bo T [59] (bK T s).2)
def xh(T:List Tok)(s:au):bM×au:=(.mk {kind:=8} [(bK T s).1] [] [],bo T [59] (bK T s).2)
def h8(T:List Tok)(e:aA)(s:au):au:=bo T [61] (bif iD e then cQ T 2 s else s)
def xI(T:List Tok)(e:aA)(s:au):bM×au:=(bif e.kind==4 then .mk {kind:=3,name:=e.name} [(bK T (h8 T e s)).1] [] []else .mk {kind:=4} [e,(bK T (h8 T e s)).1] [] [],bo T [59] (bK T (h8 T e s)).2)
def kR(T:List Tok)(s:au):bM×au:=bif aY T (bK T s).2 [61]then xI T (bK T s).1 (bK T s).2 else(.mk {kind:=9} [(bK T s).1] [] [],bo T [59] (bif aY T (bK T s).2 [59]&&(bK T s).1.kind != 7 then cQ T 2 (bK T s).2 else(bK T s).2))
mutual
def jv(T:List Tok):Nat->au->ae (List bM)
 |0,_=>C
 |n+1,s=>(nY T n [] (cJ T [123] s)).bind λp=>D (p.1,dc T [125] p.2)
def nY(T:List Tok):Nat->List bM->au->ae (List bM)
 |0,_,_=>C
 |n+1,l,s=>bif s.aG==0&& !aY T s [125]then(qn T n s).bind λp=>nY T n (l++[p.1]) p.2 else D (l,s)
def qn(T:List Tok):Nat->au->ae bM
 |0,_=>C
 |n+1,s=>(bif aY T s [118,97,114]||aY T s [108,101,116]then D (bif (al T s.at_).text==[108,101,116]then rr T (aF s)else q2 T (aF s))
  else bif aY T s [105,102]then(jv T n (bK T (aF s)).2).bind λb=>bif aY T b.2 [101,108,115,101]then
   (jv T n (aF b.2)).bind λc=>D (.mk {kind:=5} [(bK T (aF s)).1] b.1 c.1,c.2)else D (.mk {kind:=5} [(bK T (aF s)).1] b.1 [],b.2)
  else bif aY T s [119,104,105,108,101]then(jv T n (bK T (aF s)).2).bind λb=>D (.mk {kind:=6} [(bK T (aF s)).1] b.1 [],b.2)
  else bif aY T s [114,101,116,117,114,110]then D (xo T (aF s))
  else bif aY T s [112,114,105,110,116]then D (xh T (aF s))
  else D (kR T s)).bind λp=>D (p.1.at (al T s.at_).pos,p.2)
end
structure ch where
 name:aC
 cf:aC
 cS:Int
 pos:Int
structure fo where
 name:aC
 fields:List ch
 pos:Int
structure Fn where
 name:aC
 params:List ch
 has:Bool
 dS:aC
 rd:Int
 body:List bM
 pos:Int
structure dv where
 dk:List fo
 globals:List ch
 funcs:List Fn
def dv.none:dv:=⟨[],[],[]⟩
def dQ(T:List Tok)(s:au):ch×au:=(⟨(et T s).1.1,(et T s).1.2.1,(et T s).1.2.2,(al T s.at_).pos⟩,(et T s).2)
def ps(T:List Tok):Nat->List ch->au->ae (List ch)
 |0,_,_=>C
 |n+1,l,s=>bif s.aG==0&& !aY T s [125]then
  (bif (al T s.at_).kind==1&&l.length==8 then D (l,cQ T 4 s)else ps T n (l++[(dQ T s).1]) (bo T [59] (dQ T s).2))
  else D (l,s)
def ob(T:List Tok)(n:Nat)(s:au):ae fo:=(ps T n [] (bo T [123] (bA T s).2)).bind λp=>D (⟨(bA T s).1,p.1,(al T s.at_).pos⟩,bo T [125] p.2)
def mm(T:List Tok)(s:au):au:=bif aY T (bo T [44] s) [41]then cQ T 2 (bo T [44] s)else bo T [44] s
def pR(T:List Tok):Nat->List ch->au->ae (List ch)
 |0,_,_=>C
 |n+1,l,s=>bif s.aG==0&& !aY T s [41]then
  (bif (al T s.at_).kind==1&&l.length==6 then D (l,cQ T 4 s)else
   pR T n (l++[(dQ T s).1]) (bif aY T (dQ T s).2 [41]then(dQ T s).2 else mm T (dQ T s).2))
  else D (l,s)
def gW(T:List Tok)(s:au):(Bool×aC×Int)×au:=bif aY T s [58]then((X,(cI T (aF s)).1),(cI T (aF s)).2)else((U,[],0),s)
def nS(T:List Tok)(n:Nat)(s:au):ae Fn:=(pR T n [] (bo T [40] (bA T s).2)).bind λp=>(jv T n (gW T (bo T [41] p.2)).2).bind λb=>D (⟨(bA T s).1,p.1,(gW T (bo T [41] p.2)).1.1,(gW T (bo T [41] p.2)).1.2.1,(gW T (bo T [41] p.2)).1.2.2,b.1,(al T s.at_).pos⟩,b.2)
def isRec(T:List Tok)(s:au):Bool:=aY T s [114,101,99,111,114,100]
def j6(T:List Tok)(s:au):Bool:=aY T s [103,108,111,98,97,108]
def isFun(T:List Tok)(s:au):Bool:=aY T s [102,117,110,99]
def hG(T:List Tok)(N:Nat):Nat->dv->au->ae dv
 |0,_,_=>C
 |n+1,g,s=>bif s.aG==0&&(al T s.at_).kind != 0 then
  (bif (isRec T s&&g.dk.length==12)||((j6 T s&&g.globals.length==8)||(isFun T s&&g.funcs.length==16))then hG T N n g (cQ T 4 s)
  else bif isRec T s then(ob T N (aF s)).bind λp=>hG T N n {g with dk:=g.dk++[p.1]} p.2
  else bif j6 T s then hG T N n {g with globals:=g.globals++[(dQ T (aF s)).1]} (bo T [59] (dQ T (aF s)).2)
  else bif isFun T s then(nS T N (aF s)).bind λp=>hG T N n {g with funcs:=g.funcs++[p.1]} p.2
  else hG T N n g (cQ T 2 s))
  else D (g,s)
def xi(g:dv)(s:au):dv×Int×Int:=if s.aG=0 then(g,0,0)else(.none,s.aG,s.cP)
def fY:Nat->Nat->aC->aC
 |0,_,a=>a
 |f+1,n,a=>if n/10=0 then UInt8.ofNat (48+n%10)::a else fY f (n/10) (UInt8.ofNat (48+n%10)::a)
def g_(t:Tok):aC:=bif t.kind==2 then fY 20 t.n.toNat []else t.text
def h6(t:Tok):Prop:=(t.kind=1/\t.n=0/\dP t.text=X)\/(t.kind=3/\t.n=0/\fm t.text=X)\/(t.kind=2/\t.text=[]/\0<=t.n/\t.n<=9223372036854775807)\/(t.kind=4/\t.n=0/\(e4 t.text hM=X\/∃c,t.text=[c]/\hE c gG=X))
def ka(t:Tok)(b:UInt8):Bool:=bif t.kind==4 then(t.text.length==2|| !e4 (t.text++[b]) hM)&& !(t.text==[47]&&b==47)else !c8 b&& !dh b
def lF(t:Tok):aC->Bool
 |[]=>X
 |b::_=>ka t b
def rQ:(10:Nat)^20=100000000000000000000:=bf
def vB(k:Nat)(h:k<10):(UInt8.ofNat (48+k)).toNat=48+k:=by
 simp only[UInt8.toNat_ofNat'];omega
def sM{c:UInt8}:dh c=X↔48<=c.toNat/\c.toNat<=57:=by
 simp only[dh,mo,Bool.and_eq_true,decide_eq_true_eq];omega
def CU{c:UInt8}:c8 c=X↔(97<=c.toNat/\c.toNat<=122)\/(65<=c.toNat/\c.toNat<=90):=by
 simp only[c8,kK,Bool.or_eq_true,Bool.and_eq_true,decide_eq_true_eq];omega
def G0:∀(f n:Nat) (a:aC),n<10^f->0<f->n<=9223372036854775807->hx 0 (fY f n a)=hx (n:Int) a
 |0,_,_,_,d,_=>af
 |f+1,n,a,e,_,hm=>by
  rw[fY];have c:(UInt8.ofNat (48+n%10)).toNat=48+n%10:=vB _ af;split
  ·rename_i h;rw[hx,c];rw[if_neg af]
   congr 1
   omega
  ·rename_i h;have d:0<f:=by
    cases f with
    |zero=>exfalso;simp at e;omega
    |succ f=>omega
   rw[G0 f (n/10) _ (by rw[Nat.pow_succ]at e;omega) d af,hx,c];rw[if_neg af]
   congr 1
   omega
def vy:∀(f n:Nat) (a:aC),(∀c∈a,dh c=X)->∀c∈fY f n a,dh c=X
 |0,_,_,h=>h
 |f+1,n,a,h=>by
  have e:dh (UInt8.ofNat (48+n%10))=true:=by rw[sM,vB _ af];omega
  have aZ:∀c∈UInt8.ofNat (48+n%10)::a,dh c=true:=by
   intro c d;rcases List.mem_cons.1 d with rfl|d
   ·exact e
   ·exact h c d
  rw[fY];split
  ·exact aZ
  ·exact vy f _ _ aZ
def vz:∀(f n:Nat) (a:aC),n<10^f->0<f->∃c r,fY f n a=c::r/\(c.toNat=48->n=0/\r=a)
 |0,_,_,_,i=>af
 |f+1,n,a,j,_=>by
  rw[fY];split
  ·rename_i d;refine⟨_,_,rfl,λh=> ?_⟩;rw[vB _ af]at h;exact⟨af,rfl⟩
  ·rename_i d;have i:0<f:=by
    cases f with
    |zero=>exfalso;simp at j;omega
    |succ f=>omega
   obtain⟨c,r,e,h⟩:=vz f (n/10) (UInt8.ofNat (48+n%10)::a) (by rw[Nat.pow_succ]at j;omega) i;exact⟨c,r,e,λk=>absurd (h k).1 d⟩
def zR:∀(f n:Nat) (a:aC),(fY f n a).length<=f+a.length
 |0,_,_=>by simp[fY]
 |f+1,n,a=>by
  rw[fY];split
  ·rw[List.length_cons];omega
  ·have:=zR f (n/10) (UInt8.ofNat (48+n%10)::a);rw[List.length_cons]at this;omega
def xA{d:Bool}{w:aC}(a:∀b r,w=b::r->c8 b=U/\dh b=U):∀x:aC,(∀c∈x,(dh c||(!d&&c8 c))=X)->runN d (x++w)=x.length
 |[],_=>by
  rcases w with _|⟨b,r⟩
  ·rfl
  ·obtain⟨e,i⟩:=a b r rfl;simp[runN,e,i]
 |c::x,h=>by
  rw[List.cons_append,runN,h c (List.mem_cons_self),aW,xA a x (λc j=>h c (List.mem_cons_of_mem _ j)),List.length_cons]
def Fa{d:Bool}:∀s:aC,∀c∈s.take (runN d s),(dh c||(!d&&c8 c))=X
 |[],_,h=>by simp[runN]at h
 |c::r,x,h=>by
  rw[runN]at h;cases a:(dh c||(!d&&c8 c))with
  |false=>rw[a]at h;simp at h
  |true=>
   rw[a]at h;simp only[aW,List.take_succ_cons,List.mem_cons]at h;rcases h with rfl|h
   ·exact a
   ·exact Fa r x h
def GZ:∀(l:aC) (a v:Int),(∀c∈l,dh c=X)->0<=a->a<=9223372036854775807->hx a l=D v->0<=v/\v<=9223372036854775807
 |[],a,v,_,i,j,h=>by simp only[hx,aV]at h;omega
 |c::r,a,v,e,i,j,h=>by
  rw[hx]at h;have d:=sM.1 (e c (List.mem_cons_self));split at h
  ·cases h
  ·exact GZ r _ v (λc d=>e c (List.mem_cons_of_mem _ d)) af af h
def Dw:∀(l:aC) (c:UInt8),hE c l=X->c∈l
 |[],_,h=>by simp[hE]at h
 |y::a,c,h=>by
  rw[hE]at h;rcases Bool.or_eq_true_iff.1 h with h|h
  ·have:=UInt8.toNat_inj.1 (by simpa using h);exact this▸List.mem_cons_self
  ·exact List.mem_cons_of_mem _ (Dw a c h)
def wQ:∀(l:List aC) (c:aC),e4 c l=X->c∈l
 |[],_,h=>by simp[e4]at h
 |y::a,c,h=>by
  rw[e4]at h;rcases Bool.or_eq_true_iff.1 h with h|h
  ·have:y=c:=by simpa using h
   exact this▸List.mem_cons_self
  ·exact List.mem_cons_of_mem _ (wQ a c h)
def yJ:∀x:aC,js x=X↔∀c∈x,(dh c||(!U&&c8 c))=X
 |[]=>by simp[js]
 |c::r=>by
  have:=yJ r;simp only[js,Bool.and_eq_true,List.mem_cons,forall_eq_or_imp,this,Bool.not_false,Bool.true_and];rw[Bool.or_comm]
def La{s:aC}{t:Tok}{m:Nat}(h:ga s=D (t.kind,t.text,t.n,m)):h6 t:=by
 obtain⟨k,x,z,p⟩:=t;rcases s with _|⟨c,r⟩
 ·simp[ga]at h
 rw[ga]at h;cases o:c8 c with
 |true=>
  rw[o,aW]at h;generalize (c::r).take (runN U (c::r))=y at*;cases hw:fm y with
  |true=>
   rw[hw,aW]at h;simp only[aV,b4]at h;obtain⟨rfl,rfl,rfl,-⟩:=h;exact .inr (.inl ⟨rfl,rfl,hw⟩)
  |false=>
   rw[hw,aR]at h;cases e:dP y with
   |false=>rw[e]at h;cases h
   |true=>
    rw[e,aW]at h;simp only[aV,b4]at h;obtain⟨rfl,rfl,rfl,-⟩:=h;exact .inl ⟨rfl,rfl,e⟩
 |false=>
  rw[o,aR]at h;cases l:dh c with
  |true=>
   rw[l,aW]at h;have u:=Fa (d:=true) (c::r);cases hw:hx 0 ((c::r).take (runN X (c::r)))with
   |none=>rw[hw]at h;cases h
   |some v=>
    rw[hw]at h;simp only at h;have A:=GZ _ 0 v (λc w=>by simpa using u c w) af af hw;cases q:((decide (1<runN X (c::r))&&c.toNat==48)||(decide (runN X (c::r)<(c::r).length)&&c8 (((c::r)[runN X (c::r)]?).getD 0)))with
    |true=>rw[q]at h;cases h
    |false=>
     rw[q]at h;simp only[aR,aV,b4]at h;obtain⟨rfl,rfl,rfl,-⟩:=h;exact .inr (.inr (.inl ⟨rfl,rfl,A⟩))
  |false=>
   rw[l,aR]at h;cases ax:gZ (c::r)==[]with
   |true=>rw[ax]at h;cases h
   |false=>
    rw[ax,aR]at h;simp only[aV,b4]at h;obtain⟨rfl,rfl,rfl,-⟩:=h;refine .inr (.inr (.inr ⟨rfl,rfl,?_⟩));have a:(gZ (c::r)==[])=false:=ax;show e4 (gZ (c::r)) hM=X\/∃d,gZ (c::r)=[d]/\hE d gG=X;unfold gZ at a ⊢;cases i:(decide (2<=(c::r).length)&&e4 ((c::r).take 2) hM)with
    |true=>rw[aW];exact .inl (Bool.and_eq_true_iff.1 i).2
    |false=>
     rw[i]at a;simp only[aR]at a ⊢;cases j:hE c gG with
     |false=>rw[j]at a;cases a
     |true=>exact .inr ⟨c,rfl,j⟩
def IB{c:UInt8}(h:hC c=U)(aZ:c.toNat≠47)(w:aC):cG U (c::w)=0:=by
 have:(c==47)=false:=by
  rw[beq_eq_false_iff_ne];intro e;subst e;exact aZ rfl
 rw[cG,h,this];rfl
def zu{c:UInt8}(h:c8 c=X\/dh c=X)(w:aC):cG U (c::w)=0:=by
 have:(97<=c.toNat/\c.toNat<=122)\/(65<=c.toNat/\c.toNat<=90)\/(48<=c.toNat/\c.toNat<=57):=by
  rcases h with h|h
  ·have:=CU.1 h;omega
  ·have:=sM.1 h;omega
 exact IB (by simp only[hC,Bool.or_eq_false_iff,beq_eq_false_iff_ne];omega) af w
def Lc:gG.all (λc=> !c8 c&& !dh c&& !hC c)=true:=by decide+kernel
def P1:oZ.all (λx=>c8 (x.headD 0)&&js x&&decide (1<=x.length))=true:=by decide+kernel
def D0{x w:aC}{b:Bool}(k:b=fm x)(i:1<=x.length)(l:c8 (x.headD 0)=X)(j:js x=X)(m:b=X\/dP x=X)(hw:∀b r,w=b::r->c8 b=U/\dh b=U):ga (x++w)=D (bif b then 3 else 1,x,0,x.length)/\cG U (x++w)=0/\x≠[]:=by
 rcases x with _|⟨c,x⟩
 ·simp at i
 have h:c8 c=true:=l;have a:=xA (d:=false) hw (c::x) ((yJ _).1 j);refine⟨?_,?_,by simp⟩
 ·rw[List.cons_append,ga];rw[List.cons_append]at a;simp only[h,aW];have e:(c::(x++w)).take (runN U (c::(x++w)))=c::x:=by
   rw[a,<-List.cons_append,List.take_left'];rfl
  rw[e,a,<-k];cases b with
  |true=>rfl
  |false=>rw[m.resolve_left (by simp)];rfl
 ·rw[List.cons_append];exact zu (.inl h) _
def EI{t:Tok}(h:h6 t)(w:aC)(j:lF t w=X):ga (g_ t++w)=D (t.kind,t.text,t.n,(g_ t).length)/\cG U (g_ t++w)=0/\g_ t≠[]:=by
 obtain⟨k,x,z,p⟩:=t;have i:k≠4->∀b r,w=b::r->c8 b=U/\dh b=false:=by
  rintro v b r rfl;have:(k==4)=false:=by simpa using v
  simpa [lF,ka,this]using j
 rcases h with⟨rfl,rfl,h⟩|⟨rfl,rfl,h⟩|⟨rfl,rfl,q,s⟩|⟨rfl,rfl,h⟩
 ·simp only at h;have e:g_ ⟨1,x,0,p⟩=x:=rfl;rw[e];have aZ:=h;simp only[dP,Bool.and_eq_true,decide_eq_true_eq,Bool.not_eq_true']at aZ;exact D0 (b:=false) aZ.2.2.2.1.symm aZ.1 aZ.2.2.1 aZ.2.2.2.2 (.inr h) (i bf)
 ·simp only at h;have e:g_ ⟨3,x,0,p⟩=x:=rfl;rw[e];have hm:=List.all_eq_true.1 P1 x (wQ _ _ h);simp only[Bool.and_eq_true,decide_eq_true_eq]at hm;exact D0 (b:=true) h.symm hm.2 hm.1.1 hm.1.2 (.inl rfl) (i bf)
 ·obtain⟨n,rfl⟩:∃n:Nat,z=n:=⟨z.toNat,by simp only at q;omega⟩;have B:n<=9223372036854775807:=by simp only at s;omega
  have e:g_ ⟨2,[],(n:Int),p⟩=fY 20 n []:=rfl;rw[e];have o:=vy 20 n [] (by simp);have E:=G0 20 n [] (by rw[rQ];omega) af B;obtain⟨c',cx,a,u⟩:=vz 20 n [] (by rw[rQ];omega) af;generalize fY 20 n []=y at*;subst a;have l:=o c' List.mem_cons_self;have F:=sM.1 l;have A:c8 c'=false:=by
   rw[<-Bool.not_eq_true,CU];omega
  have i:=i bf;have m:=xA (d:=true) i (c'::cx) (λc a=>by simp[o c a]);refine⟨?_,by rw[List.cons_append];exact zu (.inr l) _,by simp⟩;rw[List.cons_append,ga];rw[List.cons_append]at m;simp only[A,l,aW,aR];have aE:(c'::(cx++w)).take (runN X (c'::(cx++w)))=c'::cx:=by
   rw[m,<-List.cons_append,List.take_left'];rfl
  rw[aE,E,m];simp only[hx];have b8:(decide (1<(c'::cx).length)&&c'.toNat==48)=false:=by
   rw[Bool.and_eq_false_iff];by_cases a:c'.toNat=48
   ·left;rw[(u a).2];rfl
   ·right;simpa using a
  have dK:(decide ((c'::cx).length<(c'::(cx++w)).length)&&c8 (((c'::(cx++w))[(c'::cx).length]?).getD 0))=false:=by
   have bn:(c'::(cx++w))[(c'::cx).length]? =w[0]? :=by
    rw[<-List.cons_append,List.getElem?_append_right (bj _),Nat.sub_self]
   rw[bn];rcases w with _|⟨b,r⟩
   ·simp
   ·simp[(i b r rfl).1]
  rw[b8,dK,Bool.or_false,aR]
 ·simp only at h;have e:g_ ⟨4,x,0,p⟩=x:=rfl;rw[e];rcases h with h|⟨c,rfl,h⟩
  ·have hm:=wQ _ _ h;simp only[hM,List.mem_cons,List.not_mem_nil,or_false]at hm;rcases hm with rfl|rfl|rfl|rfl|rfl<;>exact⟨rfl,rfl,by simp⟩
  ·have hm:=List.all_eq_true.1 Lc c (Dw _ _ h);simp only[Bool.and_eq_true,Bool.not_eq_true']at hm;have ax:gZ (c::w)=[c]:=by
    unfold gZ;have:(decide (2<=(c::w).length)&&e4 ((c::w).take 2) hM)=false:=by
     rcases w with _|⟨b,r⟩
     ·rfl
     ·simp only[lF,ka,beq_self_eq_true,aW,Bool.and_eq_true,Bool.or_eq_true,List.length_singleton]at j;have:=j.1.resolve_left bf;simp only[List.singleton_append,Bool.not_eq_true']at this;have e:(c::b::r).take 2=[c,b]:=rfl;rw[e,this,Bool.and_false]
    rw[this];simp[h]
   refine⟨?_,?_,by simp⟩
   ·rw[List.singleton_append,ga];simp only[hm.1.1,hm.1.2,aR,ax];rfl
   ·rw[List.singleton_append,cG,hm.2,aR];have:(c==47&&w.head?==D 47)=false:=by
     rcases w with _|⟨b,r⟩
     ·simp
     ·simp only[lF,ka,beq_self_eq_true,aW,Bool.and_eq_true]at j;have:=j.2;simp only[Bool.not_eq_true',Bool.and_eq_false_iff]at this ⊢;rcases this with h|h
      ·left;simpa using h
      ·right;simpa using h
    rw[this,aR]
inductive bF where
 |t (bJ:Tok)
 |b (s:aC)
def bF.oW:bF->aC
 | .t bJ=>g_ bJ
 | .b s=>s
def flat:List bF->aC
 |[]=>[]
 |p::r=>p.oW++flat r
def bz:List bF->List Tok
 |[]=>[]
 | .t t::r=>t::bz r
 | .b _::r=>bz r
def iz:List bF->Prop
 |[]=>True
 | .t t::r=>h6 t/\lF t (flat r)=X/\iz r
 | .b s::r=>s.all hC=X/\iz r
def mJ:List bF->Nat->List Tok
 |[],p=>[⟨0,[],0,p⟩]
 | .t t::r,p=>⟨t.kind,t.text,t.n,p⟩::mJ r (p+(g_ t).length)
 | .b s::r,p=>mJ r (p+s.length)
def db:∀a b:List bF,flat (a++b)=flat a++flat b
 |[],_=>rfl
 |p::r,b=>by rw[List.cons_append,flat,db r b,flat,List.append_assoc]
def hL:∀a b:List bF,bz (a++b)=bz a++bz b
 |[],_=>rfl
 | .t t::r,b=>by rw[List.cons_append,bz,hL r b,bz,List.cons_append]
 | .b s::r,b=>by rw[List.cons_append,bz,hL r b,bz]
def zv:∀(s w:aC),s.all hC=X->cG U (s++w)=s.length+cG U w
 |[],w,_=>by simp
 |c::s,w,h=>by
  simp only[List.all_cons,Bool.and_eq_true]at h;rw[List.cons_append,cG,h.1,aW,zv s w h.2,List.length_cons];omega
def wK:∀(a:List bF) (n p:Nat),iz a->(bz a).length<n->fG n ((flat a).drop (cG U (flat a))) (p+cG U (flat a))= .inr (mJ a p)
 |_,0,_,_,h=>af
 |[],n+1,p,_,_=>rfl
 | .b s::r,n+1,p,h,d=>by
  rw[iz]at h;have o:=zv s (flat r) h.1;have i:=wK r (n+1) (p+s.length) h.2 d;rw[flat,bF.oW,o,<-List.drop_drop,List.drop_left',<-Nat.add_assoc]
  ·exact i
  ·rfl
 | .t t::r,n+1,p,h,d=>by
  rw[iz]at h;obtain⟨j,k,m⟩:=EI h.1 (flat r) h.2.1;have i:=wK r n (p+(g_ t).length) h.2.2 (by simpa [bz]using d);have l:cG U (flat (.t t::r))=0:=k;rw[l,List.drop_zero,Nat.add_zero];show fG (n+1) (g_ t++flat r) p=_;rcases e:g_ t++flat r with _|⟨c,x⟩
  ·exact absurd (List.append_eq_nil_iff.1 e).1 m
  have q:(c::x).drop (g_ t).length=flat r:=by rw[<-e,List.drop_left'];rfl
  rw[e]at j;rw[fG,j];simp only[q];rw[i];rfl
def uE:∀a:List bF,iz a->(bz a).length<=(flat a).length
 |[],_=>bj _
 | .b s::r,h=>by
  rw[iz]at h;have:=uE r h.2;simp only[bz,flat,bF.oW,List.length_append];omega
 | .t t::r,h=>by
  rw[iz]at h;have d:=uE r h.2.2;obtain⟨-,-,c⟩:=EI h.1 (flat r) h.2.1;have:(g_ t).length≠0:=λe=>c (List.length_eq_zero_iff.1 e)
  simp only[bz,flat,bF.oW,List.length_append,List.length_cons];omega
def Px{a:List bF}(h:iz a)(c:(flat a).length<=6000):dx (flat a)=(mJ a 0,0,0):=by
 unfold dx;rw[if_neg af,pH];have:=wK a ((flat a).length+1) 0 h (by have:=uE a h;omega);rw[Nat.zero_add]at this;rw[this]
def C0:∀(n:Nat) (s:aC) (p:Nat) (l:List Tok),fG n s p= .inr l->∀t∈l,h6 t\/t.kind=0
 |0,_,_,_,h=>by cases h
 |n+1,[],p,l,h=>by cases h;intro t a;simp only[List.mem_cons,List.not_mem_nil,or_false]at a;subst a;exact .inr rfl
 |n+1,c::r,p,l,h=>by
  rw[fG]at h;split at h
  ·cases h
  ·rename_i k t v m e;split at h
   ·cases h
   ·rename_i l' d;cases h;intro u hu;rcases List.mem_cons.1 hu with rfl|hu
    ·exact .inl (La (t:=⟨k,t,v,p⟩) e)
    ·exact C0 n _ _ _ d u hu
def Gh{s:aC}:∀t∈(dx s).1,h6 t\/t.kind=0:=by
 unfold dx;split
 ·intro t a;cases a
 ·cases h:pH s with
  |inl e=>intro t a;cases a
  |inr l=>exact C0 _ _ _ _ h
def cm(k:Int):Nat:=if k=24 then 1 else if k=23 then 2 else if 19<=k/\k<=22 then 3 else if k=14\/k=15 then 4 else if 16<=k/\k<=18 then 5 else if k=12\/k=13 then 6 else 7
def aA.b0(e:aA):Nat:=cm e.kind
def ix(x:aC)(d:Int):Prop:=0<=d/\d<=3/\(dP x=X\/x=[105,110,116]\/x=[98,111,111,108])
inductive ct:Nat->Nat->aA->Prop
 |par {d m e}:ct d 0 e->e.b0<m->m<=7->ct (d+1) m e
 |int {d m n p}:m<=7->0<=n->n<=9223372036854775807->ct d m (.mk {kind:=1,n:=n,pos:=p} [])
 |bool {d m n p}:m<=7->n=0\/n=1->ct d m (.mk {kind:=2,n:=n,pos:=p} [])
 |null {d m x z p}:m<=7->ix x z->ct d m (.mk {kind:=3,cf:=x,cS:=z,pos:=p} [])
 |var {d m x p}:m<=7->dP x=true->ct d m (.mk {kind:=4,name:=x,pos:=p} [])
 |field {d m x p e}:m<=7->dP x=true->ct d 7 e->ct d m (.mk {kind:=5,name:=x,pos:=p} [e])
 |item {d m p e i}:m<=7->ct (d+1) 7 e->ct d 0 i->ct (d+1) m (.mk {kind:=6,pos:=p} [e,i])
 |call {d m x p l}:m<=7->dP x=true->(∀e∈l,ct d 0 e)->ct (d+1) m (.mk {kind:=7,name:=x,pos:=p} l)
 |new {d m x p}:m<=7->dP x=true->ct d m (.mk {kind:=8,cf:=x,pos:=p} [])
 |make {d m x z p e}:m<=7->ix x z->ct d 0 e->ct (d+1) m (.mk {kind:=9,cf:=x,cS:=z,pos:=p} [e])
 |len {d m p e}:m<=7->ct d 0 e->ct (d+1) m (.mk {kind:=10,pos:=p} [e])
 |read {d m p}:m<=7->ct (d+1) m (.mk {kind:=11,pos:=p} [])
 |sign {d m k p e}:m<=6->k=12\/k=13->ct d 6 e->ct (d+1) m (.mk {kind:=k,pos:=p} [e])
 |bin {d m k p a b}:m<=cm k->14<=k->k<=24->ct d (cm k) a->ct d (cm k+1) b->ct d m (.mk {kind:=k,pos:=p} [a,b])
def KP{k:Int}(h:14<=k)(aZ:k<=24):1<=cm k/\cm k<=5:=by
 unfold cm;(repeat' split)<;>omega
def wP(k:Int):1<=cm k/\cm k<=7:=by
 unfold cm;(repeat' split)<;>omega
def ct.more{d m:Nat}{e:aA}(h:ct d m e):∀{a:Nat},d<=a->ct a m e:=by
 induction h with
 |par _ n o l=>intro a j;obtain⟨k,rfl⟩:∃k,a=k+1:=⟨a-1,af⟩;exact .par (l af) n o
 |int c i n=>intro a _;exact .int c i n
 |bool c i=>intro a _;exact .bool c i
 |null c i=>intro a _;exact .null c i
 |var c i=>intro a _;exact .var c i
 |field c i _ l=>intro a j;exact .field c i (l j)
 |item c _ _ ih1 ih2=>intro a j;obtain⟨k,rfl⟩:∃k,a=k+1:=⟨a-1,af⟩;exact .item c (ih1 j) (ih2 af)
 |call c i _ l=>intro a j;obtain⟨k,rfl⟩:∃k,a=k+1:=⟨a-1,af⟩;exact .call c i λe he=>l e he af
 |new c i=>intro a _;exact .new c i
 |make c i _ l=>intro a j;obtain⟨k,rfl⟩:∃k,a=k+1:=⟨a-1,af⟩;exact .make c i (l af)
 |len c _ l=>intro a j;obtain⟨k,rfl⟩:∃k,a=k+1:=⟨a-1,af⟩;exact .len c (l af)
 |read c=>intro a j;obtain⟨k,rfl⟩:∃k,a=k+1:=⟨a-1,af⟩;exact .read c
 |sign c i _ l=>intro a j;obtain⟨k,rfl⟩:∃k,a=k+1:=⟨a-1,af⟩;exact .sign c i (l af)
 |bin c i n _ _ ih1 ih2=>intro a j;exact .bin c i n (ih1 j) (ih2 j)
def ct.at{d m:Nat}{e:aA}(h:ct d 0 e)(hm:m<=e.b0):ct d m e:=by
 have n:=(wP e.kind).2;have j:m<=7:=Nat.le_trans hm n;cases h with
 |par _ h _=>omega
 |int i a c=>exact .int j a c
 |bool i a=>exact .bool j a
 |null i a=>exact .null j a
 |var i a=>exact .var j a
 |field i a c=>exact .field j a c
 |item i a c=>exact .item j a c
 |call i a c=>exact .call j a c
 |new i a=>exact .new j a
 |make i a c=>exact .make j a c
 |len i a=>exact .len j a
 |read i=>exact .read j
 |sign i a c=>exact .sign (by rcases a with rfl|rfl<;>exact hm) a c
 |bin i a c k l=>exact .bin hm a c k l
def ct.low{d m:Nat}{e:aA}(h:ct d m e){m':Nat}(hm:m'<=m):ct d m' e:=by
 cases h with
 |par a c j=>
  by_cases l:e.b0<m'
  ·exact .par a l af
  ·exact(a.at af).more (Nat.le_succ _)
 |int i a c=>exact .int af a c
 |bool i a=>exact .bool af a
 |null i a=>exact .null af a
 |var i a=>exact .var af a
 |field i a c=>exact .field af a c
 |item i a c=>exact .item af a c
 |call i a c=>exact .call af a c
 |new i a=>exact .new af a
 |make i a c=>exact .make af a c
 |len i a=>exact .len af a
 |read i=>exact .read af
 |sign i a c=>exact .sign af a c
 |bin i a c j k=>exact .bin af a c j k
def ct.up{d:Nat}{e:aA}(h:ct d 0 e){m:Nat}(hm:m<=7):ct (d+1) m e:=by
 by_cases a:e.b0<m
 ·exact .par h a hm
 ·exact(h.at af).more (Nat.le_succ _)
mutual
def cK:aA->Nat
 | .mk a kids=>40+a.name.length+a.cf.length+b7 kids
def b7:List aA->Nat
 |[]=>0
 |e::r=>cK e+b7 r
end
def GW:∀(l:List aA) (e:aA),b7 (l++[e])=b7 l+cK e
 |[],e=>by simp[b7]
 |x::l,e=>by rw[List.cons_append,b7,GW l e,b7];omega
structure In(E:Int)(s:au):Prop where
 a:0<=s.at_
 b:s.at_<=E
 c:0<=s.bU
 d:s.bU<=50
structure bY(E:Int)(s s':au)(k:Int):Prop where
 f:s.aG=0
 hB:s'.aG=0
 o:s'.bU=s.bU
 a:s.at_+k<=s'.at_
 b:s'.at_<=E
structure Good(T:List Tok)(E:Int):Prop where
 n:E<=20000000
 lt:∀a,(al T a).kind≠0->a<E
 t:∀t∈T,h6 t\/t.kind=0
section
variable {T:List Tok}{E:Int}{s s' s2:au}
def bY.trans{k l:Int}(h:bY E s s' k)(aZ:bY E s' s2 l):bY E s s2 (k+l):=⟨h.f,aZ.hB,aZ.o.trans h.o,by have:=h.a;have:=aZ.a;omega,aZ.b⟩
def bY.less{k l:Int}(h:bY E s s' k)(c:l<=k):bY E s s' l:=⟨h.f,h.hB,h.o,by have:=h.a;omega,h.b⟩
def bY.in{k:Int}(e:In E s)(h:bY E s s' k)(i:0<=k):In E s':=⟨by have:=h.a;have:=e.a;omega,h.b,by rw[h.o];exact e.c,by rw[h.o];exact e.d⟩
def bY.refl(a:In E s)(h:s.aG=0):bY E s s 0:=⟨h,h,rfl,af,a.b⟩
def xZ{a:Int}(h:(al T a).kind≠0):0<=a/\a<T.length/\al T a∈T:=by
 unfold al at h ⊢;split at h
 ·exact absurd rfl h
 ·rename_i c;have:a.toNat<T.length:=af;rw[if_neg c,List.getElem?_eq_getElem this,Option.getD_some];exact⟨af,af,List.getElem_mem _⟩
def Gg(aK:Good T E){a:Int}(h:(al T a).kind≠0):h6 (al T a):=(aK.t _ (xZ h).2.2).resolve_right h
def Pv(aK:Good T E){a:Int}(h:(al T a).kind=1):dP (al T a).text=true:=by
 rcases Gg aK (a:=a) af with aZ|aZ|aZ|aZ
 ·exact aZ.2.2
 all_goals omega
def Pu(aK:Good T E){a:Int}(h:(al T a).kind=2):0<=(al T a).n/\(al T a).n<=9223372036854775807:=by
 rcases Gg aK (a:=a) af with aZ|aZ|aZ|aZ
 ·omega
 ·omega
 ·exact aZ.2.2
 ·omega
def go_ok(aK:Good T E)(d:In E s)(c:s.aG=0)(h:(al T s.at_).kind≠0):aF s={s with at_:=s.at_+1}/\bY E s (aF s) 1:=by
 have j:=aK.lt _ h;have k:=aK.n;have i:=d.a;have e:aF s={s with at_:=s.at_+1}:=by
  unfold aF iO;rw[IntWalk.i64_in _ ⟨af,af⟩]
 refine⟨e,?_⟩;rw[e];exact⟨c,c,rfl,by simp,by simp only;omega⟩
def fa{e:Int}(he:e≠0):(cQ T e s).aG≠0:=by
 unfold cQ;split
 ·exact he
 ·assumption
def er{x:aC}(h:aY T s x=X):s.aG=0/\(al T s.at_).kind=kw x/\(al T s.at_).text=x:=wh h
def wv(x:aC):kw x≠0:=by
 unfold kw;split
 ·split<;>decide
 ·decide
def fF(aK:Good T E)(d:In E s){x:aC}(h:aY T s x=X):bY E s (aF s) 1:=by
 obtain⟨a,c,-⟩:=er h;exact(go_ok aK d a (by rw[c];exact wv x)).2
abbrev cX(E:Int)(s:au):Prop:=s.aG=0->In E s
def bY.fZ{k:Int}(a:cX E s)(h:bY E s s' k)(c:0<=k):cX E s':=λ_=>h.in (a h.f) c
def eQ(aK:Good T E)(c:cX E s){x:aC}(h:(bo T x s).aG=0):aY T s x=X/\bo T x s=aF s/\bY E s (bo T x s) 1:=by
 unfold bo at h ⊢;cases a:aY T s x with
 |true=>rw[aW];exact⟨rfl,rfl,fF aK (c (er a).1) a⟩
 |false=>rw[a,aR]at h;exact absurd h (fa bf)
def kM(aK:Good T E)(c:cX E s)(h:(bA T s).2.aG=0):dP (bA T s).1=X/\bY E s (bA T s).2 1:=by
 unfold bA at h ⊢;cases a:(s.aG==0&&(al T s.at_).kind==1)with
 |true=>
  simp only[Bool.and_eq_true,beq_iff_eq]at a;rw[aW];exact⟨Pv aK a.2,(go_ok aK (c a.1) a.1 af).2⟩
 |false=>rw[a,aR]at h;exact absurd h (fa bf)
def e5{x:aC}(h:dP x=X):x.length<=8:=by
 simp only[dP,Bool.and_eq_true,decide_eq_true_eq]at h;exact h.2.1
def gU{x:aC}{d:Int}(h:ix x d):x.length<=8:=by
 rcases h.2.2 with h|rfl|rfl
 ·exact e5 h
 ·decide
 ·decide
def jg(aK:Good T E)(d:cX E s){x:aC}(h:(cJ T x s).aG=0):aY T s x=X/\s.aG=0/\(cJ T x s).bU=s.bU+1/\(cJ T x s).at_=s.at_+1/\In E (cJ T x s)/\s.bU+1<=50:=by
 unfold cJ at h ⊢;cases i:aY T s x&&decide (50<=s.bU)with
 |true=>rw[i,aW]at h;exact absurd h (fa bf)
 |false=>
  rw[i,aR]at h;rw[aR];have aZ:(bo T x s).aG=0:=h;obtain⟨j,o,l⟩:=eQ aK d aZ;obtain⟨k,p,-⟩:=er j;have d:=d k;obtain⟨g1,-⟩:=go_ok aK d k (by rw[p];exact wv x);rw[j,Bool.true_and]at i;have v:s.bU<50:=by have:=of_decide_eq_false i;omega
  have q:=d.c;have e:iO (s.bU+1)=s.bU+1:=IntWalk.i64_in _ ⟨af,af⟩;have m:=l.a;have n:=l.b;have u:=d.a;rw[o,g1]at m n ⊢;simp only[eN,e]at m n ⊢;exact⟨j,k,trivial,trivial,⟨by simp only;omega,by simp only;omega,by simp only;omega,by simp only;omega⟩,af⟩
def w9(a:In E s):eh s={s with bU:=s.bU-1}:=by
 have:=a.c;have:=a.d;unfold eh iO;rw[IntWalk.i64_in _ ⟨af,af⟩]
def qX(aK:Good T E){k:Int}(l:0<=k)(q:s.bU+1=s'.bU)(p:s.at_+1=s'.at_)(e:s.aG=0)(i:In E s')(hw:bY E s' s2 k){x:aC}(h:(dc T x s2).aG=0):bY E s (dc T x s2) (k+2):=by
 have aZ:(bo T x s2).aG=0:=h;have d:=hw.in i l;obtain⟨m,n,c⟩:=eQ aK (λ_=>d) aZ;have j:=c.in d af;unfold dc at h ⊢;rw[w9 j]at h ⊢;have aT:=hw.a;have a2:=c.a;have bO:=hw.o;have b2:=c.o;exact⟨e,h,by simp only;omega,by simp only;omega,c.b⟩
def xW(aK:Good T E){x:aC}:∀(n:Nat) (s:au),cX E s->(takeN T x n s).aG=0->bY E s (takeN T x n s) n
 |0,s,c,h=> .refl (c h) h
 |n+1,s,c,h=>by
  have a:(bo T x s).aG=0:=by
   by_cases a:(bo T x s).aG=0
   ·exact a
   ·exfalso;have key:∀(n:Nat) (s:au),s.aG≠0->(takeN T x n s).aG≠0:=by
     intro n
     induction n with
     |zero=>intro s ax;exact ax
     |succ n e=>intro s ax;exact e _ (by unfold bo;rw[eO ax,aR,fE ax];exact ax)
    exact key n _ a h
  obtain⟨-,-,d⟩:=eQ aK c a;have:=d.trans (xW aK n _ (d.fZ c af) h);exact this.less af
def DR(aK:Good T E):∀(n:Nat) (d:Int) (s:au) {q:Int×au},In E s->0<=d->eF T n d s= .inl q->s.aG=0->d<=q.1/\q.1<=d+n/\bY E s q.2 (q.1-d)/\aY T q.2 [91]=U
 |0,d,s,q,c,l,h,e=>by
  rw[eF]at h;cases a:aY T s [91]with
  |true=>rw[a,aW]at h;cases h
  |false=>
   rw[a,aR]at h;cases h;exact⟨Int.le_refl _,by simp,(bY.refl c e).less (by simp),a⟩
 |n+1,d,s,q,c,l,h,e=>by
  rw[eF]at h;cases a:aY T s [91]with
  |true=>
   rw[a,aW]at h;have i:=fF aK c a;obtain⟨m,o,j,k⟩:=DR aK n (d+1) _ (i.in c af) af h i.hB;exact⟨af,af,(i.trans j).less af,k⟩
  |false=>
   rw[a,aR]at h;cases h;exact⟨Int.le_refl _,af,(bY.refl c e).less (by simp),a⟩
def K9:∀(n:Nat) (d:Int) (s:au),s.aG≠0->eF T n d s= .inl (d,s)
 |0,d,s,h=>by rw[eF,eO h];rfl
 |n+1,d,s,h=>by rw[eF,eO h];rfl
def xT{x:aC}:∀(n:Nat) (s:au),s.aG≠0->(takeN T x n s).aG≠0
 |0,s,ax=>ax
 |n+1,s,ax=>xT n _ (by unfold bo;rw[eO ax,aR,fE ax];exact ax)
def pM(aK:Good T E)(k:cX E s)(h:(cI T s).2.aG=0):ix (cI T s).1.1 (cI T s).1.2/\bY E s (cI T s).2 1:=by
 have c:s.aG=0:=by
  by_cases c:s.aG=0
  ·exact c
  ·exfalso;unfold cI at h;rw[K9 3 0 s c]at h;simp only[eX,eO c,Bool.or_self,aR,DA c]at h;exact xT _ _ c h
 have k:=k c;unfold cI at h ⊢;cases l:eF T 3 0 s with
 |inr s'=>
  exfalso;rw[l]at h;have key:∀(n:Nat) (d:Int) (s:au) {s':au},eF T n d s= .inr s'->s'.aG≠0:=by
   intro n
   induction n with
   |zero=>
    intro d s s' h;rw[eF]at h;cases a:aY T s [91]<;>rw[a]at h<;>cases h;exact fa bf
   |succ n v=>
    intro d s s' h;rw[eF]at h;cases a:aY T s [91]<;>rw[a]at h
    ·cases h
    ·exact v _ _ h
  exact key _ _ _ l h
 |inl q=>
  obtain⟨m,o,i,-⟩:=DR aK 3 0 s k af l c;rw[l]at h;obtain⟨d,s1⟩:=q;simp only at h m o i ⊢;have e:=i.in k af;unfold eX at h ⊢;cases a:aY T s1 [105,110,116]||aY T s1 [98,111,111,108]with
  |true=>
   rw[a,aW]at h;rw[aW];have p:bY E s1 (aF s1) 1/\((al T s1.at_).text=[105,110,116]\/(al T s1.at_).text=[98,111,111,108]):=by
    rcases Bool.or_eq_true_iff.1 a with a|a
    ·exact⟨fF aK e a,.inl (er a).2.2⟩
    ·exact⟨fF aK e a,.inr (er a).2.2⟩
   have u:=xW aK _ _ (p.1.fZ (λ_=>e) af) h;exact⟨⟨m,by simpa using o,.inr p.2⟩,((i.trans p.1).trans u).less af⟩
  |false=>
   rw[a,aR]at h;rw[aR];have j:(bA T s1).2.aG=0:=by
    by_cases j:(bA T s1).2.aG=0
    ·exact j
    ·exact absurd h (xT _ _ j)
   obtain⟨w,n2⟩:=kM aK (λ_=>e) j;have u:=xW aK _ _ (n2.fZ (λ_=>e) af) h;exact⟨⟨m,by simpa using o,.inl w⟩,((i.trans n2).trans u).less af⟩
end
def gP(o a0:Int)(m:Nat)(e:aA)(aT:Int):Prop:=(cK e:Int)<=60*(aT-a0)/\∃d:Nat,o+d<=50/\ct d m e
def gP.low{o a0 aT:Int}{m m':Nat}{e:aA}(h:gP o a0 m e aT)(hm:m'<=m):gP o a0 m' e aT:=⟨h.1,h.2.imp λ_ h=>⟨h.1,h.2.low hm⟩⟩
def gP.wide{o a0 aT a c:Int}{m:Nat}{e:aA}(h:gP o a0 m e aT)(d:a<=a0)(i:aT<=c):gP o a m e c:=⟨by have:=h.1;omega,h.2⟩
def uK{a:bG}(d:a.name.length<=8)(c:a.cf=[]):(cK (.mk a []):Int)<=60:=by simp[cK,b7,c];omega
def GU{a:bG}(d:a.cf.length<=8)(c:a.name=[]):(cK (.mk a []):Int)<=60:=by simp[cK,b7,c];omega
def uL{a:bG}{e:aA}(c:a.name.length+a.cf.length<=8):(cK (.mk a [e]):Int)<=60+cK e:=by simp[cK,b7];omega
def GV{a:bG}{e f:aA}(c:a.name.length+a.cf.length<=8):(cK (.mk a [e,f]):Int)<=60+cK e+cK f:=by simp[cK,b7];omega
def PR{a:bG}{l:List aA}(c:a.name.length+a.cf.length<=8):(cK (.mk a l):Int)<=60+b7 l:=by simp[cK];omega
structure Hq(T:List Tok)(E:Int)(n:Nat):Prop where
 expr:∀lev s p,lev<=5->cX E s->dd T n lev s=some p->p.2.aG=0->bY E s p.2 1/\gP s.bU s.at_ (lev+1) p.1 p.2.at_
 Ae:∀lev e a0 s p,lev<=4->cX E s->(s.aG=0->gP s.bU a0 (lev+1) e s.at_)->e_ T n lev e s=some p->p.2.aG=0->bY E s p.2 0/\gP s.bU a0 (lev+1) p.1 p.2.at_
 unary:∀s p,cX E s->fl T n s=some p->p.2.aG=0->bY E s p.2 1/\gP s.bU s.at_ 6 p.1 p.2.at_
 sign:∀k s p,k=12\/k=13->cX E s->gN T n k s=some p->p.2.aG=0->bY E s p.2 1/\gP s.bU s.at_ 6 p.1 p.2.at_
 behind:∀e a0 s p,cX E s->(s.aG=0->gP s.bU a0 7 e s.at_)->eg T n e s=some p->p.2.aG=0->bY E s p.2 0/\gP s.bU a0 7 p.1 p.2.at_
 inner:∀s p,cX E s->ep T n s=some p->p.2.aG=0->bY E s p.2 1/\gP (s.bU+1) s.at_ 0 p.1 p.2.at_
 first:∀s p,cX E s->dy T n s=some p->p.2.aG=0->bY E s p.2 1/\gP s.bU s.at_ 7 p.1 p.2.at_
 fresh:∀pos s p,cX E s->fj T n pos s=some p->p.2.aG=0->bY E s p.2 1/\gP s.bU (s.at_-1) 7 p.1 p.2.at_
 args:∀s p,cX E s->e2 T n s=some p->p.2.aG=0->bY E s p.2 1/\(b7 p.1:Int)<=60*(p.2.at_-s.at_)/\∃d:Nat,s.bU+1+d<=50/\∀e∈p.1,ct d 0 e
 yT:∀l a0 s p,cX E s->1<=s.bU->(s.aG=0->(b7 l:Int)<=60*(s.at_-a0)/\∃d:Nat,s.bU+d<=50/\∀e∈l,ct d 0 e)->eE T n l s=some p->p.2.aG=0->(s.aG=0/\p.2.bU=s.bU-1/\s.at_+1<=p.2.at_/\p.2.at_<=E)/\(b7 p.1:Int)<=60*(p.2.at_-a0)/\∃d:Nat,s.bU+d<=50/\∀e∈p.1,ct d 0 e
def fD{α β:Type}{x:Option α}{f:α->Option β}{b:β}(h:x.bind f=D b):∃a,x=D a/\f a=D b:=cZ.1 h
def CV{x:aC}:∀l:List (aC×Int),kL x l≠0->∃k,(x,k)∈l/\kL x l=k
 |[],h=>absurd rfl h
 |(y,k)::r,h=>by
  rw[kL]at h ⊢;cases a:y==x with
  |true=>
   obtain rfl:y=x:=by simpa using a
   rw[aW];exact⟨k,List.mem_cons_self,rfl⟩
  |false=>
   rw[a,aR]at h;rw[aR];obtain⟨k,c,d⟩:=CV r h;exact⟨k,List.mem_cons_of_mem _ c,d⟩
def KQ(lev:Nat):Bool:=(j9[lev]?.getD []).all λp=>decide (14<=p.2)&&decide (p.2<=24)&&cm p.2==lev+1
def KR:(List.range 5).all KQ=true:=by decide+kernel
def KF{lev:Nat}(e:lev<=4){t:Tok}(h:dW lev t≠0):t.kind=4/\14<=dW lev t/\dW lev t<=24/\cm (dW lev t)=lev+1/\(t.text,dW lev t)∈j9[lev]?.getD []:=by
 unfold dW at h ⊢;cases a:(t.kind != 4)with
 |true=>rw[a,aW]at h;exact absurd rfl h
 |false=>
  rw[a,aR]at h;rw[aR];obtain⟨k,c,d⟩:=CV _ h;have:=List.all_eq_true.1 (List.all_eq_true.1 KR lev (List.mem_range.2 af)) _ c;simp only[Bool.and_eq_true,decide_eq_true_eq,beq_iff_eq]at this;rw[d];exact⟨by simpa using a,this.1.1,this.1.2,this.2,c⟩
def qS{o:Int}{d a:Nat}(h:o+d<=50)(aZ:o+a<=50):o+(max d a:Nat)<=50:=af
def xg{T:List Tok}{E:Int}(aK:Good T E):∀n,Hq T E n
 |0=>by
  constructor<;>intros<;>rename_i h _<;>first|cases h|skip
 |n+1=>by
  have y:=xg aK n;refine⟨?_,?_,?_,?_,?_,?_,?_,?_,?_,?_⟩
  ·intro lev s p ap i h aI;rw[dd]at h;split at h
   ·rename_i V;subst V;exact y.unary s p i h aI
   ·obtain⟨q,g1,g2⟩:=fD h;have v:=λj=>y.expr (lev+1) s q af i g1 j
    obtain⟨A,B⟩:=y.Ae lev q.1 s.at_ q.2 p af (λj=>(v j).1.in (i (v j).1.f) af) (λj=>by rw[(v j).1.o];exact(v j).2.low af) g2 aI;have v:=v A.f;exact⟨(v.1.trans A).less af,by rw[v.1.o]at B;exact B⟩
  ·intro lev e a0 s p ap i he h aI;rw[e_]at h;cases F:(s.aG==0&&dW lev (al T s.at_) != 0)with
   |false=>
    rw[F,aR]at h;cases h;exact⟨.refl (i aI) aI,he aI⟩
   |true=>
    rw[F,aW]at h;simp only[Bool.and_eq_true,beq_iff_eq,bne_iff_ne,ne_eq]at F;obtain⟨m,aM⟩:=F;obtain⟨aX,aS,aT,aC,-⟩:=KF ap aM;have u:=(go_ok aK (i m) m af).2;have M:=u.in (i m) af;obtain⟨q,g1,g2⟩:=fD h;have v:=λj=>y.expr (lev+1) (aF s) q af (λ_=>M) g1 j
    have key:∀j:q.2.aG=0,gP q.2.bU a0 (lev+1) (.mk {kind:=dW lev (al T s.at_),pos:=(al T s.at_).pos} [e,q.1]) q.2.at_:=by
     intro j;obtain⟨w,S,d,P,G⟩:=v j;obtain⟨i2,K,i3,i4⟩:=he m;have:=GV (a:={kind:=dW lev (al T s.at_),pos:=(al T s.at_).pos}) (e:=e) (f:=q.1) (by simp);have Q:=u.a;have go:=u.o;have am:=w.o;refine⟨af,max d K,by rw[am,go];exact qS (by rw[<-go];exact P) i3,?_⟩;refine .bin af aS aT ?_ ?_
     ·rw[aC];exact i4.more af
     ·rw[aC];exact G.more af
    obtain⟨A,B⟩:=y.Ae lev _ a0 q.2 p ap (λj=>(v j).1.in M af) key g2 aI;have v:=v A.f;refine⟨((u.trans v.1).trans A).less af,?_⟩;rw[v.1.o,u.o]at B;exact B
  ·intro s p i h aI;rw[fl]at h;cases x:aY T s [45]with
   |true=>rw[x,aW]at h;exact y.sign 12 s p (.inl rfl) i h aI
   |false=>
    rw[x,aR]at h;cases aa:aY T s [33]with
    |true=>rw[aa,aW]at h;exact y.sign 13 s p (.inr rfl) i h aI
    |false=>
     rw[aa,aR]at h;obtain⟨q,g1,g2⟩:=fD h;have v:=λj=>y.first s q i g1 j
     obtain⟨A,B⟩:=y.behind q.1 s.at_ q.2 p (λj=>(v j).1.in (i (v j).1.f) af) (λj=>by rw[(v j).1.o];exact(v j).2) g2 aI;have v:=v A.f;exact⟨(v.1.trans A).less af,by rw[v.1.o]at B;exact B.low af⟩
  ·intro k s p aL i h aI;rw[gN]at h;obtain⟨q,g1,g2⟩:=fD h;cases g2;have j:q.2.aG=0:=aI;have aO:(cJ T (al T s.at_).text s).aG=0->cX E (cJ T (al T s.at_).text s):=λm _=>(jg aK i m).2.2.2.2.1
   obtain⟨w,S,d,P,G⟩:=y.expr 5 _ q af (λm=>aO m m) g1 j;obtain⟨bO,b2,cz,dz,H,ah⟩:=jg aK i w.f;have aH:=w.in H af;have aN:=w9 aH;simp only[aN]at aI ⊢;have aA:=w.a;have am:=w.o;have au:=w.b;have:=uL (a:={kind:=k,pos:=(al T s.at_).pos}) (e:=q.1) (by simp);refine⟨⟨b2,aI,by(try simp only);omega,by(try simp only);omega,au⟩,by(try simp only);omega,d+1,af,.sign af aL G⟩
  ·intro e a0 s p i he h aI;rw[eg]at h;cases x:aY T s [46]with
   |true=>
    rw[x,aW]at h;have m:=(er x).1;have u:=fF aK (i m) x;have M:=u.in (i m) af;have W:=λj=>kM aK (s:=aF s) (λ_=>M) j
    obtain⟨i2,K,i3,i4⟩:=he m;obtain⟨A,B⟩:=y.behind _ a0 _ p (λj=>(W j).2.in M af) (λj=>by
     obtain⟨O,n2⟩:=W j;have:=uL (a:={kind:=5,name:=(bA T (aF s)).1,pos:=(al T s.at_).pos}) (e:=e) (by have:=e5 O;simp;omega);have ay:=n2.a;have Q:=u.a;refine⟨af,K,by rw[n2.o,u.o];exact i3,.field af O i4⟩) h aI
    have n2:=(W A.f).2;refine⟨((u.trans n2).trans A).less af,?_⟩;rw[n2.o,u.o]at B;exact B
   |false=>
    rw[x,aR]at h;cases aa:aY T s [91]with
    |true=>
     rw[aa,aW]at h;have m:=(er aa).1;obtain⟨q,g1,g2⟩:=fD h;obtain⟨i2,K,i3,i4⟩:=he m;have v:=λj=>y.expr 0 _ q af (λm=>(jg aK i m).2.2.2.2.1) g1 j
     have aE:(dc T [93] q.2).aG=0->q.2.aG=0:=λN=>by
      have aZ:(bo T [93] q.2).aG=0:=N;unfold bo at aZ;cases L:aY T q.2 [93]with
      |true=>exact(er L).1
      |false=>rw[L,aR]at aZ;exact absurd aZ (fa bf)
     have key:∀N:(dc T [93] q.2).aG=0,bY E s (dc T [93] q.2) 3/\gP s.bU a0 7 (.mk {kind:=6,pos:=(al T s.at_).pos} [e,q.1]) (dc T [93] q.2).at_:=by
      intro N;obtain⟨w,S,d,P,G⟩:=v (aE N);obtain⟨bO,b2,cz,dz,H,ah⟩:=jg aK i w.f;have F:=qX aK af cz.symm dz.symm m H w N;have an:=F.a;have au:q.2.at_+1<=(dc T [93] q.2).at_:=by
       have aZ:(bo T [93] q.2).aG=0:=N;have:=(eQ aK (λ_=>w.in H af) aZ).2.2.a;exact this
      have:=GV (a:={kind:=6,pos:=(al T s.at_).pos}) (e:=e) (f:=q.1) (by simp);refine⟨F.less af,af,max K (d+1),qS i3 af,?_⟩;obtain⟨z,L⟩:∃z,max K (d+1)=z+1:=⟨max K (d+1)-1,af⟩;rw[L];exact .item af (i4.more af) ((G.low af).more af)
     obtain⟨A,B⟩:=y.behind _ a0 _ p (λN=>(key N).1.in (i m) af) (λN=>by rw[(key N).1.o];exact(key N).2) g2 aI;have ae:=(key A.f).1;refine⟨(ae.trans A).less af,?_⟩;rw[ae.o]at B;exact B
    |false=>
     rw[aa,aR]at h;cases h;exact⟨.refl (i aI) aI,he aI⟩
  ·intro s p i h aI;rw[ep]at h;obtain⟨q,g1,g2⟩:=fD h;cases g2;have j:q.2.aG=0:=by
    have aZ:(bo T [41] q.2).aG=0:=aI;unfold bo at aZ;cases L:aY T q.2 [41]with
    |true=>exact(er L).1
    |false=>rw[L,aR]at aZ;exact absurd aZ (fa bf)
   obtain⟨w,S,d,P,G⟩:=y.expr 0 _ q af (λm=>(jg aK i m).2.2.2.2.1) g1 j;obtain⟨bO,b2,cz,dz,H,ah⟩:=jg aK i w.f;have F:=qX aK af cz.symm dz.symm b2 H w aI;have an:=F.a;have au:q.2.at_+1<=(dc T [41] q.2).at_:=by
    have aZ:(bo T [41] q.2).aG=0:=aI;exact(eQ aK (λ_=>w.in H af) aZ).2.2.a
   refine⟨F.less af,by(try simp only);omega,d,by rw[<-cz];exact P,G.low af⟩
  ·intro s p i h aI;rw[dy]at h;cases v:(s.aG==0&&(al T s.at_).kind==2)with
   |true=>
    rw[v,aW]at h;cases h;simp only[Bool.and_eq_true,beq_iff_eq]at v;have u:=(go_ok aK (i v.1) v.1 af).2;have W:=Pu aK v.2;have Q:=u.a;have:=uK (a:={kind:=1,n:=(al T s.at_).n,pos:=(al T s.at_).pos}) (by simp) rfl;have R:=(i v.1).d;exact⟨u,by(try simp only);omega,0,by simpa using R,.int af W.1 W.2⟩
   |false=>
    rw[v,aR]at h;cases ab:(aY T s [116,114,117,101]||aY T s [102,97,108,115,101])with
    |true=>
     rw[ab,aW]at h;cases h;have u:bY E s (aF s) 1:=by
      rcases Bool.or_eq_true_iff.1 ab with x|x<;>exact fF aK (i (er x).1) x
     have Q:=u.a;have R:=(i u.f).d;have:=uK (a:={kind:=2,n:=bif (al T s.at_).text==[116,114,117,101]then 1 else 0,pos:=(al T s.at_).pos}) (by simp) rfl;refine⟨u,by(try simp only);omega,0,by simpa using R,.bool af ?_⟩;cases(al T s.at_).text==[116,114,117,101]
     ·exact .inl rfl
     ·exact .inr rfl
    |false=>
     rw[ab,aR]at h;cases aj:aY T s [110,117,108,108]with
     |true=>
      rw[aj,aW]at h;cases h;have m:=(er aj).1;have u:=fF aK (i m) aj;obtain⟨bO,b2⟩:=pM aK (u.fZ i af) aI;have Q:=u.a;have aQ:=b2.a;have R:=(i m).d;have:=GU (a:={kind:=3,cf:=(cI T (aF s)).1.1,cS:=(cI T (aF s)).1.2,pos:=(al T s.at_).pos}) (gU bO) rfl;exact⟨(u.trans b2).less af,by(try simp only);omega,0,by simpa using R,.null af bO⟩
     |false=>
      rw[aj,aR]at h;cases ad:aY T s [110,101,119]with
      |true=>
       rw[ad,aW]at h;have m:=(er ad).1;have u:=fF aK (i m) ad;obtain⟨A,B⟩:=y.fresh _ _ p (u.fZ i af) h aI;have Q:=u.a;have ge:=(go_ok aK (i m) m (by rw[(er ad).2.1];exact wv _)).1;rw[u.o]at B;exact⟨(u.trans A).less af,B.wide (by rw[ge];simp) (Int.le_refl _)⟩
      |false=>
       rw[ad,aR]at h;cases V:aY T s [108,101,110]with
       |true=>
        rw[V,aW]at h;have m:=(er V).1;have u:=fF aK (i m) V;obtain⟨q,g1,g2⟩:=fD h;cases g2;obtain⟨w,S,d,P,G⟩:=y.inner _ q (u.fZ i af) g1 aI;have Q:=u.a;have go:=u.o;have:=uL (a:={kind:=10,pos:=(al T s.at_).pos}) (e:=q.1) (by simp);exact⟨(u.trans w).less af,by(try simp only);omega,d+1,af,.len af G⟩
       |false=>
        rw[V,aR]at h;cases ak:aY T s [114,101,97,100]with
        |true=>
         rw[ak,aW]at h;cases h;have m:=(er ak).1;have u:=fF aK (i m) ak;have j:(cJ T [40] (aF s)).aG=0:=by
          have aZ:(bo T [41] (cJ T [40] (aF s))).aG=0:=aI;unfold bo at aZ;cases L:aY T (cJ T [40] (aF s)) [41]with
          |true=>exact(er L).1
          |false=>rw[L,aR]at aZ;exact absurd aZ (fa bf)
         obtain⟨bO,b2,cz,dz,H,ah⟩:=jg aK (u.fZ i af) j;have F:=qX aK (k:=0) af cz.symm dz.symm b2 H (.refl H j) aI;have Q:=u.a;have go:=u.o;have an:=F.a;have:=uK (a:={kind:=11,pos:=(al T s.at_).pos}) (by simp) rfl;exact⟨(u.trans F).less af,by(try simp only);omega,1,af,.read af⟩
        |false=>
         rw[ak,aR]at h;cases az:aY T s [40]with
         |true=>
          rw[az,aW]at h;obtain⟨w,S,d,P,G⟩:=y.inner s p i h aI;exact⟨w,S,d+1,af,G.up af⟩
         |false=>
          rw[az,aR]at h;have R:s.aG=0->s.bU<=50:=λm=>(i m).d
          cases ao:aY T (bA T s).2 [40]with
          |true=>
           rw[ao,aW]at h;obtain⟨q,g1,g2⟩:=fD h;cases g2;obtain⟨O,n2⟩:=kM aK i (er ao).1;obtain⟨A,B,d,ae,ag⟩:=y.args _ q (n2.fZ i af) g1 aI;have ay:=n2.a;have no:=n2.o;have:=PR (a:={kind:=7,name:=(bA T s).1,pos:=(al T s.at_).pos}) (l:=q.1) (by have:=e5 O;simp;omega);exact⟨(n2.trans A).less af,by(try simp only);omega,d+1,af,.call af O ag⟩
          |false=>
           rw[ao,aR]at h;cases h;obtain⟨O,n2⟩:=kM aK i aI;have ay:=n2.a;have:=uK (a:={kind:=4,name:=(bA T s).1,pos:=(al T s.at_).pos}) (e5 O) rfl;exact⟨n2,by(try simp only);omega,0,by simpa using R n2.f,.var af O⟩
  ·intro pos s p i h aI;rw[fj]at h;cases x:aY T s [91]with
   |true=>
    rw[x,aW]at h;obtain⟨q,g1,g2⟩:=fD h;cases g2;have m:=(er x).1;have u:=fF aK (i m) x;have M:=u.in (i m) af;have aq:=λj:(bo T [93] (cI T (aF s)).2).aG=0=>by
     have ab:(cI T (aF s)).2.aG=0:=by
      unfold bo at j;cases L:aY T (cI T (aF s)).2 [93]with
      |true=>exact(er L).1
      |false=>rw[L,aR]at j;exact absurd j (fa bf)
     have o:=pM aK (λ_=>M) ab;exact ai o (eQ aK (λ_=>o.2.in M af) j).2.2
    obtain⟨w,S,d,P,G⟩:=y.inner _ q (λj=>((aq j).1.2.trans (aq j).2).in M af) g1 aI;obtain⟨⟨bO,b2⟩,cz⟩:=aq w.f;have Q:=u.a;have go:=u.o;have aQ:=b2.a;have aV:=b2.o;have aU:=cz.a;have to:=cz.o;have:=uL (a:={kind:=9,cf:=(cI T (aF s)).1.1,cS:=(cI T (aF s)).1.2,pos:=pos}) (e:=q.1) (by have:=gU bO;simp;omega);exact⟨(((u.trans b2).trans cz).trans w).less af,by(try simp only);omega,d+1,af,.make af bO G⟩
   |false=>
    rw[x,aR]at h;cases h;obtain⟨O,n2⟩:=kM aK i aI;have ay:=n2.a;have R:=(i n2.f).d;have:=GU (a:={kind:=8,cf:=(bA T s).1,pos:=pos}) (e5 O) rfl;exact⟨n2,by(try simp only);omega,0,by simpa using R,.new af O⟩
  ·intro s p i h aI;rw[e2]at h;cases x:aY T (cJ T [40] s) [41]with
   |true=>
    rw[x,aW]at h;cases h;obtain⟨bO,b2,cz,dz,H,ah⟩:=jg aK i (er x).1;have F:=qX aK (k:=0) af cz.symm dz.symm b2 H (.refl H (er x).1) aI;have an:=F.a;refine⟨F.less af,by simp only[b7];omega,0,af,λe he=>by cases he⟩
   |false=>
    rw[x,aR]at h;obtain⟨q,g1,g2⟩:=fD h;have v:=λj=>y.expr 0 _ q af (λm=>(jg aK i m).2.2.2.2.1) g1 j
    have aD:=λj=>jg aK i (v j).1.f
    by_cases j:q.2.aG=0
    ·obtain⟨w,S,d,P,G⟩:=v j;obtain⟨bO,b2,cz,dz,H,ah⟩:=aD j;have am:=w.o;have aA:=w.a;have F:=(i b2).c;obtain⟨⟨A,B,ae,ag⟩,av,K,aP,aw⟩:=y.yT [q.1] s.at_ q.2 p (λ_=>w.in H af) af (λ_=>⟨by simp only[b7];omega,d,af,λe he=>by
      simp only[List.mem_cons,List.not_mem_nil,or_false]at he;subst he;exact G.low af⟩) g2 aI
     exact⟨⟨b2,aI,af,af,ag⟩,av,K,af,aw⟩
    ·exfalso;cases n with
     |zero=>rw[eE]at g2;cases g2
     |succ n=>
      rw[eE,eO j,aR]at g2;cases g2;have aZ:(bo T [41] q.2).aG=0:=aI;unfold bo at aZ;rw[eO j,aR]at aZ;exact absurd aZ (fa bf)
  ·intro l a0 s p i ax he h aI;rw[eE]at h;cases x:aY T s [44]with
   |true=>
    rw[x,aW]at h;obtain⟨q,g1,g2⟩:=fD h;have m:=(er x).1;have u:=fF aK (i m) x;have M:=u.in (i m) af;have v:=λj=>y.expr 0 _ q af (λ_=>M) g1 j
    by_cases j:q.2.aG=0
    ·obtain⟨w,S,d,P,G⟩:=v j;obtain⟨i2,K,i3,i4⟩:=he m;have go:=u.o;have Q:=u.a;have am:=w.o;have aA:=w.a;obtain⟨⟨A,B,ae,ag⟩,av,d2,aP,aw⟩:=y.yT (l++[q.1]) a0 q.2 p (λ_=>w.in M af) af (λ_=>⟨by rw[GW];omega,max d K,qS af af,λe he=>by
      rcases List.mem_append.1 he with he|he
      ·exact(i4 e he).more af
      ·simp only[List.mem_cons,List.not_mem_nil,or_false]at he;subst he;exact(G.low af).more af⟩) g2 aI
     exact⟨⟨m,af,af,ag⟩,av,d2,af,aw⟩
    ·exfalso;cases n with
     |zero=>rw[eE]at g2;cases g2
     |succ n=>
      rw[eE,eO j,aR]at g2;cases g2;have aZ:(bo T [41] q.2).aG=0:=aI;unfold bo at aZ;rw[eO j,aR]at aZ;exact absurd aZ (fa bf)
   |false=>
    rw[x,aR]at h;cases h;have aZ:(bo T [41] s).aG=0:=aI;obtain⟨t1,t2,t3⟩:=eQ aK i aZ;have m:=t3.f;obtain⟨i2,K,i3,i4⟩:=he m;have aU:=t3.a;have to:=t3.o;have nq:=t3.b;have aJ:=t3.in (i m) af;have e:dc T [41] s={bo T [41] s with bU:=(bo T [41] s).bU-1}:=by unfold dc;exact w9 aJ
    simp only[e]at aI ⊢;refine⟨⟨m,by(try simp only);omega,by(try simp only);omega,nq⟩,by(try simp only);omega,K,i3,i4⟩
inductive ey:Nat->bM->Prop
 |var {d x o z p}:dP x=true->ix o z->ey d (.mk {kind:=1,name:=x,cf:=o,cS:=z,pos:=p} [] [] [])
 |lets {d x o z p e}:dP x=true->ix o z->ct d 0 e->ey d (.mk {kind:=2,name:=x,cf:=o,cS:=z,pos:=p} [e] [] [])
 |set {d x p e}:dP x=true->ct d 0 e->ey d (.mk {kind:=3,name:=x,pos:=p} [e] [] [])
 |put {d p e f}:e.kind=5\/e.kind=6->ct d 0 e->ct d 0 f->ey d (.mk {kind:=4,pos:=p} [e,f] [] [])
 |ifs {d p e b c}:ct (d+1) 0 e->(∀s∈b,ey d s)->(∀s∈c,ey d s)->ey (d+1) (.mk {kind:=5,pos:=p} [e] b c)
 |while {d p e b}:ct (d+1) 0 e->(∀s∈b,ey d s)->ey (d+1) (.mk {kind:=6,pos:=p} [e] b [])
 |oc {d p}:ey d (.mk {kind:=7,pos:=p} [] [] [])
 |od {d p e}:ct d 0 e->ey d (.mk {kind:=7,pos:=p} [e] [] [])
 |print {d p e}:ct d 0 e->ey d (.mk {kind:=8,pos:=p} [e] [] [])
 |call {d p e}:e.kind=7->ct d 0 e->ey d (.mk {kind:=9,pos:=p} [e] [] [])
def ey.at{d:Nat}{s:bM}(h:ey d s)(p:Int):ey d (s.at p):=by
 cases h with
 |var a b=>exact .var a b
 |lets a b c=>exact .lets a b c
 |set a b=>exact .set a b
 |put a b c=>exact .put a b c
 |ifs a b c=>exact .ifs a b c
 | «while» a b=>exact .while a b
 |oc=>exact .oc
 |od a=>exact .od a
 |print a=>exact .print a
 |call a b=>exact .call a b
def ey.more{d:Nat}{s:bM}(h:ey d s):∀{e:Nat},d<=e->ey e s:=by
 induction h with
 |var a b=>intro e _;exact .var a b
 |lets a b c=>intro e i;exact .lets a b (c.more i)
 |set a b=>intro e i;exact .set a (b.more i)
 |put a b c=>intro e i;exact .put a (b.more i) (c.more i)
 |ifs a _ _ ih1 ih2=>intro e i;obtain⟨k,rfl⟩:∃k,e=k+1:=⟨e-1,af⟩;exact .ifs (a.more i) (λs ax=>ih1 s ax af) (λs ax=>ih2 s ax af)
 | «while» a _ ih1=>intro e i;obtain⟨k,rfl⟩:∃k,e=k+1:=⟨e-1,af⟩;exact .while (a.more i) (λs ax=>ih1 s ax af)
 |oc=>intro e _;exact .oc
 |od a=>intro e i;exact .od (a.more i)
 |print a=>intro e i;exact .print (a.more i)
 |call a b=>intro e i;exact .call a (b.more i)
mutual
def eu:bM->Nat
 | .mk a es b c=>400+a.name.length+a.cf.length+b7 es+dC b+dC c
def dC:List bM->Nat
 |[]=>0
 |e::r=>eu e+dC r
end
def GY:∀(l:List bM) (e:bM),dC (l++[e])=dC l+eu e
 |[],e=>by simp[dC]
 |x::l,e=>by rw[List.cons_append,dC,GY l e,dC];omega
def PT(s:bM)(p:Int):eu (s.at p)=eu s:=by cases s;rfl
def GX{a:b9}(c:a.name.length+a.cf.length<=16):(eu (.mk a [] [] []):Int)<=416:=by simp[eu,b7,dC];omega
def sv{a:b9}{e:aA}(c:a.name.length+a.cf.length<=16):(eu (.mk a [e] [] []):Int)<=416+cK e:=by simp[eu,b7,dC];omega
def PU{a:b9}{e f:aA}(c:a.name.length+a.cf.length<=16):(eu (.mk a [e,f] [] []):Int)<=416+cK e+cK f:=by simp[eu,b7,dC];omega
def x7{a:b9}{e:aA}{b c:List bM}(d:a.name.length+a.cf.length<=16):(eu (.mk a [e] b c):Int)<=416+cK e+dC b+dC c:=by simp[eu,b7];omega
section
variable {T:List Tok}{E:Int}{s s' s2:au}
def bY.to{y:au}{k:Int}(c:cX E s)(h:y.aG=0->bY E s y k)(d:0<=k):cX E y:=λa=>(h a).in (c (h a).f) d
def nv(T:List Tok):Prop:=∀s,∃p,dd T 800000000 0 s=D p
def nP(aK:Good T E)(d:nv T)(e:cX E s)(h:(bK T s).2.aG=0):bY E s (bK T s).2 1/\gP s.bU s.at_ 0 (bK T s).1 (bK T s).2.at_:=by
 obtain⟨p,aI⟩:=d s;unfold bK at h ⊢;rw[aI]at h ⊢;obtain⟨a,c⟩:=(xg aK 800000000).expr 0 s p af e aI h;exact⟨a,c.low af⟩
def GO(aK:Good T E)(i:cX E s)(h:(et T s).2.aG=0):dP (et T s).1.1=X/\ix (et T s).1.2.1 (et T s).1.2.2/\bY E s (et T s).2 3:=by
 have c:=λj=>kM aK i j
 have d:=λj=>eQ aK (s:=(bA T s).2) (x:=[58]) (bY.to i (λa=>(c a).2) af) j
 have e:=pM aK (s:=bo T [58] (bA T s).2) (bY.to i (λa=>(c (d a).2.2.f).2.trans (d a).2.2) af) h;have l:=d e.2.f;have k:=c l.2.2.f;exact⟨k.1,e.1,((k.2.trans l.2.2).trans e.2).less af⟩
structure Hs(T:List Tok)(E:Int)(n:Nat):Prop where
 block:∀s p,cX E s->jv T n s=some p->p.2.aG=0->bY E s p.2 2/\(dC p.1:Int)<=400*(p.2.at_-s.at_-2)/\∃d:Nat,s.bU+(d+1)<=50/\∀x∈p.1,ey d x
 loop:∀l a0 s p,cX E s->(s.aG=0->(dC l:Int)<=400*(s.at_-a0)/\∃d:Nat,s.bU+d<=50/\∀x∈l,ey d x)->nY T n l s=some p->p.2.aG=0->bY E s p.2 0/\(dC p.1:Int)<=400*(p.2.at_-a0)/\∃d:Nat,s.bU+d<=50/\∀x∈p.1,ey d x
 stmt:∀s p,cX E s->qn T n s=some p->p.2.aG=0->bY E s p.2 2/\(eu p.1:Int)<=400*(p.2.at_-s.at_)/\∃d:Nat,s.bU+d<=50/\ey d p.1
def Lt(aK:Good T E)(G:nv T)(K:cX E s)(h:(kR T s).2.aG=0):bY E s (kR T s).2 2/\(eu (kR T s).1:Int)<=400*((kR T s).2.at_-s.at_)/\∃d:Nat,s.bU+d<=50/\ey d (kR T s).1:=by
 have m:=λc=>nP aK G K c
 have i1:cX E (bK T s).2:=bY.to K (λw=>(m w).1) af;unfold kR at h ⊢;cases v:aY T (bK T s).2 [61]with
 |true=>
  rw[v,aW]at h;rw[aW];have u:=(er v).1;obtain⟨k,O,d,y,n⟩:=m u;have aZ:(bo T [59] (bK T (h8 T (bK T s).1 (bK T s).2)).2).aG=0:=h;have an:=λc=>eQ aK (s:=bif iD (bK T s).1 then cQ T 2 (bK T s).2 else(bK T s).2) (x:=[61]) (λi=>by
   cases j:iD (bK T s).1 with
   |true=>rw[j,aW]at i;exact absurd i (fa bf)
   |false=>rw[aR];exact i1 u) c
  have H:(h8 T (bK T s).1 (bK T s).2).aG=0->iD (bK T s).1=U/\bY E (bK T s).2 (h8 T (bK T s).1 (bK T s).2) 1:=λc=>by
   have aE:=(an c).2.2;cases j:iD (bK T s).1 with
   |true=>
    have:=aE.f;rw[j,aW]at this;exact absurd this (fa bf)
   |false=>
    rw[j,aR]at aE;unfold h8;rw[j,aR];exact⟨rfl,aE⟩
  have i2:cX E (h8 T (bK T s).1 (bK T s).2):=λc=>(H c).2.in (i1 u) af
  have p:=λc=>nP aK G i2 c
  have i3:cX E (bK T (h8 T (bK T s).1 (bK T s).2)).2:=bY.to i2 (λw=>(p w).1) af;obtain⟨-,-,t3⟩:=eQ aK i3 aZ;obtain⟨z,V,B,W,M⟩:=p t3.f;obtain⟨a6,A⟩:=H z.f;have P:=k.a;have Q:=k.o;have ab:=A.a;have ad:=A.o;have aa:=z.a;have R:=t3.a;have sW:bY E s (bo T [59] (bK T (h8 T (bK T s).1 (bK T s).2)).2) 2:=(((k.trans A).trans z).trans t3).less af;simp only[xI];refine⟨sW,?_⟩;cases F:(bK T s).1.kind==4 with
  |true=>
   rw[aW];have l:(bK T s).1.kind=4:=by simpa using F
   have L:dP (bK T s).1.name=true:=by
    generalize (bK T s).1=e at n l;cases n with
    |par _ h _=>omega
    |var _ h=>exact h
    |bin S m p _ _=>simp only[aA.kind]at l;omega
    |sign _ m _=>simp only[aA.kind]at l;omega
    |_=>simp[aA.kind]at l
   have:=sv (a:={kind:=3,name:=(bK T s).1.name}) (e:=(bK T (h8 T (bK T s).1 (bK T s).2)).1) (by have:=e5 L;simp;omega);exact⟨af,B,af,.set L M⟩
  |false=>
   rw[aR];have l:(bK T s).1.kind≠4:=by simpa using F
   have j:(bK T s).1.kind=5\/(bK T s).1.kind=6:=by
    unfold iD at a6;simp only[Bool.and_eq_false_iff,bne_eq_false_iff_eq]at a6;rcases a6 with q|q|q
    ·exact absurd q l
    ·exact .inl q
    ·exact .inr q
   have:=PU (a:={kind:=4}) (e:=(bK T s).1) (f:=(bK T (h8 T (bK T s).1 (bK T s).2)).1) (by simp);exact⟨af,max d B,qS y af,.put j (n.more af) (M.more af)⟩
 |false=>
  rw[v,aR]at h;rw[aR];have aZ:(bo T [59] (bif aY T (bK T s).2 [59]&&(bK T s).1.kind != 7 then cQ T 2 (bK T s).2 else(bK T s).2)).aG=0:=h;cases i:aY T (bK T s).2 [59]&&(bK T s).1.kind != 7 with
  |true=>
   rw[i,aW]at aZ;unfold bo at aZ;rw[eO (fa bf),aR,fE (fa bf)]at aZ;exact absurd aZ (fa bf)
  |false=>
   rw[i,aR]at aZ;obtain⟨t1,t2,t3⟩:=eQ aK i1 aZ;obtain⟨k,O,d,y,n⟩:=m t3.f;rw[t1,Bool.true_and]at i;have N:(bK T s).1.kind=7:=by simpa using i
   have P:=k.a;have Q:=k.o;have R:=t3.a;have:=sv (a:={kind:=9}) (e:=(bK T s).1) (by simp);simp only[aR];exact⟨(k.trans t3).less af,af,d,y,.call N n⟩
def Ei(aK:Good T E)(L:nv T):∀n,Hs T E n
 |0=>by
  constructor<;>intros<;>rename_i h _<;>first|cases h|skip
 |n+1=>by
  have O:=Ei aK L n;refine⟨?_,?_,?_⟩
  ·intro s p v h aI;rw[jv]at h;obtain⟨q,g1,g2⟩:=fD h;cases g2;have i:q.2.aG=0:=by
    have aZ:(bo T [125] q.2).aG=0:=aI;unfold bo at aZ;cases ap:aY T q.2 [125]with
    |true=>exact(er ap).1
    |false=>rw[ap,aR]at aZ;exact absurd aZ (fa bf)
   obtain⟨j,M,d,G,z⟩:=O.loop [] (cJ T [123] s).at_ _ q (λah=>(jg aK v ah).2.2.2.2.1) (λah=>⟨by simp[dC],0,by have:=(jg aK v ah).2.2.2.2.1.d;simpa using this,λx u=>by cases u⟩) g1 i;obtain⟨bO,b2,cz,dz,ay,aE⟩:=jg aK v j.f;have N:=qX aK (k:=0) af cz.symm dz.symm b2 ay j aI;have aD:q.2.at_+1<=(dc T [125] q.2).at_:=by
    have aZ:(bo T [125] q.2).aG=0:=aI;exact(eQ aK (λ_=>j.in ay af) aZ).2.2.a
   exact⟨N.less af,by(try simp only);omega,d,af,z⟩
  ·intro l a0 s p v he h aI;rw[nY]at h;cases N:(s.aG==0&& !aY T s [125])with
   |false=>
    rw[N,aR]at h;cases h;exact⟨.refl (v aI) aI,he aI⟩
   |true=>
    rw[N,aW]at h;simp only[Bool.and_eq_true,beq_iff_eq]at N;obtain⟨q,g1,g2⟩:=fD h;have ae:=λi=>O.stmt s q v g1 i
    obtain⟨i2,az,i3,i4⟩:=he N.1;obtain⟨W,ai,d2,aj,ak⟩:=O.loop (l++[q.1]) a0 q.2 p (bY.to v (λy=>(ae y).1) af) (λi=>by
     obtain⟨j,M,d,G,z⟩:=ae i;refine⟨by rw[GY];omega,max d az,by rw[j.o];exact qS G i3,λx u=> ?_⟩;rcases List.mem_append.1 u with u|u
     ·exact(i4 x u).more af
     ·simp only[List.mem_cons,List.not_mem_nil,or_false]at u;subst u;exact z.more af) g2 aI
    have j:=(ae W.f).1;exact⟨(j.trans W).less af,ai,d2,by rw[<-j.o];exact aj,ak⟩
  ·intro s p v h aI;rw[qn]at h;obtain⟨q,g1,g2⟩:=fD h;cases g2;have key:bY E s q.2 2/\(eu q.1:Int)<=400*(q.2.at_-s.at_)/\∃d:Nat,s.bU+d<=50/\ey d q.1:=by
    have i:q.2.aG=0:=aI;clear aI;cases ad:(aY T s [118,97,114]||aY T s [108,101,116])with
    |true=>
     rw[ad,aW]at g1;have m:bY E s (aF s) 1:=by
      rcases Bool.or_eq_true_iff.1 ad with u|u<;>exact fF aK (v (er u).1) u
     have w:=m.fZ v af;have S:=m.a;have go:=m.o;have t1:=λi=>GO aK w i
     have it:cX E (et T (aF s)).2:=bY.to w (λy=>(t1 y).2.2) af;cases H:(al T s.at_).text==[108,101,116]with
     |true=>
      rw[H,aW]at g1;cases g1;have an:=λi=>eQ aK (x:=[61]) it i
      have au:cX E (bo T [61] (et T (aF s)).2):=bY.to it (λy=>(an y).2.2) af;have av:=λi=>nP aK L au i
      have F:cX E (bK T (bo T [61] (et T (aF s)).2)).2:=bY.to au (λy=>(av y).1) af;obtain⟨-,-,dZ⟩:=eQ aK (x:=[59]) F i;obtain⟨j,M,d,G,z⟩:=av dZ.f;obtain⟨-,-,aa⟩:=an j.f;obtain⟨Q,n2,P⟩:=t1 aa.f;have ab:=dZ.a;have aw:=j.a;have aH:=aa.a;have aJ:=aa.o;have aC:=P.a;have no:=P.o;have:=sv (a:={kind:=2,name:=(et T (aF s)).1.1,cf:=(et T (aF s)).1.2.1,cS:=(et T (aF s)).1.2.2}) (e:=(bK T (bo T [61] (et T (aF s)).2)).1) (by have:=e5 Q;have:=gU n2;simp;omega);simp only[rr];exact⟨((((m.trans P).trans aa).trans j).trans dZ).less af,af,d,af,.lets Q n2 z⟩
     |false=>
      rw[H,aR]at g1;cases g1;obtain⟨-,-,dZ⟩:=eQ aK (x:=[59]) it i;obtain⟨Q,n2,P⟩:=t1 dZ.f;have ab:=dZ.a;have aC:=P.a;have ag:=(v m.f).d;have:=GX (a:={kind:=1,name:=(et T (aF s)).1.1,cf:=(et T (aF s)).1.2.1,cS:=(et T (aF s)).1.2.2}) (by have:=e5 Q;have:=gU n2;simp;omega);simp only[q2];exact⟨((m.trans P).trans dZ).less af,af,0,by simpa using ag,.var Q n2⟩
    |false=>
     rw[ad,aR]at g1;cases H:aY T s [105,102]with
     |true=>
      rw[H,aW]at g1;have m:=fF aK (v (er H).1) H;have w:=m.fZ v af;have S:=m.a;have go:=m.o;have av:=λi=>nP aK L w i
      have F:cX E (bK T (aF s)).2:=bY.to w (λy=>(av y).1) af;obtain⟨b,g3,g4⟩:=fD g1;have am:=λi=>O.block _ b F g3 i
      cases B:aY T b.2 [101,108,115,101]with
      |true=>
       rw[B,aW]at g4;obtain⟨c,g5,g6⟩:=fD g4;cases g6;have ao:=am (er B).1;have aq:cX E b.2:=ao.1.fZ F af;have V:=fF aK (aq (er B).1) B;obtain⟨m1,m2,d2,m3,m4⟩:=O.block _ c (V.fZ aq af) g5 i;obtain⟨A,ax,d1,dV,fk⟩:=ao;obtain⟨j,M,d,G,z⟩:=av A.f;have:=x7 (a:={kind:=5}) (e:=(bK T (aF s)).1) (b:=b.1) (c:=c.1) (by simp);have aT:=j.a;have a2:=A.a;have a3:=V.a;have a4:=m1.a;have bO:=j.o;have b2:=A.o;have cz:=V.o;refine⟨((((m.trans j).trans A).trans V).trans m1).less af,by(try simp only);omega,max (d-1) (max d1 d2)+1,af,.ifs (z.more af) (λx u=>(fk x u).more af) (λx u=>(m4 x u).more af)⟩
      |false=>
       rw[B,aR]at g4;cases g4;obtain⟨A,ax,d1,dV,fk⟩:=am i;obtain⟨j,M,d,G,z⟩:=av A.f;have:=x7 (a:={kind:=5}) (e:=(bK T (aF s)).1) (b:=b.1) (c:=[]) (by simp);have aT:=j.a;have a2:=A.a;have bO:=j.o;have aA:dC []=0:=rfl;refine⟨((m.trans j).trans A).less af,by(try simp only);omega,max (d-1) d1+1,af,.ifs (z.more af) (λx u=>(fk x u).more af) (λx u=>by cases u)⟩
     |false=>
      rw[H,aR]at g1;cases B:aY T s [119,104,105,108,101]with
      |true=>
       rw[B,aW]at g1;have m:=fF aK (v (er B).1) B;have w:=m.fZ v af;have S:=m.a;have go:=m.o;have av:=λi=>nP aK L w i
       have F:cX E (bK T (aF s)).2:=bY.to w (λy=>(av y).1) af;obtain⟨b,g3,g4⟩:=fD g1;cases g4;obtain⟨A,ax,d1,dV,fk⟩:=O.block _ b F g3 i;obtain⟨j,M,d,G,z⟩:=av A.f;have:=x7 (a:={kind:=6}) (e:=(bK T (aF s)).1) (b:=b.1) (c:=[]) (by simp);have aT:=j.a;have a2:=A.a;have bO:=j.o;have aA:dC []=0:=rfl;refine⟨((m.trans j).trans A).less af,by(try simp only);omega,max (d-1) d1+1,af,.while (z.more af) (λx u=>(fk x u).more af)⟩
      |false=>
       rw[B,aR]at g1;cases R:aY T s [114,101,116,117,114,110]with
       |true=>
        rw[R,aW]at g1;have m:=fF aK (v (er R).1) R;have w:=m.fZ v af;have S:=m.a;have go:=m.o;have ag:=(v m.f).d;cases g1;unfold xo at i ⊢;cases K:aY T (aF s) [59]with
        |true=>
         rw[K,aW]at i;rw[aW];obtain⟨-,-,dZ⟩:=eQ aK (x:=[59]) w i;have ab:=dZ.a;have:=GX (a:={kind:=7}) (by simp);exact⟨(m.trans dZ).less af,by(try simp only);omega,0,by simpa using ag,.oc⟩
        |false=>
         rw[K,aR]at i;rw[aR];have av:=λi=>nP aK L w i
         have F:cX E (bK T (aF s)).2:=bY.to w (λy=>(av y).1) af;obtain⟨-,-,dZ⟩:=eQ aK (x:=[59]) F i;obtain⟨j,M,d,G,z⟩:=av dZ.f;have ab:=dZ.a;have aw:=j.a;have:=sv (a:={kind:=7}) (e:=(bK T (aF s)).1) (by simp);exact⟨((m.trans j).trans dZ).less af,by(try simp only);omega,d,af,.od z⟩
       |false=>
        rw[R,aR]at g1;cases K:aY T s [112,114,105,110,116]with
        |true=>
         rw[K,aW]at g1;have m:=fF aK (v (er K).1) K;have w:=m.fZ v af;have S:=m.a;have go:=m.o;cases g1;unfold xh at i ⊢;have av:=λi=>nP aK L w i
         have F:cX E (bK T (aF s)).2:=bY.to w (λy=>(av y).1) af;obtain⟨-,-,dZ⟩:=eQ aK (x:=[59]) F i;obtain⟨j,M,d,G,z⟩:=av dZ.f;have ab:=dZ.a;have aw:=j.a;have:=sv (a:={kind:=8}) (e:=(bK T (aF s)).1) (by simp);exact⟨((m.trans j).trans dZ).less af,by(try simp only);omega,d,af,.print z⟩
        |false=>
         rw[K,aR]at g1;cases g1;exact Lt aK L v i
   obtain⟨W,ai,d,aj,ak⟩:=key;exact⟨W,by rw[PT];exact ai,d,aj,ak.at _⟩
end
def Tok.bt(t:Tok):Tok:=⟨t.kind,t.text,t.n,0⟩
def e3(T:List Tok):List Tok:=T.map Tok.bt
def au.bt(s:au):au:=⟨s.at_,s.bU,s.aG,0⟩
def bG.bt(a:bG):bG:={a with pos:=0}
mutual
def aA.bt:aA->aA
 | .mk a ks=> .mk a.bt (eM ks)
def eM:List aA->List aA
 |[]=>[]
 |e::es=>e.bt::eM es
end
def b9.bt(a:b9):b9:={a with pos:=0}
mutual
def bM.bt:bM->bM
 | .mk a es b c=> .mk a.bt (eM es) (sQ b) (sQ c)
def sQ:List bM->List bM
 |[]=>[]
 |e::es=>e.bt::sQ es
end
def I4(l m:List aA):eM (l++m)=eM l++eM m:=by
 induction l with
 |nil=>rfl
 |cons e l a=>simp only[List.cons_append,eM,a]
def I5(e:aA):eM [e]=[e.bt]:=rfl
def gS{α:Type}(f:α->α)(x:ae α):ae α:=x.map λp=>(f p.1,p.2.bt)
section
variable {α β:Type}{f:α->α}{h:β->β}
def mq(p:α×au):gS f (D p)=D (f p.1,p.2.bt):=rfl
def nO(c:Bool)(a b:ae α):gS f (bif c then a else b)=bif c then gS f a else gS f b:=by cases c<;>rfl
def kH(x:ae α)(g:α×au->ae β):gS h (x.bind g)=x.bind λp=>gS h (g p):=by cases x<;>rfl
def kE(x:ae α)(g:α×au->ae β):(gS f x).bind g=x.bind λp=>g (f p.1,p.2.bt):=by cases x<;>rfl
def z1(c:Bool)(a b:au):(bif c then a else b).bt=bif c then a.bt else b.bt:=by cases c<;>rfl
end
section
variable (T:List Tok)(s:au)
def nr(i:Int):al (e3 T) i=(al T i).bt:=by
 unfold al e3;rw[List.length_map];split
 ·rfl
 ·rw[List.getElem?_map];cases T[i.toNat]? <;>rfl
def bJ(t:Tok):t.bt.kind=t.kind:=rfl
def ed(t:Tok):t.bt.text=t.text:=rfl
def sk(t:Tok):t.bt.n=t.n:=rfl
def uH(t:Tok):t.bt.pos=0:=rfl
def nn:s.bt.at_=s.at_:=rfl
def O9:s.bt.bU=s.bU:=rfl
def r_:s.bt.aG=s.aG:=rfl
def J9(k:Int)(x:aC):ck (e3 T) s.bt k x=ck T s k x:=by unfold ck;rw[nn,r_,nr,bJ,ed]
def sR(e:Int):cQ (e3 T) e s.bt=(cQ T e s).bt:=by
 unfold cQ;rw[r_];split
 ·rw[nr,nn];rfl
 ·rfl
def lA:aF s.bt=(aF s).bt:=rfl
def D2:eh s.bt=(eh s).bt:=rfl
def J6:eN s.bt=(eN s).bt:=rfl
def jz(x:aC):aY (e3 T) s.bt x=aY T s x:=J9 T s _ x
def uC(x:aC):bo (e3 T) x s.bt=(bo T x s).bt:=by
 unfold bo;rw[jz,lA,sR,z1]
def rK(x:aC):cJ (e3 T) x s.bt=(cJ T x s).bt:=by
 unfold cJ;rw[jz,O9,sR,uC,J6,z1]
def qW(x:aC):dc (e3 T) x s.bt=(dc T x s).bt:=by unfold dc;rw[uC,D2]
def tm:bA (e3 T) s.bt=((bA T s).1,(bA T s).2.bt):=by
 unfold bA;rw[r_,nn,nr,bJ,ed,lA,sR];cases(s.aG==0&&(al T s.at_).kind==1)<;>rfl
def xU(x:aC):∀(n:Nat) (s:au),takeN (e3 T) x n s.bt=(takeN T x n s).bt
 |0,_=>rfl
 |n+1,s=>by rw[takeN,takeN,uC,xU x n]
def DQ:∀(n:Nat) (d:Int) (s:au),eF (e3 T) n d s.bt=match eF T n d s with
  | .inl p=> .inl (p.1,p.2.bt)
  | .inr s'=> .inr s'.bt
 |0,d,s=>by
  rw[eF,eF,jz,sR];cases aY T s [91]<;>rfl
 |n+1,d,s=>by
  rw[eF,eF,jz,lA,DQ n];cases aY T s [91]<;>rfl
def K8(d:Int):eX (e3 T) d s.bt=((eX T d s).1,(eX T d s).2.bt):=by
 unfold eX;rw[jz,jz,nn,nr,ed,lA,xU,tm,xU];cases(aY T s [105,110,116]||aY T s [98,111,111,108])<;>rfl
def DT:cI (e3 T) s.bt=((cI T s).1,(cI T s).2.bt):=by
 unfold cI;rw[DQ];cases eF T 3 0 s with
 |inl p=>exact K8 T p.2 p.1
 |inr s'=>rfl
def KE(lev:Nat)(t:Tok):dW lev t.bt=dW lev t:=rfl
def j2(a:bG)(ks:List aA):(aA.mk a ks).bt= .mk a.bt (eM ks):=by rw[aA.bt]
structure Hm(n:Nat):Prop where
 an:∀lev s,dd (e3 T) n lev s.bt=gS aA.bt (dd T n lev s)
 aE:∀lev e s,e_ (e3 T) n lev (aA.bt e) s.bt=gS aA.bt (e_ T n lev e s)
 bn:∀s,fl (e3 T) n s.bt=gS aA.bt (fl T n s)
 b8:∀k s,gN (e3 T) n k s.bt=gS aA.bt (gN T n k s)
 dK:∀e s,eg (e3 T) n (aA.bt e) s.bt=gS aA.bt (eg T n e s)
 kG:∀s,ep (e3 T) n s.bt=gS aA.bt (ep T n s)
 nK:∀s,dy (e3 T) n s.bt=gS aA.bt (dy T n s)
 lu:∀p s,fj (e3 T) n 0 s.bt=gS aA.bt (fj T n p s)
 q3:∀s,e2 (e3 T) n s.bt=gS eM (e2 T n s)
 q4:∀l s,eE (e3 T) n (eM l) s.bt=gS eM (eE T n l s)
def zZ:∀n,Hm T n
 |0=>⟨λ_ _=>rfl,λ_ _ _=>rfl,λ_=>rfl,λ_ _=>rfl,λ_ _=>rfl,λ_=>rfl,λ_=>rfl,λ_ _=>rfl,λ_=>rfl,λ_ _=>rfl⟩
 |n+1=>by
  have i:=zZ n;refine⟨λlev s=> ?_,λlev e s=> ?_,λs=> ?_,λk s=> ?_,λe s=> ?_,λs=> ?_,λs=> ?_,λp s=> ?_,λs=> ?_,λl s=> ?_⟩
  ·rw[dd,dd];split
   ·exact i.bn s
   ·simp only[i.an,kE,kH,i.aE]
  ·rw[e_,e_];simp only[r_,nn,nr,KE,lA,i.an,kE,nO,kH,mq,uH,<-i.aE,j2,eM,bG.bt]
  ·rw[fl,fl];simp only[jz,i.b8,i.nK,kE,nO,kH,i.dK]
  ·rw[gN,gN];simp only[nn,nr,ed,rK,i.an,kE,kH,mq,uH,D2,j2,eM,bG.bt]
  ·rw[eg,eg];simp only[jz,nn,nr,lA,tm,rK,qW,i.an,kE,nO,kH,mq,uH,<-i.dK,j2,eM,bG.bt]
  ·rw[ep,ep];simp only[rK,qW,i.an,kE,kH,mq]
  ·rw[dy,dy];simp only[r_,jz,nn,nr,bJ,ed,sk,uH,lA,tm,DT,rK,qW,i.kG,<-i.lu (al T s.at_).pos,i.q3,kE,nO,kH,mq,j2,eM,bG.bt]
  ·rw[fj,fj];simp only[jz,lA,tm,DT,uC,i.kG,kE,nO,kH,mq,j2,eM,bG.bt]
  ·rw[e2,e2];simp only[jz,rK,qW,i.an,kE,nO,kH,mq,<-i.q4,eM]
  ·rw[eE,eE];simp only[jz,lA,qW,i.an,kE,nO,kH,mq,<-i.q4,I4,I5]
end
def ch.bt(p:ch):ch:={p with pos:=0}
def fo.bt(r:fo):fo:=⟨r.name,r.fields.map ch.bt,0⟩
def Fn.bt(f:Fn):Fn:=⟨f.name,f.params.map ch.bt,f.has,f.dS,f.rd,sQ f.body,0⟩
def dv.bt(g:dv):dv:=⟨g.dk.map fo.bt,g.globals.map ch.bt,g.funcs.map Fn.bt⟩
section
variable (T:List Tok)(s:au)
