/-
  Texts of one proof, laid together: Ve Vf Vg Vh Vi ShVc ShRc T2 T3.
-/
import Derived.Test.YtghmbpmaafnodaaDoorMN
set_option linter.unusedVariables false
set_option linter.unusedSimpArgs false
set_option linter.defProp false
open Option renaming some→D,none→C
open Bool renaming true→X,false→U
open Go.bs.aa renaming int→I,str→Z
open Go.IntKind renaming i64→J
namespace Go.Proofs.YtghmbpmaafnodaaDoor
open Go.bs
open Nat (reduceAdd reduceLeDiff)
def eL(l:aC):List (List aa):=l.map λc=>[I .u8 c.toNat]
def zJ(a b:aC):eL (a++b)=eL a++eL b:=List.map_append
def lr(a:aC):(eL a).length=a.length:=List.length_map ..
def jP(H:ad)(m:Nat)(acc:aC)(b:aa):Prop:=(acc=[]/\b= .ar)\/(acc≠[]/\b= .aB m 0 acc.length 1 C/\H.get m=D (.b1 5 1 (eL acc)))
def fW(H:ad)(p m:Nat)(acc:aC):Prop:=(acc≠[]->p≠m)/\p<H.next/\∃a b,H.get p=D (.b1 81 2 [[a,b]])/\(a= .nilPtr\/a= .ptr p 0 0)/\jP H m acc b
def cR(p m:Nat)(H:ad)(m':Nat)(H':ad):Prop:=(m'=m\/H.next<=m')/\c0 (λl=>l=p\/l=m) H H'
def cR.trans{p m m1 m2:Nat}{H H1 c:ad}(h:cR p m H m1 H1)(k:cR p m1 H1 m2 c):cR p m H m2 c:=by
 obtain⟨aT,a⟩:=h;obtain⟨a2,d⟩:=k;have:=a.1;refine⟨af,Nat.le_trans a.1 d.1,λl e ax=> ?_⟩;simp only[not_or]at ax;rw[d.2 l af (by simp only[not_or];exact⟨ax.1,af⟩)];exact a.2 l e (by simp only[not_or];exact ax)
def cR.aM{p m:Nat}{H H':ad}(h:aO H H'):cR p m H m H':=⟨.inl rfl,h.mut _⟩
def cR.next{p m m':Nat}{H H':ad}(h:cR p m H m' H'):H.next<=H'.next:=h.2.1
def cR.get{p m m':Nat}{H H':ad}(h:cR p m H m' H'){l:Nat}{b:bW}(d:H.get l=D b)(a:l≠p)(c:l≠m):H'.get l=D b:=h.2.get d (by simp only[not_or];exact⟨a,c⟩)
def jP.one{H:ad}{m:Nat}{acc:aC}{b:aa}(h:jP H m acc b):b.one=true:=by rcases h with⟨_,rfl⟩|⟨_,rfl,_⟩<;>rfl
def fW.aM{H H':ad}{p m:Nat}{acc:aC}(h:fW H p m acc)(q:aO H H'):fW H' p m acc:=by
 obtain⟨e,i,a,b,j,k,c⟩:=h;refine⟨e,Nat.lt_of_lt_of_le i q.1,a,b,q.get j,k,?_⟩;rcases c with c|⟨d,an,aE⟩
 ·exact .inl c
 ·exact .inr ⟨d,an,q.get aE⟩
def qt:P.underlying 77=D (.slice 5):=ah
def sq:P.underlying 9=D .string:=ah
def qT:hN P 5=D 1:=ah
def qR:eV P 5=D (I .u8 0):=ah
def Ib{H:ad}{m:Nat}{acc s:aC}{b:aa}(h:jP H m acc b)(o:acc.length+s.length<=10000000000000):
  ∃j H' m',c1 P H [77,9] b (Z s)=D (j,H')/\jP H' m' (acc++s) j/\((m'=m/\s=[])\/H.next<=m')/\H.next<=H'.next/\∀l,l<H.next->(l≠m\/acc=[])->H'.get l=H.get l:=by
 have d:h7 P H 9 1 (Z s)=D (eL s):=by simp[h7,sq,eL]
 rcases h with⟨rfl,rfl⟩|⟨e,rfl,c⟩
 ·by_cases ax:s=[]
  ·subst ax;refine⟨.ar,H,m,?_,.inl ⟨rfl,rfl⟩,.inl ⟨rfl,rfl⟩,bj _,λ_ _ _=>rfl⟩;simp[c1,hS,qt,sq,oV,qT,qR,d,aa.cells,eL]
  ·have p:¬s.length=0:=by simpa using ax
   simp only[List.length_nil,Nat.zero_add]at o;refine⟨.aB H.next 0 s.length 1 C,H.push (.b1 5 1 (eL s)),H.next,?_,.inr ⟨by simpa using ax,rfl,ad.bI _ _⟩,.inr (bj _),by simp,λl i _=>ad.dw af⟩;simp[c1,hS,qt,sq,oV,qT,qR,d,aa.cells,lr,ax,ju,dG];omega
 ·by_cases ax:s=[]
  ·subst ax;refine⟨.aB m 0 acc.length 1 C,H,m,?_,.inr (by rw[List.append_nil];exact⟨e,rfl,c⟩),.inl ⟨rfl,rfl⟩,bj _,λ_ _ _=>rfl⟩;simp[c1,hS,qt,sq,oV,qT,qR,d,aa.cells,eL]
  ·have hm:=ad.aS c;have n:eK H m 0 acc.length 1=D (eL acc):=by
    unfold eK;rw[c];simp[lr];rw[List.take_of_length_le (by rw[lr];omega)]
   refine⟨.aB H.next 0 (acc.length+s.length) 1 C,(H.set m .dead).push (.b1 5 1 (eL acc++eL s)),H.next,?_,.inr ⟨by simp[ax],by rw[List.length_append],by rw[zJ];simpa only[ad.ds]using ad.bI (H.set m .dead) (.b1 5 1 (eL acc++eL s))⟩,.inr (bj _),by simp,λl i a=>by
    have a:l≠m:=by rcases a with a|a<;>first|exact a|exact absurd a e
    rw[ad.dw (by simp only[ad.ds];omega),ad.get_set_other af]⟩
   have i:¬s.length=0:=by simpa using ax
   have a:acc.length+s.length<=140737488355328:=af;have k:acc.length+s.length<=9223372036854775807:=af;simp[c1,hS,qt,sq,oV,qT,qR,d,aa.cells,lr,a,k,n,c,ax]
def Ic{H:ad}{m:Nat}{acc:aC}{b:aa}{c:UInt8}{k:Nat}(h:jP H m acc b)(i:acc≠[])(u:acc.length<=10000000000000)(p:H.get k=D (.row U 1 [[I .u8 c.toNat]])):
  ∃e H' m',c1 P H [77,77] b (.aB k 0 1 1 (D 1))=D (e,H')/\jP H' m' (acc++[c]) e/\H.next<=m'/\H.next<=H'.next/\∀l,l<H.next->l≠m->H'.get l=H.get l:=by
 have q:h7 P H 77 1 (.aB k 0 1 1 (D 1))=D (eL [c]):=by simp[h7,qt,eK,p,eL]
 rcases h with⟨rfl,_⟩|⟨_,rfl,a⟩
 ·exact absurd rfl i
 ·have hm:=ad.aS a;have o:eK H m 0 acc.length 1=D (eL acc):=by
   unfold eK;rw[a];simp[lr];rw[List.take_of_length_le (by rw[lr];omega)]
  refine⟨.aB H.next 0 (acc.length+1) 1 C,(H.set m .dead).push (.b1 5 1 (eL acc++eL [c])),H.next,?_,.inr ⟨by simp,by rw[List.length_append];rfl,by rw[zJ];simpa only[ad.ds]using ad.bI (H.set m .dead) (.b1 5 1 (eL acc++eL [c]))⟩,bj _,by simp,λl s d=>by rw[ad.dw (by simp only[ad.ds];omega),ad.get_set_other af]⟩;have d:acc.length+1<=140737488355328:=af;have j:acc.length+1<=9223372036854775807:=af;have n:(eL [c]).length=1:=rfl;simp[c1,hS,qt,oV,qT,qR,q,aa.cells,d,j,n,o,a]
open Classical in
def zO{H:ad}{p m:Nat}{acc:aC}(h:fW H p m acc):∃b H1,aD P ay 80 [.ptr p 0 0] H=D (.tuple [],H1)/\H1.next=H.next/\H1.get p=D (.b1 81 2 [[.ptr p 0 0,b]])/\jP H1 m acc b/\∀l,l≠p->H1.get l=H.get l:=by
 obtain⟨j,k,a,b,d,n,c⟩:=h;rcases n with rfl|rfl
 ·refine⟨b,H.set p (.b1 81 2 [[.ptr p 0 0,b]]),mr ?_,by simp,ad.get_set_same k,?_,λl o=>ad.get_set_other (λe=>o e.symm)⟩
  ·show(match H.get p with
    |some (.b1 81 2 [[.nilPtr,b]])=>if b.one=X then D (aa.tuple [],H.set p (.b1 81 2 [[.ptr p 0 0,b]]))else C
    |some (.b1 81 2 [[.ptr l' 0 0,_]])=>if l'=p then D (aa.tuple [],H)else C
    |_=>C)=_
   rw[d];simp only
   rw[if_pos c.one]
  ·rcases c with c|⟨i,an,aE⟩
   ·exact .inl c
   ·exact .inr ⟨i,an,by rw[ad.get_set_other (j i)];exact aE⟩
 ·refine⟨b,H,mr ?_,rfl,d,c,λ_ _=>rfl⟩;show(match H.get p with
   |some (.b1 81 2 [[.nilPtr,b]])=>if b.one=X then D (aa.tuple [],H.set p (.b1 81 2 [[.ptr p 0 0,b]]))else C
   |some (.b1 81 2 [[.ptr l' 0 0,_]])=>if l'=p then D (aa.tuple [],H)else C
   |_=>C)=_
  rw[d];simp only
  rw[if_pos trivial]
def G5{H:ad}{p m:Nat}{acc s:aC}(h:fW H p m acc)(o:acc.length+s.length<=10000000000000):W (aD P ay 57 [.ptr p 0 0,Z s] H) λ_ H'=>∃m',fW H' p m' (acc++s)/\cR p m H m' H':=by
 have k:=h.1;have z:=h.2.1;obtain⟨b,H1,an,B,g1,w,x⟩:=zO h;obtain⟨E,a,m',aE,i,hm,n2,u⟩:=Ib w o;have A:=i.one;have c:a.get p=D (.b1 81 2 [[.ptr p 0 0,b]]):=by rw[u p af ((Decidable.em (acc=[])).elim .inr λh=> .inl (k h))];exact g1
 have v:=ad.aS c;have j:H.next<=H1.next:=af
 refine cF (λ_=>Mz 0) ?_;rw[uj];have fin:∀cl,jP a m' (acc++s) cl->∃m',fW (a.set p (.b1 81 2 [[.ptr p 0 0,cl]])) p m' (acc++s)/\cR p m H m' (a.set p (.b1 81 2 [[.ptr p 0 0,cl]])):=by
  intro cl d;have q:acc++s≠[]->p≠m':=by
   intro h;rcases hm with⟨rfl,rfl⟩|hm
   ·rw[List.append_nil]at h;exact k h
   ·omega
  refine⟨m',⟨q,by simpa using v,.ptr p 0 0,cl,ad.get_set_same v,.inr rfl,?_⟩,af,by simp only[ad.ds];omega,λl o ax=> ?_⟩
  ·rcases d with d|⟨gH,a6,y⟩
   ·exact .inl d
   ·exact .inr ⟨gH,a6,by rw[ad.get_set_other (q gH)];exact y⟩
  ·simp only[not_or]at ax;rw[ad.get_set_other (λe=>ax.1 e.symm),u l af (.inl ax.2),x l ax.1]
 have n:=i;rcases i with⟨_,rfl⟩|⟨_,rfl,_⟩
 ·simp-implicitDefEqProofs(disch:=try exact aj)only[reduceAdd,reduceLeDiff,reduceIte,aw,an,eZ,j,g1,aE,n2,c];exact ba.2 (fin _ n)
 ·simp-implicitDefEqProofs(disch:=try exact aj)only[reduceAdd,reduceLeDiff,reduceIte,aw,an,eZ,j,g1,aE,n2,c];exact ba.2 (fin _ n)
def O_(l:Nat)(c:Int):b5 P l 77 1 [(0,I .u8 c)]=D (.aB l 0 1 1 (D 1),.row U 1 [[I .u8 c]]):=ah
def PW{H:ad}{p m:Nat}{acc:aC}{c:UInt8}(h:fW H p m acc)(u:acc≠[])(w:acc.length<=10000000000000):W (aD P ay 58 [.ptr p 0 0,I .u8 c.toNat] H) λ_ H'=>∃m',fW H' p m' (acc++[c])/\cR p m H m' H':=by
 have A:=h.1 u;have F:=h.2.1;obtain⟨b,H1,an,K,g1,i,E⟩:=zO h;have z:=aO.push H1 (.row U 1 [[I .u8 c.toNat]]);have B:jP (H1.push (.row U 1 [[I .u8 c.toNat]])) m acc b:=by
  rcases i with i|⟨gH,a6,o⟩
  ·exact .inl i
  ·exact .inr ⟨gH,a6,z.get o⟩
 obtain⟨L,a,m',aE,k,hm,n2,n⟩:=Ic (c:=c) B u w (ad.bI H1 _);simp only[ad.bX]at hm n2 n;have G:=k.one;have d:a.get p=D (.b1 81 2 [[.ptr p 0 0,b]]):=by rw[n p af A];exact z.get g1
 have y:=ad.aS d;have q:H.next<=H1.next:=af
 have s:(H1.push (.row U 1 [[I .u8 c.toNat]])).next<=a.next:=by simp only[ad.bX];omega
 have x:=O_ H1.next c.toNat
 refine cF (λ_=>MA 0) ?_;rw[uk];have fin:∀cl,jP a m' (acc++[c]) cl->∃m',fW (a.set p (.b1 81 2 [[.ptr p 0 0,cl]])) p m' (acc++[c])/\cR p m H m' (a.set p (.b1 81 2 [[.ptr p 0 0,cl]])):=by
  intro cl j;refine⟨m',⟨λ_=>af,by simpa using y,.ptr p 0 0,cl,ad.get_set_same y,.inr rfl,?_⟩,af,by simp only[ad.ds];omega,λl w ax=> ?_⟩
  ·rcases j with j|⟨gH,a6,o⟩
   ·exact .inl j
   ·exact .inr ⟨gH,a6,by rw[ad.get_set_other af];exact o⟩
  ·simp only[not_or]at ax;rw[ad.get_set_other (λe=>ax.1 e.symm),n l af ax.2,ad.dw af,E l ax.1]
 have v:=k;rcases k with⟨_,rfl⟩|⟨_,rfl,_⟩
 ·simp-implicitDefEqProofs(disch:=try exact aj)only[reduceAdd,reduceLeDiff,reduceIte,aw,an,eZ,q,g1,x,aE,s,d];exact ba.2 (fin _ v)
 ·simp-implicitDefEqProofs(disch:=try exact aj)only[reduceAdd,reduceLeDiff,reduceIte,aw,an,eZ,q,g1,x,aE,s,d];exact ba.2 (fin _ v)
def D6:∀n:Nat,(List.replicate n ([32,32]:aC)).flatten=pad n
 |0=>rfl
 |n+1=>by
  rw[List.replicate_succ,List.flatten_cons,D6 n];unfold pad;rw[show 2*(n+1)=2*n+1+1 by omega,List.replicate_succ,List.replicate_succ];rfl
def fW.lt{H:ad}{p m:Nat}{acc:aC}(h:fW H p m acc):p<H.next:=h.2.1
section
variable {N:Nat}{H:ad}{p m k:Nat}{acc:aC}{parts:List aC}{cap:Option Nat}{ro:Bool}
def De(u:H.get k=D (.row ro 1 (parts.map λs=>[Z s])))(A:k≠p)(z:k≠m)(x:acc++parts.flatten≠[])(w:parts.length<=1000)(v:acc.length+parts.flatten.length<=10000000000000):∀(rest:List aC) (j n:Nat) (done:List aC) (m1:Nat) (H1:ad),parts=done++rest->done.length=j->rest.length<n->fW H1 p m1 (acc++done.flatten)->cR p m H m1 H1->
  W (mT (aD P ay) N n (.ptr p 0 0) (.aB k 0 parts.length 1 cap) (I J parts.length) (I J j) H1) λ_ H'=>∃m',fW H' p m' (acc++(parts.flatten++[10]))/\cR p m H m' H'
 |_,_,0,_,_,_,_,_,w,_,_=>af
 |[],j,n+1,done,m1,H1,aI,o,y,h,hw=>by
  rw[List.append_nil]at aI;subst aI;have i:¬((j:Int)<(parts.length:Int)):=af;have l:=PW (c:=10) h x (by rw[List.length_append];omega);have B:(((10:UInt8).toNat:Nat):Int)=10:=rfl;rw[B]at l;simp-implicitDefEqProofs(disch:=try exact aj)only[mT,r0,p4,reduceAdd,reduceLeDiff,reduceIte,aw,i,decide_false];refine aP l ?_;rintro _ d ⟨m2,e,a⟩;refine⟨a.next,ba.2 ⟨m2,?_,hw.trans a⟩⟩;rw[<-List.append_assoc];exact e
 |s::rest,j,n+1,done,m1,H1,aI,o,y,h,hw=>by
  simp only[List.length_cons]at y;have Q:parts.length=done.length+(rest.length+1):=by rw[aI,List.length_append,List.length_cons]
  have i:(j:Int)<(parts.length:Int):=af;have F:(0:Int)<=(j:Int):=af;have L:((j:Int)).toNat=j:=af;have O:IntKind.i64.wrap ((j:Int)+1)=((j+1:Nat):Int):=by rw[wrap_i64 af af];omega
  have E:=hw.get u A z;have a6:(parts.map λs=>[aa.str s])[0+j]? =D [Z s]:=by
   rw[Nat.zero_add,List.getElem?_map,aI,List.getElem?_append_right af,show j-done.length=0 by omega];rfl
  have M:(parts.map λs=>[aa.str s])[j]? =D [Z s]:=by rw[Nat.zero_add]at a6;exact a6
  have q:parts.flatten=done.flatten++(s++rest.flatten):=by rw[aI];simp
  rw[q]at v;simp only[List.length_append]at v;have G:=G5 (s:=s) h (by rw[List.length_append];omega);simp-implicitDefEqProofs(disch:=try exact aj)only[mT,r0,reduceAdd,reduceLeDiff,reduceIte,aw,i,decide_true,F,L,E,a6,M];refine aP G ?_;rintro _ d ⟨m2,e,a⟩;refine⟨a.next,?_⟩;simp-implicitDefEqProofs(disch:=try exact aj)only[bh,bx,da,O];have K:fW d p m2 (acc++(done++[s]).flatten):=by
   rw[List.flatten_append,<-List.append_assoc];simpa using e
  exact De u A z x w (by rw[q];simp only[List.length_append];omega) rest (j+1) n (done++[s]) m2 d (by rw[aI,List.append_assoc];rfl) (by rw[List.length_append,o];rfl) af K (hw.trans a)
def KJ{deep:Nat}{z:Int}(u:z=deep)(j:fW H p m acc)(c:H.get k=D (.row ro 1 (parts.map λs=>[Z s])))(d:k≠p)(w:k≠m)(o:parts.flatten≠[])(l:parts.length<=1000)(A:deep<=1000)(B:acc.length+parts.flatten.length<=1000000000000){n:Nat}(q:n=parts.length):
  W (aD P ay 29 [.ptr p 0 0,I J z,.aB k 0 n 1 cap] H) λ_ H'=>∃m',fW H' p m' (acc++(pad deep++(parts.flatten++[10])))/\cR p m H m' H':=by
 subst u;subst q;refine cF (λ_=>Mh (parts.length+1)) ?_;have an:aD P ay 54 [Z [32,32],I J deep] H=D (Z (pad deep),H):=by
  rw[<-D6];exact xn (by simp only[List.length_cons,List.length_nil];omega) af
 have E:=hT deep;have i:=G5 (s:=pad deep) j af;rw[tX];simp-implicitDefEqProofs(disch:=try exact aj)only[reduceAdd,reduceLeDiff,reduceIte,aw,an,eZ,bj];refine aP i ?_;rintro _ e ⟨m2,h,a⟩;refine⟨a.next,?_⟩;simp-implicitDefEqProofs(disch:=try exact aj)only[reduceAdd,reduceLeDiff,reduceIte,aw];have F:=ad.aS c;have x:k≠m2:=by have:=a.1;omega
 refine(De (N:=parts.length+1) (acc:=acc++pad deep) (a.get c d w) d x (by simp[o]) l (by rw[List.length_append];omega) parts 0 (parts.length+1) [] m2 e rfl rfl af (by simpa using h) (cR.aM (.refl _))).mono ?_;rintro v H' ⟨m',b3,y⟩;exact⟨m',by rw[List.append_assoc]at b3;exact b3,a.trans y⟩
end
def nu:bG:={kind:=0,pos:=0}
def P5{H:ad}:W (aD P ay 16 [.agg (bG.cells nu .ar)] H) λr H'=>r= Z []/\aO H H':=by
 have d:∀l,dO l (.agg (bG.cells nu .ar))=D (.ptr l 0 0,.row U 11 [bG.cells nu .ar]):=λl=>hk l _ rfl
 have pp:=aO.push H (.row U 11 [bG.cells nu .ar]);have dr:=ad.bI H (.row U 11 [bG.cells nu .ar]);have e:=Cx (H:=H.push (.row U 11 [bG.cells nu .ar])) (ok:=λ_=>True) (ks:=[]) (kv:= .ar) (.inl ⟨rfl,rfl⟩) (by simp);refine cF (λ_=>E3 0) ?_;simp only[bG.cells,nu]at d pp dr e ⊢;rw[rZ];simp-implicitDefEqProofs(disch:=try exact aj)only[reduceAdd,reduceLeDiff,reduceIte,aw,d];refine aP e ?_;rintro _ k ⟨b,i,rfl,bO,-,h⟩;refine⟨h.1,?_⟩;have a:=h.bE (.row U 11 [b.cells i]);have c:=a.get dr;simp only[bG.cells]at a c;have s0:∀H,aD P ay 46 [I J 0] H=D (Z [],H):=λH=>xx 0 rfl
 have j:aq P .neq 9 X (Z []) (Z [])=D (.bool U):=rfl;simp-implicitDefEqProofs(disch:=try exact aj)only[reduceAdd,reduceLeDiff,reduceIte,aw,bO,c,Int.reduceBEq,lN,mR,s0,eZ,bj,j];exact ba.2 ⟨rfl,pp.trans a⟩
def iZ(ks:List aA)(j:Nat):aC:=match ks[j]? with
 |some e=>flat (bd e)
 |none=>[]
def Ac{H:ad}{ok:Nat->Prop}{ks:List aA}{kv:aa}(h:cg H ok ks kv)(F:ks.length<=1000000000)(hw:∀e∈ks,∃d,ct d 0 e)(u:∀e∈ks,cK e<=1000000000)(x:fi.hP H)(j:Nat){z:Int}(B:z=j):
  W (aD P ay 41 [kv,I J z] H) λv H1=>∃cs,v= .agg cs/\aO H H1/\∀c,aO H1 c->W (aD P ay 16 [.agg cs] c) λr q=>r= Z (iZ ks j)/\aO c q:=by
 subst B;by_cases k:j<ks.length
 ·obtain⟨e,he⟩:∃e,ks[j]? =D e:=⟨ks[j],List.getElem?_eq_getElem k⟩;obtain⟨a,es⟩:=e;obtain⟨l,i,cap,ro,els,E,rfl,g1,a6,m⟩:=h.jA (n:=ks.length) rfl he;refine(s8 rfl k m.ej g1 a6).mono ?_;rintro v H1 ⟨rfl,p⟩;have hm:=List.mem_of_getElem? he;obtain⟨d,y⟩:=hw _ hm;refine⟨_,rfl,p,λc o=> ?_⟩;have:=bC _ d 0 y (u _ hm) a es rfl c ok E (m.aM (p.trans o)) (x.aM (p.trans o));unfold iZ;rw[he];exact this
 ·have A:iZ ks j=[]:=by unfold iZ;rw[List.getElem?_eq_none af]
  rw[A];refine cF (λ_=>xw 0) ?_;have w:=λH'=>h.q0 H'
  have s:(ks.length:Int)<=(j:Int):=af;unfold p9;simp-implicitDefEqProofs(disch:=try exact aj)only[reduceAdd,reduceLeDiff,reduceIte,aw,w,s,decide_true];exact ba.2 ⟨bG.cells nu .ar,rfl,aO.push _ _,λc _=>P5⟩
def Fx(l:Nat)(a b c d e:aC):b5 P l 50 5 [(0,Z a),(1,Z b),(2,Z c),(3,Z d),(4,Z e)]=D (.aB l 0 5 1 (D 5),.row U 1 [[Z a],[Z b],[Z c],[Z d],[Z e]]):=ah
def O6(l:Nat)(a b c d e f g:aC):b5 P l 50 7 [(0,Z a),(1,Z b),(2,Z c),(3,Z d),(4,Z e),(5,Z f),(6,Z g)]=D (.aB l 0 7 1 (D 7),.row U 1 [[Z a],[Z b],[Z c],[Z d],[Z e],[Z f],[Z g]]):=ah
def xM(l:Nat)(a b c d:aC):b5 P l 50 4 [(0,Z a),(1,Z b),(2,Z c),(3,Z d)]=D (.aB l 0 4 1 (D 4),.row U 1 [[Z a],[Z b],[Z c],[Z d]]):=ah
def se(l:Nat)(a b c:aC):b5 P l 50 3 [(0,Z a),(1,Z b),(2,Z c)]=D (.aB l 0 3 1 (D 3),.row U 1 [[Z a],[Z b],[Z c]]):=ah
def O5(l:Nat)(a b:aC):b5 P l 50 2 [(0,Z a),(1,Z b)]=D (.aB l 0 2 1 (D 2),.row U 1 [[Z a],[Z b]]):=ah
def KK{H:ad}{p m:Nat}{acc:aC}{deep:Nat}{z:Int}(w:z=deep)(e:fW H p m acc)(hm:m<H.next)(parts:List aC)(q:parts.flatten≠[])(o:parts.length<=1000)(k:deep<=1000)(l:acc.length+parts.flatten.length<=1000000000000){n:Nat}{cap:Option Nat}(u:n=parts.length){ae:List (List aa)}(j:ae=parts.map λs=>[Z s]):
  W (aD P ay 29 [.ptr p 0 0,I J z,.aB H.next 0 n 1 cap] (H.push (.row U 1 ae))) λ_ H'=>∃m',fW H' p m' (acc++(pad deep++(parts.flatten++[10])))/\cR p m H m' H'/\m'<H'.next/\H.next+1<=H'.next:=by
 subst j;have h:=aO.push H (.row U 1 (parts.map λs=>[Z s]));have:=e.lt;refine(KJ w (e.aM h) (ad.bI H _) af af q o k l u).mono ?_;rintro v H' ⟨m',d,i⟩;refine⟨m',d,(cR.aM h).trans i,?_,by have:=i.next;simpa only[ad.bX]using this⟩;obtain⟨_,_,a,b,_,_,c⟩:=d;rcases c with⟨c,_⟩|⟨_,_,c⟩
 ·simp at c
 ·exact ad.aS c
structure e1(n0 p m:Nat)(H:ad)(acc:aC):Prop where
 pos:0<n0
 aI:n0<=p
 hm:n0<=m
 lm:m<H.next
 iW:fW H p m acc
 lz:fi.hP H
def cR.lz{n0 p m m':Nat}{H H':ad}(w:cR p m H m' H')(a:0<n0)(aI:n0<=p)(hm:n0<=m)(g:fi.hP H):fi.hP H':=⟨w.get g.uB af af⟩
def cR.a1{n0 p m m':Nat}{H H':ad}{ok:Nat->Prop}(w:cR p m H m' H')(aI:n0<=p)(hm:n0<=m)(c:∀l,ok l->l<n0):dp H ok H' ok:=dp.mut w.2 λl h a=>by
 have:=c l h;rcases a with a|a<;>omega
def e1.aM{n0 p m:Nat}{H H':ad}{acc:aC}(h:e1 n0 p m H acc)(q:aO H H'):e1 n0 p m H' acc:=⟨h.pos,h.aI,h.hm,Nat.lt_of_lt_of_le h.lm q.1,h.iW.aM q,h.lz.aM q⟩
section
variable {n0 p m:Nat}{H:ad}{acc:aC}
def gE(h:e1 n0 p m H acc){deep:Nat}{z:Int}(q:z=deep)(parts:List aC)(k:parts.flatten≠[])(j:parts.length<=1000)(e:deep<=1000)(i:acc.length+parts.flatten.length<=1000000000000){n:Nat}{cap:Option Nat}(l:n=parts.length){ae:List (List aa)}(d:ae=parts.map λs=>[Z s]){t:aC}(o:t=pad deep++(parts.flatten++[10])):
  W (aD P ay 29 [.ptr p 0 0,I J z,.aB H.next 0 n 1 cap] (H.push (.row U 1 ae))) λ_ H'=>(H.push (.row U 1 ae)).next<=H'.next/\∃m',e1 n0 p m' H' (acc++t)/\cR p m H m' H':=by
 subst o;refine(KK q h.iW h.lm parts k j e i l d).mono ?_;rintro v H' ⟨m',c,a,u,n2⟩;have hm:=h.hm;have:=a.1;have:=h.lm;exact⟨by simpa only[ad.bX]using n2,m',⟨h.pos,h.aI,af,u,c,a.lz h.pos h.aI h.hm h.lz⟩,a⟩
end
def ky(b:List bM):Prop:=∀(d deep:Nat),(∀s∈b,ey d s)->deep+d<=51->dC b<=1000000000->∀(H:ad) (ok:Nat->Prop) (v:aa) (z:Int) (n0 p m:Nat) (acc:aC),z=deep->c_ H ok b v->(∀l,ok l->l<n0)->e1 n0 p m H acc->acc.length+dC b<=500000000000->W (aD P ay 31 [.ptr p 0 0,I J z,v] H) λ_ H'=>∃m',e1 n0 p m' H' (acc++flat (cU deep b))/\cR p m H m' H'
def IM(a:b9)(cc bv c:aa)(d:cc.one=X)(e:bv.one=X)(h:c.one=X)(l:Nat):dO l (.agg (a.cells cc bv c))=D (.ptr l 0 0,.row U 9 [a.cells cc bv c]):=
 hk l _ (by simp only[b9.cells,List.all_cons,List.all_nil,gF,hp,d,e,h,Bool.and_self])
def Pd{a:b9}{ks:List aA}{b c:List bM}(a7:ky b)(bK:ky c){d deep:Nat}(aq:ey d (.mk a ks b c))(bt:deep+d<=51)(hle:eu (.mk a ks b c)<=1000000000){H:ad}{ok:Nat->Prop}{cc bv V:aa}{n0 p m:Nat}{acc:aC}{z:Int}(bE:z=deep)(v1:cg H ok ks cc)(v2:c_ H ok b bv)(v3:c_ H ok c V)(M:∀l,ok l->l<n0)(ai:e1 n0 p m H acc)(bp:acc.length+eu (.mk a ks b c)<=500000000000):
  W (aD P ay 60 [.ptr p 0 0,I J z,.agg (a.cells cc bv V)] H) λ_ H'=>∃m',e1 n0 p m' H' (acc++flat (gV deep (.mk a ks b c)))/\cR p m H m' H':=by
 subst bE;have hlen:=wH aq deep bt;have bV:=hT deep;have bA:b7 ks+dC b+dC c+400<=eu (.mk a ks b c):=by rw[eu];omega
 have bO:=v1.ej;have b2:=v2.ej;have cz:=v3.ej;have aL:=IM a cc bv V bO b2 cz;have pp:=aO.push H (.row U 9 [a.cells cc bv V]);have dr:=ad.bI H (.row U 9 [a.cells cc bv V]);have n:∀e∈ks,∃d,ct d 0 e:=by
  intro e he;cases aq<;>simp only[List.mem_cons,List.not_mem_nil,or_false]at he<;>first|exact he.elim|(subst he;exact⟨_,by assumption⟩)|(rcases he with rfl|rfl<;>exact⟨_,by assumption⟩)
 have bD:=pD ks;have a3:∀e∈ks,cK e<=1000000000:=by
  intro e he;have:cK e<=b7 ks:=by
   clear bD n hlen bA hle bp aq v1
   induction ks with
   |nil=>cases he
   |cons k r bG=>
    rw[b7];rcases List.mem_cons.1 he with rfl|he
    ·omega
    ·have:=bG he;omega
  omega
 have a0:ks.length<=1000000000:=af;have aY:=λ(H':ad) (q:aO H H')=>Ac (v1.aM q) a0 n a3 (ai.lz.aM q) 0 (z:=0) rfl
 have aZ:=λ(H':ad) (q:aO H H')=>Ac (v1.aM q) a0 n a3 (ai.lz.aM q) 1 (z:=1) rfl
 have a8:=LD v1.beq;refine cF (λ_=>MB 0) ?_;simp only[b9.cells]at aL pp dr ⊢;rw[um];simp-implicitDefEqProofs(disch:=try exact aj)only[reduceAdd,reduceLeDiff,reduceIte,aw,aL];refine aP (aY _ pp) ?_;rintro _ be ⟨bj,rfl,au,ag⟩;refine⟨au.1,?_⟩;refine aP (ag _ (.refl _)) ?_;rintro _ bf ⟨rfl,ax⟩;refine⟨ax.1,?_⟩;have aJ:=au.get dr;have an:=ax.get aJ;have aU:=(pp.trans au).trans ax;simp-implicitDefEqProofs(disch:=try exact aj)only[reduceAdd,reduceLeDiff,reduceIte,aw,an];refine aP (aZ _ aU) ?_;rintro _ bg ⟨bk,rfl,az,av⟩;refine⟨az.1,?_⟩;refine aP (av _ (.refl _)) ?_;rintro _ aG ⟨rfl,aE⟩;refine⟨aE.1,?_⟩;have u:=aE.get (az.get an)
 have ae:=(aU.trans az).trans aE;simp-implicitDefEqProofs(disch:=try exact aj)only[reduceAdd,reduceLeDiff,reduceIte,aw,dr,aJ,an,u,a8];have B:=ai.aM ae;have bP:cR p m H m aG:=cR.aM ae;have a9:=v1.aM ae;have a_:=v2.aM ae;have bL:=v3.aM ae;have T:H.next≠p/\H.next≠m/\H.next<aG.next:=by
  have:=ai.lm;have:=ai.iW.lt;have:=ad.aS u;omega
 generalize H.next=y at u T ⊢
 clear aY aZ ag av au ax az aE aU ae dr aJ an pp aL a8 v1 v2 v3;clear be bf bg bj bk;obtain⟨T,bc,bW⟩:=T;have aV:IntKind.i64.wrap ((deep:Int)+1)=((deep+1:Nat):Int):=by rw[wrap_i64 af af];omega
 have a2:gV deep (.mk a ks b c)= .b (pad deep)::(ic a ks (cU (deep+1) b) c.isEmpty (cU (deep+1) c) (pad deep)++[nl]):=by rw[gV]
 have aT:flat (gV deep (.mk a ks b c))=pad deep++(flat (ic a ks (cU (deep+1) b) c.isEmpty (cU (deep+1) c) (pad deep))++[10]):=by rw[a2,vK,db,nR,c5];rfl
 have N:∀{e:aA} {r:List aA},ks=e::r->cK e<=b7 ks:=by intro e r h;rw[h,b7];omega
 have bu:∀{e f:aA} {r:List aA},ks=e::f::r->cK e+cK f<=b7 ks:=by intro e f r h;rw[h,b7,b7];omega
 rw[aT];clear a2 aT;have fin:∀(t:aC) (A:ad) (m7:Nat),e1 n0 p m7 A (acc++t)->cR p m aG m7 A->t=pad deep++(flat (ic a ks (cU (deep+1) b) c.isEmpty (cU (deep+1) c) (pad deep))++[10])->∃m',e1 n0 p m' A (acc++(pad deep++(flat (ic a ks (cU (deep+1) b) c.isEmpty (cU (deep+1) c) (pad deep))++[10])))/\cR p m H m' A:=λt A m7 k w e=>⟨m7,by rw[<-e];exact k,bP.trans w⟩
 have ac:∀x y:aC,acc++(x++y)=acc++x++y:=λx y=>(List.append_assoc _ _ _).symm
 clear n;cases aq with
 | @var d x o z G al F=>
  have a5:=e5 al;have bx:=gU F;have bF:=F.2.1;have bz:=jd o z;simp-implicitDefEqProofs(disch:=try exact aj)only[reduceAdd,reduceLeDiff,reduceIte,aw,u,Int.reduceBEq];refine aP (type20 F.1 F.2.1 af) ?_;rintro _ bh ⟨rfl,K⟩;refine⟨K.1,?_⟩;have ah:=K.get u;simp-implicitDefEqProofs(disch:=try exact aj)only[reduceAdd,reduceLeDiff,reduceIte,aw,ah,Fx];refine aP (gE (B.aM K) rfl [[118,97,114,32],x,[58,32],flat (cj o z),[59]] (by simp) (by simp) af (by simp only[List.flatten_cons,List.flatten_nil,List.length_append,List.length_cons,List.length_nil];omega) rfl rfl rfl) ?_;rintro _ A ⟨v,m7,j,i⟩;refine⟨v,?_⟩
  simp-implicitDefEqProofs(disch:=try exact aj)only[reduceAdd,reduceLeDiff,reduceIte,aw,u,ah];refine ba.2 (fin _ _ _ j ((cR.aM K).trans i) ?_);show _=pad deep++(flat (wd qw::cA::(kb x o z++[bB [59]]))++[10]);rw[hl,eo,vM,c2,c5];simp[qw]
 | @lets d x o z G e al F n=>
  have a5:=e5 al;have bx:=gU F;have bF:=F.2.1;have bz:=jd o z;have O:=ho n;have Q:=N rfl;have E:iZ [e] 0=flat (bd e):=rfl;simp-implicitDefEqProofs(disch:=try exact aj)only[reduceAdd,reduceLeDiff,reduceIte,aw,u,Int.reduceBEq];refine aP (type20 F.1 F.2.1 af) ?_;rintro _ bh ⟨rfl,K⟩;refine⟨K.1,?_⟩;have ah:=K.get u;simp-implicitDefEqProofs(disch:=try exact aj)only[reduceAdd,reduceLeDiff,reduceIte,aw,ah,O6,E];refine aP (gE (B.aM K) rfl [[108,101,116,32],x,[58,32],flat (cj o z),[32,61,32],flat (bd e),[59]] (by simp) (by simp) af (by simp only[List.flatten_cons,List.flatten_nil,List.length_append,List.length_cons,List.length_nil];omega) rfl rfl rfl) ?_
  rintro _ A ⟨v,m7,j,i⟩;refine⟨v,?_⟩;simp-implicitDefEqProofs(disch:=try exact aj)only[reduceAdd,reduceLeDiff,reduceIte,aw,u,ah];refine ba.2 (fin _ _ _ j ((cR.aM K).trans i) ?_);show _=pad deep++(flat (wd qu::cA::(kb x o z++cA::bB [61]::cA::(bd e++[bB [59]])))++[10]);rw[hl,eo,vM,eo,c2,eo,db,c2,c5];simp[qu]
 | @set d x G e al n=>
  have a5:=e5 al;have O:=ho n;have Q:=N rfl;have E:iZ [e] 0=flat (bd e):=rfl;simp-implicitDefEqProofs(disch:=try exact aj)only[reduceAdd,reduceLeDiff,reduceIte,aw,u,Int.reduceBEq,xM,E];refine aP (gE (B) rfl [x,[32,61,32],flat (bd e),[59]] (by simp) (by simp) af (by simp only[List.flatten_cons,List.flatten_nil,List.length_append,List.length_cons,List.length_nil];omega) rfl rfl rfl) ?_;rintro _ A ⟨v,m7,j,i⟩;refine⟨v,?_⟩;refine ba.2 (fin _ _ _ j i ?_);show _=pad deep++(flat (cp x::cA::bB [61]::cA::(bd e++[bB [59]]))++[10]);rw[ja,eo,c2,eo,db,c2,c5];simp
 | @put d G e f bw n bC=>
  have Q:=bu rfl;have O:=ho n;have aT:=ho bC;have E:iZ [e,f] 0=flat (bd e):=rfl;have bn:iZ [e,f] 1=flat (bd f):=rfl;simp-implicitDefEqProofs(disch:=try exact aj)only[reduceAdd,reduceLeDiff,reduceIte,aw,u,Int.reduceBEq,xM,E,bn];refine aP (gE (B) rfl [flat (bd e),[32,61,32],flat (bd f),[59]] (by simp) (by simp) af (by simp only[List.flatten_cons,List.flatten_nil,List.length_append,List.length_cons,List.length_nil];omega) rfl rfl rfl) ?_;rintro _ A ⟨v,m7,j,i⟩;refine⟨v,?_⟩;refine ba.2 (fin _ _ _ j i ?_);show _=pad deep++(flat (bd e++cA::bB [61]::cA::(bd f++[bB [59]]))++[10]);rw[db,eo,c2,eo,db,c2,c5]
  simp
 | @ifs d G e b c n ak a4=>
  have Q:=N rfl;have O:=ho n;have bq:=rp (deep:=deep+1) ak af;have bU:=rp (deep:=deep+1) a4 af;have E:iZ [e] 0=flat (bd e):=rfl;simp-implicitDefEqProofs(disch:=try exact aj)only[reduceAdd,reduceLeDiff,reduceIte,aw,u,Int.reduceBEq,se,E];refine aP (gE (B) rfl [[105,102,32],flat (bd e),[32,123]] (by simp) (by simp) af (by simp only[List.flatten_cons,List.flatten_nil,List.length_append,List.length_cons,List.length_nil];omega) rfl rfl rfl) ?_;rintro _ A ⟨v,m7,j,i⟩;refine⟨v,?_⟩;have ao:=i.get u T bc;have bQ:y≠m7:=by have:=i.1;omega
  have aH:=(a_.a1 (i.a1 B.aI B.hm M).s);have bm:=(bL.a1 (i.a1 B.aI B.hm M).s);simp-implicitDefEqProofs(disch:=try exact aj)only[reduceAdd,reduceLeDiff,reduceIte,aw,ao,aV];refine aP (a7 d (deep+1) ak af af A ok bv _ n0 p m7 _ rfl aH M j (by simp only[List.flatten_cons,List.flatten_nil,List.length_append,List.length_cons,List.length_nil];omega)) ?_;rintro _ bi ⟨m8,ab,L⟩;refine⟨L.next,?_⟩;have aK:=L.get ao T bQ;have bR:y≠m8:=by have:=L.1;have:=i.next;omega
  have aW:=(bm.a1 (L.a1 j.aI j.hm M).s);have aQ:=aW.qZ;by_cases aN:c=[]
  ·subst aN;have aX:¬((0:Int)<((0:Nat):Int)):=af;simp only[List.length_nil]at aQ;simp-implicitDefEqProofs(disch:=try exact aj)only[reduceAdd,reduceLeDiff,reduceIte,aw,aK,aQ,aX,decide_false,oH];refine aP (gE (ab) rfl [[125]] (by simp) (by simp) af (by simp only[List.flatten_cons,List.flatten_nil,List.length_append,List.length_cons,List.length_nil];omega) rfl rfl rfl) ?_;rintro _ aF ⟨am,m10,R,S⟩;refine⟨am,?_⟩;rw[List.append_assoc,List.append_assoc]at R;refine ba.2 (fin _ _ _ R ((i.trans L).trans S) ?_);show _=pad deep++(flat (wd l9::cA::(bd e++(ib (pad deep) (cU (deep+1) b)++[])))++[10]);rw[hl,eo,db,q8,c5]
   simp[l9]
  ·have bs:(0:Int)<(c.length:Int):=by have:=List.length_pos_iff.2 aN;omega
   have br:c.isEmpty=false:=by cases c<;>first|exact absurd rfl aN|rfl
   simp-implicitDefEqProofs(disch:=try exact aj)only[reduceAdd,reduceLeDiff,reduceIte,aw,aK,aQ,bs,decide_true];refine aP (gE (ab) rfl [[125,32,101,108,115,101,32,123]] (by simp) (by simp) af (by simp only[List.flatten_cons,List.flatten_nil,List.length_append,List.length_cons,List.length_nil];omega) rfl rfl rfl) ?_;rintro _ aF ⟨am,m10,R,S⟩;refine⟨am,?_⟩;have bo:=S.get aK T bR;have bl:=(aW.a1 (S.a1 ab.aI ab.hm M).s);simp-implicitDefEqProofs(disch:=try exact aj)only[reduceAdd,reduceLeDiff,reduceIte,aw,bo,aV];refine aP (bK d (deep+1) a4 af af aF ok V _ n0 p m10 _ rfl bl M R (by simp only[List.flatten_cons,List.flatten_nil,List.length_append,List.length_cons,List.length_nil];omega)) ?_
   rintro _ bS ⟨m11,bH,bb⟩;refine⟨bb.next,?_⟩;simp-implicitDefEqProofs(disch:=try exact aj)only[reduceAdd,reduceLeDiff,reduceIte,aw,oH];refine aP (gE (bH) rfl [[125]] (by simp) (by simp) af (by simp only[List.flatten_cons,List.flatten_nil,List.length_append,List.length_cons,List.length_nil];omega) rfl rfl rfl) ?_;rintro _ bT ⟨bJ,m12,a6,bN⟩;refine⟨bJ,?_⟩;rw[List.append_assoc,List.append_assoc,List.append_assoc,List.append_assoc]at a6;refine ba.2 (fin _ _ _ a6 ((((i.trans L).trans S).trans bb).trans bN) ?_);show _=pad deep++(flat (wd l9::cA::(bd e++(ib (pad deep) (cU (deep+1) b)++bif c.isEmpty then[]else cA::wd sr::ib (pad deep) (cU (deep+1) c))))++[10])
   have:=q8 (pad deep) (cU (deep+1) c) [];rw[List.append_nil,c5]at this;rw[br,aR,hl,eo,db,q8,eo,hl,this];simp[l9,sr]
 | @«while» d G e b n ak=>
  have Q:=N rfl;have O:=ho n;have bq:=rp (deep:=deep+1) ak af;have E:iZ [e] 0=flat (bd e):=rfl;simp-implicitDefEqProofs(disch:=try exact aj)only[reduceAdd,reduceLeDiff,reduceIte,aw,u,Int.reduceBEq,se,E];refine aP (gE (B) rfl [[119,104,105,108,101,32],flat (bd e),[32,123]] (by simp) (by simp) af (by simp only[List.flatten_cons,List.flatten_nil,List.length_append,List.length_cons,List.length_nil];omega) rfl rfl rfl) ?_;rintro _ A ⟨v,m7,j,i⟩;refine⟨v,?_⟩;have ao:=i.get u T bc;have aH:=(a_.a1 (i.a1 B.aI B.hm M).s);simp-implicitDefEqProofs(disch:=try exact aj)only[reduceAdd,reduceLeDiff,reduceIte,aw,ao,aV]
  refine aP (a7 d (deep+1) ak af af A ok bv _ n0 p m7 _ rfl aH M j (by simp only[List.flatten_cons,List.flatten_nil,List.length_append,List.length_cons,List.length_nil];omega)) ?_;rintro _ bi ⟨m8,ab,L⟩;refine⟨L.next,?_⟩;simp-implicitDefEqProofs(disch:=try exact aj)only[reduceAdd,reduceLeDiff,reduceIte,aw];refine aP (gE (ab) rfl [[125]] (by simp) (by simp) af (by simp only[List.flatten_cons,List.flatten_nil,List.length_append,List.length_cons,List.length_nil];omega) rfl rfl rfl) ?_;rintro _ aF ⟨am,m10,R,S⟩;refine⟨am,?_⟩;rw[List.append_assoc,List.append_assoc]at R;refine ba.2 (fin _ _ _ R ((i.trans L).trans S) ?_)
  show _=pad deep++(flat (wd qx::cA::(bd e++ib (pad deep) (cU (deep+1) b)))++[10]);have:=q8 (pad deep) (cU (deep+1) b) [];rw[List.append_nil,c5]at this;rw[hl,eo,db,this];simp[qx]
 | @oc d G=>
  have ap:=a9.q0;have aX:((0:Nat):Int)==0:=rfl;simp only[List.length_nil]at ap;simp-implicitDefEqProofs(disch:=try exact aj)only[reduceAdd,reduceLeDiff,reduceIte,aw,u,Int.reduceBEq,ap,Int.natCast_zero];refine aP (gE (B) rfl [[114,101,116,117,114,110,59]] (by simp) (by simp) af (by simp only[List.flatten_cons,List.flatten_nil,List.length_append,List.length_cons,List.length_nil];omega) rfl rfl rfl) ?_;rintro _ A ⟨v,m7,j,i⟩;refine⟨v,?_⟩;refine ba.2 (fin _ _ _ j i ?_);show _=pad deep++(flat (wd nt::[bB [59]])++[10]);rw[hl,c2,c5];simp[nt]
 | @od d G e n=>
  have O:=ho n;have Q:=N rfl;have E:iZ [e] 0=flat (bd e):=rfl;have ap:∀H',b_ P H' .len [41] [cc]=D (I J 1):=λH'=>a9.q0 H'
  simp-implicitDefEqProofs(disch:=try exact aj)only[reduceAdd,reduceLeDiff,reduceIte,aw,u,Int.reduceBEq,ap,se,E];refine aP (gE (B) rfl [[114,101,116,117,114,110,32],flat (bd e),[59]] (by simp) (by simp) af (by simp only[List.flatten_cons,List.flatten_nil,List.length_append,List.length_cons,List.length_nil];omega) rfl rfl rfl) ?_;rintro _ A ⟨v,m7,j,i⟩;refine⟨v,?_⟩;refine ba.2 (fin _ _ _ j i ?_);show _=pad deep++(flat (wd nt::(cA::bd e++[bB [59]]))++[10]);rw[hl,List.cons_append,eo,db,c2,c5];simp[nt]
 | @print d G e n=>
  have O:=ho n;have Q:=N rfl;have E:iZ [e] 0=flat (bd e):=rfl;simp-implicitDefEqProofs(disch:=try exact aj)only[reduceAdd,reduceLeDiff,reduceIte,aw,u,Int.reduceBEq,se,E];refine aP (gE (B) rfl [[112,114,105,110,116,32],flat (bd e),[59]] (by simp) (by simp) af (by simp only[List.flatten_cons,List.flatten_nil,List.length_append,List.length_cons,List.length_nil];omega) rfl rfl rfl) ?_;rintro _ A ⟨v,m7,j,i⟩;refine⟨v,?_⟩;refine ba.2 (fin _ _ _ j i ?_);show _=pad deep++(flat (wd qv::cA::(bd e++[bB [59]]))++[10]);rw[hl,eo,db,c2,c5];simp[qv]
 | @call d G e bw n=>
  have O:=ho n;have Q:=N rfl;have E:iZ [e] 0=flat (bd e):=rfl;simp-implicitDefEqProofs(disch:=try exact aj)only[reduceAdd,reduceLeDiff,reduceIte,aw,u,Int.reduceBEq,O5,E];refine aP (gE (B) rfl [flat (bd e),[59]] (by simp) (by simp) af (by simp only[List.flatten_cons,List.flatten_nil,List.length_append,List.length_cons,List.length_nil];omega) rfl rfl rfl) ?_;rintro _ A ⟨v,m7,j,i⟩;refine⟨v,?_⟩;refine ba.2 (fin _ _ _ j i ?_);show _=pad deep++(flat (bd e++[bB [59]])++[10]);rw[db,c2,c5];simp
section
variable {N:Nat}{H0:ad}{L i n:Nat}{cap:Option Nat}{ro:Bool}{els:List (List aa)}{ok:Nat->Prop}{d deep n0 p m0:Nat}{acc:aC}
def Dg(o:deep+d<=51)(y:∀l,ok l->l<n0)(B:ok L)(ab:n<=1000000000)(aa:n0<=m0):∀(es:List bM) (j k:Nat) (done:aC) (m:Nat) (H:ad),(∀a ks b c,bM.mk a ks b c∈es->ky b/\ky c)->(∀s∈es,ey d s)->H.get L=D (.row ro 9 els)->dJ H ok es (els.drop (i+j))->dC es<=1000000000->acc.length+done.length+dC es<=500000000000->n=j+es.length->es.length<k->e1 n0 p m H (acc++done)->cR p m0 H0 m H->
  W (lR (aD P ay) N k (.ptr p 0 0) (I J deep) (.aB L i n 9 cap) (I J n) (I J j) H) λ_ H'=>∃m',e1 n0 p m' H' (acc++(done++flat (cU deep es)))/\cR p m0 H0 m' H'
 |_,_,0,_,_,_,_,_,_,_,_,_,_,x,_,_=>af
 |[],j,k+1,done,m,H,ax,hw,q,he,F,E,u,x,e,w=>by
  have v:¬((j:Int)<(n:Int)):=by simp at u;omega
  simp-implicitDefEqProofs(disch:=try exact aj)only[lR,p6,reduceAdd,reduceLeDiff,reduceIte,aw,v,decide_false];exact ba.2 ⟨m,by rw[cU,c5,List.append_nil];exact e,w⟩
 | .mk a ks b c::es,j,k+1,done,m,H,ax,hw,q,he,F,E,u,x,e,w=>by
  simp only[List.length_cons]at u x;have v:(j:Int)<(n:Int):=af;have ae:((j:Int)).toNat=j:=af;have T:(0:Int)<=(j:Int):=af;have al:IntKind.i64.wrap ((j:Int)+1)=((j+1:Nat):Int):=by rw[wrap_i64 af af];omega
  obtain⟨cs,a6,ai,ak⟩:=he.cons;obtain⟨cc,bv,S,an,v1,v2,v3⟩:=mb.1 ai;cases an;obtain⟨ag,ah⟩:=ax a ks b c (List.mem_cons_self ..);have G:=hw (.mk a ks b c) (List.mem_cons_self ..);have hlen:=wH G deep o;rw[dC]at F E;have bO:=v1.ej;have b2:=v2.ej;have cz:=v3.ej;have pp:=aO.push H (.row U 9 [a.cells cc bv S]);have A:=Pd ag ah G o af (z:=deep) rfl (v1.aM pp) (v2.aM pp) (v3.aM pp) y (e.aM pp) (by rw[List.length_append];omega);simp only[b9.cells]at a6 pp A;simp-implicitDefEqProofs(disch:=try exact aj)only[lR,p6,reduceAdd,reduceLeDiff,reduceIte,aw,v,decide_true,T,ae,q,a6,bO,b2,cz];refine aP A ?_;rintro _ R ⟨m2,K,O⟩
  refine⟨O.next,?_⟩;simp-implicitDefEqProofs(disch:=try exact aj)only[bh,bx,da,al];have Q:=(cR.aM (p:=p) (m:=m) pp).trans O;have M:=Q.a1 e.aI e.hm y;have g2:=(M L _ B q).2;have V:flat (cU deep (.mk a ks b c::es))=flat (gV deep (.mk a ks b c))++flat (cU deep es):=by rw[cU,db]
  rw[List.append_assoc]at K;rw[V,<-List.append_assoc done];exact Dg o y B ab aa es (j+1) k (done++flat (gV deep (.mk a ks b c))) m2 R (λa ks b c h=>ax a ks b c (List.mem_cons_of_mem _ h)) (λs h=>hw s (List.mem_cons_of_mem _ h)) g2 (by rw[show i+(j+1)=i+j+1 by omega];exact dJ.a1 M.s _ _ ak) af (by rw[List.length_append];omega) af af K (w.trans Q)
end
def wL{es:List bM}(ax:∀a ks b c,bM.mk a ks b c∈es->ky b/\ky c):ky es:=by
 intro d deep hw s o H ok v z n0 p m acc e h u j n;subst e;refine cF (λ_=>Mj (es.length+1)) ?_;have q:=h.qZ;rw[tZ];simp-implicitDefEqProofs(disch:=try exact aj)only[reduceAdd,reduceLeDiff,reduceIte,aw,q];by_cases e:es.length=0
 ·obtain rfl:=List.length_eq_zero_iff.1 e;have k:¬((0:Int)<((0:Nat):Int)):=af;simp only[List.length_nil];simp-implicitDefEqProofs(disch:=try exact aj)only[lR,p6,reduceAdd,reduceLeDiff,reduceIte,aw,k,decide_false];exact ba.2 ⟨m,by rw[cU,c5,List.append_nil];exact j,cR.aM (.refl _)⟩
 ·obtain⟨L,i,cap,ro,els,rfl,l,g1,w⟩:=h.row e;have x:=CT es;exact Dg (N:=es.length+1) s u l af j.hm es 0 (es.length+1) [] m H ax hw g1 (by rw[Nat.add_zero];exact w) o (by simpa using n) af af (by rw[List.append_nil];exact j) (cR.aM (.refl _))
def uY(e:bM):Prop:=∀(a:b9) (ks:List aA) (b c:List bM),e= .mk a ks b c->ky b/\ky c
def xc:∀(e:bM),uY e
 | .mk a ks b c=>by
  have i:∀e∈b,uY e:=λe he=>xc e
  have j:∀e∈c,uY e:=λe he=>xc e
  intro a' d cl c' h;cases h;exact⟨wL λa' d cl c' h=>i _ h _ _ _ _ rfl,wL λa' d cl c' h=>j _ h _ _ _ _ rfl⟩
def IC(es:List bM):ky es:=wL λa ks b c _=>xc (.mk a ks b c) a ks b c rfl
section
set_option maxRecDepth 100000
noncomputable section
def ox(G:az)(N:Nat)(bq:aa)(H:ad):O:=j (aq P .add 9 X bq (Z [32,123])) λa=>D (a,H)
def Nx(G:az)(N:Nat):∀ae H,br P G N (o (o (o (o (o (bD Tryd.f30)))))) (bm Tryd.f30) [] (bm Tryd.f30) ae H=ox G N (ae 6) H:=by
 refine bS (aL _) λae H=> ?_
 delta ox;kernel_rfl
def mU(G:az)(N:Nat)(av l:aa)(H:ad):O:=aJ H (G 59 [l,Z [44,32]] H) λm a=>j (aH P 73 av 0) λc=>j (ak P a 9 c) λd=>j (aq P .add 9 X (Z [102,117,110,99,32]) d) λi=>j (aq P .add 9 X i (Z [40])) λk=>j (aq P .add 9 U k m) λn=>j (aq P .add 9 X n (Z [41])) λe=>bif ((bl (ak P H 9 c) d&&bl (ak P a 9 c) d)&&X)then(j (aH P 73 av 2) λo=>j (ak P a 4 o) λp=>aX (D p) (j (aH P 73 av 3) λq=>j (ak P a 40 q) λs=>aJ a (G 20 [s] a) λu h=>j (aq P .add 9 X (Z [58,32]) u) λv=>j (aq P .add 9 U e v) λw=>ox G N w h) (ox G N e a))else C
def Nw(G:az)(N:Nat):∀ae H,br P G N (o (o (o (bD Tryd.f30)))) (bm Tryd.f30) [] (bm Tryd.f30) ae H=mU G N (ae 1) (ae 3) H:=by
 refine bS ((aQ ah ((aQ ah (Nx G N) (aL _))) (aL _))) λae H=> ?_
 delta mU;generalize ox G N=a;revert a;refine id ?_;intro a;kernel_rfl
def p5(G:az)(N:Nat)(o:aa->aa->aa->aa->aa->ad->O)(av l:aa)(m n d:aa)(H:ad):O:=j (aq P .lss 3 U d n) λq=>aX (D q) (j (cM P 23 m d) λs=>j (ak P H 68 s) λu=>cn H [Z [],Z [],I J 0,I J 0] λh i=>a8 i (aU P i 68 h u) λa=>j (aH P 68 h 1) λw=>j (ak P a 40 w) λx=>aJ a (G 20 [x] a) λy c=>j (aH P 68 h 0) λe=>j (ak P c 9 e) λbC=>j (aq P .add 9 X bC (Z [58,32])) λv=>j (aq P .add 9 U v y) λz=>bZ c (b5 P (c).next 50 1 [(0,z)]) λA k=>aJ k (c1 P k [50,50] l A) λB p=>bif ((bl (ak P a 9 e) bC&&(bl (ak P c 9 e) bC&&X))&&X)then(j (aq P .add 3 X d (I J 1)) λE=>o av B m n E p)else C) (mU G N av l H)
def lQ(G:az)(N:Nat):Nat->aa->aa->aa->aa->aa->ad->O
 |0,_,_,_,_,_,_=>C
 |n+1,av,c,d,e,a,H=>p5 G N (lQ G N n) av c d e a H
def Nv(G:az)(N:Nat)(c:aa->aa->aa->aa->aa->ad->O):∀ae H,br P G N (a7 (a7 (o (a7 (o (o (bD Tryd.f30))))))) (λae H=>c (ae 1) (ae 3) (ae 8) (ae 9) (ae 10) H) [(0,(λae H=>mU G N (ae 1) (ae 3) H))] (bm Tryd.f30) ae H=p5 G N c (ae 1) (ae 3) (ae 8) (ae 9) (ae 10) H:=by
 refine bS (aL _) λae H=> ?_
 delta p5;generalize mU G N=a;revert a;refine id ?_;intro a;kernel_rfl
def tY(G:az)(N:Nat)(ag:aa)(H:ad):O:=bZ H (dO (H).next ag) λav a=>j (aH P 73 av 1) λd=>j (ak P a 23 d) λc=>bh P .len [23] [c] a λe=>lQ G N N av aa.ar c e (I J 0) a
def Mi(N:Nat){ag:aa}{H:ad}{r:aa×ad}(h:tY (aD P ay) N ag H=D r):aD P ay 30 [ag] H=D r:=cV N (S:=λG=>tY G N ag H) Tryd.func30 (λG=>dY ((aQ ah ((aQ ah ((aQ ah (Nw G N) ((aQ ah ((dm ah ((eB (k:=λm ae H=>lQ G N m (ae 1) (ae 3) (ae 8) (ae 9) (ae 10) H) ah (λae H=>ah) (λm=>Nv G N (lQ G N m)))))) (aL _))))) (aL _))) (aL _))) (by delta tY;generalize lQ G N N=a;revert a;refine id ?_;intro a;kernel_rfl)) h
def mO(G:az)(N:Nat)(c:aa)(H:ad):O:=j (b6 c) λd=>j (aH P 81 d 0) λe=>aJ H (G 32 [e] H) λh a=>D (h,a)
def M_(G:az)(N:Nat):∀ae H,br P G N (o (o (o (o (o (bD Tryd.f10)))))) (bm Tryd.f10) [] (bm Tryd.f10) ae H=mO G N (ae 3) H:=by
 refine bS (aL _) λae H=> ?_
 delta mO;kernel_rfl
def p0(G:az)(N:Nat)(q:aa->aa->aa->aa->ad->O)(a o:aa)(p h:aa)(H:ad):O:=j (aq P .lss 3 U h p) λu=>aX (D u) (j (cM P 24 o h) λv=>j (ak P H 73 v) λw=>cn H [Z [],aa.ar,.bool U,Z [],I J 0,aa.ar,I J 0] λe i=>a8 i (aU P i 73 e w) λc=>j (ak P c 73 e) λx=>aJ c (G 30 [x] c) λy k=>bZ k (b5 P (k).next 50 1 [(0,y)]) λz l=>aJ l (G 29 [a,I J 0,z] l) λK d=>j (aH P 73 e 4) λA=>j (ak P d 71 A) λB=>aJ d (G 31 [a,I J 1,B] d) λL m=>bZ m (D (.aB (m).next 0 1 1 (D 1),.row U 1 [[Z [125]]])) λE n=>aJ n (G 29 [a,I J 0,E] n) λM s=>j (aq P .add 3 X h (I J 1)) λF=>q a o p F s) (mO G N a H)
def lJ(G:az)(N:Nat):Nat->aa->aa->aa->aa->ad->O
 |0,_,_,_,_,_=>C
 |n+1,a,c,d,e,H=>p0 G N (lJ G N n) a c d e H
def M4(G:az)(N:Nat)(c:aa->aa->aa->aa->ad->O):∀ae H,br P G N (a7 (a7 (o (a7 (o (o (o (o (bD Tryd.f10))))))))) (λae H=>c (ae 3) (ae 63) (ae 64) (ae 65) H) [(6,(λae H=>mO G N (ae 3) H))] (bm Tryd.f10) ae H=p0 G N c (ae 3) (ae 63) (ae 64) (ae 65) H:=by
 refine bS (aL _) λae H=> ?_
 delta p0;generalize mO G N=a;revert a;refine id ?_;intro a;kernel_rfl
def mN(G:az)(N:Nat)(av c:aa)(H:ad):O:=j (aH P 26 av 2) λd=>j (ak P H 24 d) λa=>bh P .len [24] [a] H λe=>lJ G N N c a e (I J 0) H
def M9(G:az)(N:Nat):∀ae H,br P G N (o (o (o (o (bD Tryd.f10))))) (bm Tryd.f10) [] (bm Tryd.f10) ae H=mN G N (ae 1) (ae 3) H:=by
 refine bS ((aQ ah (M_ G N) ((aQ ah ((dm ah ((eB (k:=λm ae H=>lJ G N m (ae 3) (ae 63) (ae 64) (ae 65) H) ah (λae H=>ah) (λm=>M4 G N (lJ G N m)))))) (aL _))))) λae H=> ?_
 delta mN;generalize lJ G N N=a;revert a;refine id ?_;intro a;kernel_rfl
def p1(G:az)(N:Nat)(p:aa->aa->aa->aa->aa->ad->O)(av d:aa)(n o e:aa)(H:ad):O:=j (aq P .lss 3 U e o) λs=>aX (D s) (j (cM P 23 n e) λu=>j (ak P H 68 u) λv=>cn H [Z [],Z [],I J 0,I J 0] λk l=>a8 l (aU P l 68 k v) λa=>j (aH P 68 k 1) λw=>j (ak P a 40 w) λx=>aJ a (G 20 [x] a) λy c=>j (aH P 68 k 0) λh=>j (ak P c 9 h) λi=>bZ c (b5 P (c).next 50 5 [(0,(Z [103,108,111,98,97,108,32])),(1,i),(2,(Z [58,32])),(3,y),(4,(Z [59]))]) λz m=>aJ m (G 29 [d,I J 0,z] m) λB q=>bif ((bl (ak P a 9 h) i&&(bl (ak P c 9 h) i&&X))&&X)then(j (aq P .add 3 X e (I J 1)) λA=>p av d n o A q)else C) (mN G N av d H)
def lK(G:az)(N:Nat):Nat->aa->aa->aa->aa->aa->ad->O
 |0,_,_,_,_,_,_=>C
 |n+1,av,a,c,d,e,H=>p1 G N (lK G N n) av a c d e H
def M5(G:az)(N:Nat)(c:aa->aa->aa->aa->aa->ad->O):∀ae H,br P G N (a7 (a7 (o (a7 (o (o (o (bD Tryd.f10)))))))) (λae H=>c (ae 1) (ae 3) (ae 47) (ae 48) (ae 49) H) [(4,(λae H=>mN G N (ae 1) (ae 3) H))] (bm Tryd.f10) ae H=p1 G N c (ae 1) (ae 3) (ae 47) (ae 48) (ae 49) H:=by
 refine bS (aL _) λae H=> ?_
 delta p1;generalize mN G N=a;revert a;refine id ?_;intro a;kernel_rfl
def kg(G:az)(N:Nat)(av c:aa)(H:ad):O:=j (aH P 26 av 1) λd=>j (ak P H 23 d) λa=>bh P .len [23] [a] H λe=>lK G N N av c a e (I J 0) H
def M8(G:az)(N:Nat):∀ae H,br P G N (o (o (o (bD Tryd.f10)))) (bm Tryd.f10) [] (bm Tryd.f10) ae H=kg G N (ae 1) (ae 3) H:=by
 refine bS ((aQ ah (M9 G N) ((aQ ah ((dm ah ((eB (k:=λm ae H=>lK G N m (ae 1) (ae 3) (ae 47) (ae 48) (ae 49) H) ah (λae H=>ah) (λm=>M5 G N (lK G N m)))))) (aL _))))) λae H=> ?_
 delta kg;generalize lK G N N=a;revert a;refine id ?_;intro a;kernel_rfl
def lI(G:az)(N:Nat)(a:aa->aa->aa->aa->aa->ad->O)(av e:aa)(c bC d:aa)(H:ad):O:=j (aq P .add 3 X d (I J 1)) λh=>a av e c bC h H
def Na(G:az)(N:Nat)(a:aa->aa->aa->aa->aa->ad->O):∀ae H,br P G N (o (o (o (a7 (a7 (o (a7 (o (o (bD Tryd.f10)))))))))) (λae H=>a (ae 1) (ae 3) (ae 15) (ae 16) (ae 17) H) [(0,(λae H=>kg G N (ae 1) (ae 3) H))] (bm Tryd.f10) ae H=lI G N a (ae 1) (ae 3) (ae 15) (ae 16) (ae 17) H:=by
 refine bS (aL _) λae H=> ?_
 delta lI;kernel_rfl
def mP(G:az)(N:Nat)(d:aa->aa->aa->aa->aa->ad->O)(av c:aa)(h bC i:aa)(H:ad):O:=bZ H (D (.aB (H).next 0 1 1 (D 1),.row U 1 [[Z [125]]])) λj a=>aJ a (G 29 [c,I J 0,j] a) λk e=>lI G N d av c h bC i e
def Nb(G:az)(N:Nat)(a:aa->aa->aa->aa->aa->ad->O):∀ae H,br P G N (o (o (o (a7 (a7 (o (o (a7 (a7 (o (a7 (o (o (bD Tryd.f10)))))))))))))) (λae H=>lI G N a (ae 1) (ae 3) (ae 15) (ae 16) (ae 17) H) [(1,(λae H=>lI G N a (ae 1) (ae 3) (ae 15) (ae 16) (ae 17) H)),(0,(λae H=>kg G N (ae 1) (ae 3) H))] (bm Tryd.f10) ae H=mP G N a (ae 1) (ae 3) (ae 15) (ae 16) (ae 17) H:=by
 refine bS (aL _) λae H=> ?_
 delta mP;generalize lI G N a=c;revert c;refine id ?_;intro c;kernel_rfl
def p3(G:az)(N:Nat)(s:aa->aa->aa->aa->aa->ad->O)(u:aa->aa->aa->aa->aa->aa->aa->aa->ad->O)(av e:aa)(n bC:aa)(o p:aa)(q d:aa)(H:ad):O:=j (aq P .lss 3 U d q) λw=>aX (D w) (j (cM P 23 p d) λx=>j (ak P H 68 x) λy=>cn H [Z [],Z [],I J 0,I J 0] λk l=>a8 l (aU P l 68 k y) λa=>j (aH P 68 k 1) λz=>j (ak P a 40 z) λA=>aJ a (G 20 [A] a) λB c=>j (aH P 68 k 0) λh=>j (ak P c 9 h) λi=>bZ c (b5 P (c).next 50 4 [(0,i),(1,(Z [58,32])),(2,B),(3,(Z [59]))]) λE m=>aJ m (G 29 [e,I J 1,E] m) λK v=>bif ((bl (ak P a 9 h) i&&(bl (ak P c 9 h) i&&X))&&X)then(j (aq P .add 3 X d (I J 1)) λF=>u av e n bC o p q F v)else C) (mP G N s av e n bC o H)
def lL(G:az)(N:Nat)(a:aa->aa->aa->aa->aa->ad->O):Nat->aa->aa->aa->aa->aa->aa->aa->aa->ad->O
 |0,_,_,_,_,_,_,_,_,_=>C
 |n+1,av,j,c,bC,d,e,h,i,H=>p3 G N a (lL G N a n) av j c bC d e h i H
def M7(G:az)(N:Nat)(a:aa->aa->aa->aa->aa->ad->O)(d:aa->aa->aa->aa->aa->aa->aa->aa->ad->O):∀ae H,br P G N (a7 (a7 (o (a7 (o (o (a7 (a7 (o (o (a7 (a7 (o (a7 (o (o (bD Tryd.f10))))))))))))))))) (λae H=>d (ae 1) (ae 3) (ae 15) (ae 16) (ae 17) (ae 27) (ae 28) (ae 29) H) [(2,(λae H=>mP G N a (ae 1) (ae 3) (ae 15) (ae 16) (ae 17) H)),(1,(λae H=>lI G N a (ae 1) (ae 3) (ae 15) (ae 16) (ae 17) H)),(0,(λae H=>kg G N (ae 1) (ae 3) H))] (bm Tryd.f10) ae H=p3 G N a d (ae 1) (ae 3) (ae 15) (ae 16) (ae 17) (ae 27) (ae 28) (ae 29) H:=by
 refine bS (aL _) λae H=> ?_
 delta p3;generalize mP G N a=c;revert c;refine id ?_;intro c;kernel_rfl
def p2(G:az)(N:Nat)(n:aa->aa->aa->aa->aa->ad->O)(av e:aa)(l bC d:aa)(H:ad):O:=j (aq P .lss 3 U d bC) λo=>aX (D o) (j (cM P 22 l d) λp=>j (ak P H 65 p) λq=>cn H [Z [],aa.ar,I J 0] λh i=>a8 i (aU P i 65 h q) λa=>j (aH P 65 h 0) λs=>j (ak P a 9 s) λu=>bZ a (b5 P (a).next 50 3 [(0,(Z [114,101,99,111,114,100,32])),(1,u),(2,(Z [32,123]))]) λv k=>aJ k (G 29 [e,I J 0,v] k) λy c=>j (aH P 65 h 1) λw=>j (ak P c 23 w) λm=>bh P .len [23] [m] c λx=>lL G N n N av e l bC d m x (I J 0) c) (kg G N av e H)
def kT(G:az)(N:Nat):Nat->aa->aa->aa->aa->aa->ad->O
 |0,_,_,_,_,_,_=>C
 |n+1,av,d,a,bC,c,H=>p2 G N (kT G N n) av d a bC c H
def M6(G:az)(N:Nat)(a:aa->aa->aa->aa->aa->ad->O):∀ae H,br P G N (a7 (a7 (o (a7 (o (o (bD Tryd.f10))))))) (λae H=>a (ae 1) (ae 3) (ae 15) (ae 16) (ae 17) H) [(0,(λae H=>kg G N (ae 1) (ae 3) H))] (bm Tryd.f10) ae H=p2 G N a (ae 1) (ae 3) (ae 15) (ae 16) (ae 17) H:=by
 refine bS ((aQ ah ((aQ ah ((aQ ah (Na G N a) ((dm ah ((aQ ah ((aQ ah ((aQ ah (Nb G N a) ((aQ ah ((dm ah ((eB (k:=λm ae H=>lL G N a m (ae 1) (ae 3) (ae 15) (ae 16) (ae 17) (ae 27) (ae 28) (ae 29) H) ah (λae H=>ah) (λm=>M7 G N a (lL G N a m)))))) (aL _))))) (aL _))) (aL _))))))) (aL _))) (aL _))) λae H=> ?_
 delta p2;generalize kg G N=c;generalize lL G N a N=d;revert c d;refine id ?_;intro c d;kernel_rfl
def tN(G:az)(N:Nat)(ag:aa)(H:ad):O:=bZ H (dO (H).next ag) λav c=>bZ c (pg (D 81) (c).next (.agg [aa.nilPtr,aa.ar])) λe a=>j (aH P 26 av 0) λh=>j (ak P a 22 h) λd=>bh P .len [22] [d] a λbC=>kT G N N av e d bC (I J 0) a
def L3(N:Nat){ag:aa}{H:ad}{r:aa×ad}(h:tN (aD P ay) N ag H=D r):aD P ay 10 [ag] H=D r:=cV N (S:=λG=>tN G N ag H) Tryd.func10 (λG=>dY ((aQ ah ((aQ ah ((aQ ah (M8 G N) ((aQ ah ((dm ah ((eB (k:=λm ae H=>kT G N m (ae 1) (ae 3) (ae 15) (ae 16) (ae 17) H) ah (λae H=>ah) (λm=>M6 G N (kT G N m)))))) (aL _))))) (aL _))) (aL _))) (by delta tN;generalize kT G N N=a;revert a;refine id ?_;intro a;kernel_rfl)) h
end
end
section
set_option maxRecDepth 100000
noncomputable section
end
end
section
def jo{α:Type}(F:au->ae α):Prop:=∀s x,F s=D x->x.2.aG=0->s.aG=0/\(0<=s.bU->x.2.bU=s.bU/\x.2.cP=s.cP)
def fy(f:au->au):Prop:=∀s,(f s).aG=0->s.aG=0/\(f s).bU=s.bU/\(f s).cP=s.cP
def jo.bind{α β:Type}{F:au->ae α}{G:α->au->ae β}(h:jo F)(i:∀x,jo (G x)):jo λs=>(F s).bind λp=>G p.1 p.2:=by
 intro s x j e;obtain⟨p,c,d⟩:=IA j;obtain⟨g1,g2⟩:=i p.1 p.2 x d e;obtain⟨f1,f2⟩:=h s p c g1;refine⟨f1,λa=> ?_⟩;obtain⟨an,aE⟩:=f2 a;obtain⟨bn,b8⟩:=g2 (by rw[an];exact a);exact⟨bn.trans an,b8.trans aE⟩
def jo.none{α:Type}{F:au->ae α}(h:∀s,F s=C):jo F:=λs x a=>by rw[h]at a;cases a
def fy.comp{f g:au->au}(h:fy f)(k:fy g):fy λs=>g (f s):=λs ax=>by
 obtain⟨aT,a2,a3⟩:=k _ ax;obtain⟨a,c,b3⟩:=h _ aT;exact⟨a,a2.trans c,a3.trans b3⟩
def jo.pre{α:Type}{F:au->ae α}{f:au->au}(h:fy f)(k:jo F):jo λs=>F (f s):=λs x l i=>by
 obtain⟨aT,a2⟩:=k _ x l i;obtain⟨c,a,b3⟩:=h s aT;refine⟨c,λj=> ?_⟩;obtain⟨d,e⟩:=a2 (by rw[a];exact j);exact⟨d.trans a,e.trans b3⟩
def fy.go:fy aF:=λs h=>⟨h,rfl,rfl⟩
def fy.id:fy λs=>s:=λs h=>⟨h,rfl,rfl⟩
variable {T:List Tok}
def vH{s:au}{e:Int}(he:e≠0)(h:(cQ T e s).aG=0):False:=by
 unfold cQ at h;split at h
 ·exact he h
 ·rename_i ax;exact ax h
def fy.PV(x:aC):fy λs=>(eG T x s).2:=λs h=>by
 have h:(eG T x s).2.aG=0:=h;show s.aG=0/\(eG T x s).2.bU=s.bU/\(eG T x s).2.cP=s.cP;cases a:ck T s 4 x with
 |true=>
  have e:(eG T x s).2=aF s:=by simp[eG,a]
  rw[e]at h ⊢;exact⟨h,rfl,rfl⟩
 |false=>
  have e:(eG T x s).2=cQ T 2 s:=by simp[eG,a]
  rw[e]at h;exact(vH bf h).elim
def fy.kq(x:aC):∀n:Nat,fy (kq T x n)
 |0=>fy.id
 |n+1=>fy.comp (f:=λs=>(eG T x s).2) (g:=YtghmbpmaafnodaaDoor.kq T x n) (fy.PV x) (fy.kq x n)
def Dt:∀(n:Nat) (d:Int) (s:au),(∀c s',hF T n d s= .inl (c,s')->s'.aG=0->s.aG=0/\s'.bU=s.bU/\s'.cP=s.cP)/\∀s',hF T n d s= .inr s'->s'.aG≠0
 |0,d,s=>by
  simp only[hF];cases ck T s 4 [91]with
  |true=>exact⟨λ_ _ h=>(by cases h),λs' h e=>by cases h;exact vH bf e⟩
  |false=>exact⟨λ_ _ h a=>(by cases h;exact⟨a,rfl,rfl⟩),λ_ h=>(by cases h)⟩
 |n+1,d,s=>by
  simp only[hF];cases ck T s 4 [91]with
  |true=>exact Dt n (d+1) (aF s)
  |false=>exact⟨λ_ _ h a=>(by cases h;exact⟨a,rfl,rfl⟩),λ_ h=>(by cases h)⟩
def fy.of:fy λs=>(e6 T s).2:=λs h=>by
 obtain⟨i1,i2⟩:=Dt (T:=T) 3 0 s;have aZ:(e6 T s).2.aG=0:=h;show s.aG=0/\(e6 T s).2.bU=s.bU/\(e6 T s).2.cP=s.cP;unfold e6 at aZ ⊢;cases a:hF T 3 0 s with
 |inr s'=>rw[a]at aZ;exact absurd aZ (i2 s' a)
 |inl p=>
  obtain⟨d,s1⟩:=p;rw[a]at aZ;simp only at aZ ⊢;cases c:((al T s1.at_).kind != 1&&(!ck T s1 3 [105,110,116]&& !ck T s1 3 [98,111,111,108]))with
  |true=>
   simp only[jf,c,aW]at aZ;exact(vH bf aZ).elim
  |false=>
   simp only[jf,c,aR]at aZ ⊢;obtain⟨aT,a2,a3⟩:=fy.comp fy.go (fy.kq [93] d.toNat) s1 aZ;obtain⟨e,i,b3⟩:=i1 d s1 a aT;exact⟨e,a2.trans i,a3.trans b3⟩
def jo.eq{α:Type}{F G:au->ae α}(h:jo F)(e:∀s,G s=F s):jo G:=λs x a=>h s x (by rw[<-e];exact a)
