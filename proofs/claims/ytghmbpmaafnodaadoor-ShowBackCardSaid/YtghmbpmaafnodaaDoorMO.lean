/-
  Texts of one proof, laid together: Ve Vf Vg Vh Vi ShVc ShRc T2 T3.
-/
import Derived.Test.YtghmbpmaafnodaaDoorMN
set_option linter.unusedVariables false
set_option linter.unusedSimpArgs false
set_option linter.defProp false
open Option renaming some→D,none→C
open Bool renaming true→X,false→U
open Go.bn.aa renaming int→I,str→Z
open Go.IntKind renaming i64→J
namespace Go.Proofs.YtghmbpmaafnodaaDoor
open Go.bn
open Nat (reduceAdd reduceLeDiff)
def fs(l:aC):List (List aa):=l.map λc=>[I .u8 c.toNat]
def CS(a b:aC):fs (a++b)=fs a++fs b:=List.map_append
def np(a:aC):(fs a).length=a.length:=List.length_map ..
def lh(H:af)(m:Nat)(acc:aC)(b:aa):Prop:=(acc=[]/\b= .aA)\/(acc≠[]/\b= .aG m 0 acc.length 1 C/\H.get m=D (.ck 5 1 (fs acc)))
def hh(H:af)(p m:Nat)(acc:aC):Prop:=(acc≠[]->p≠m)/\p<H.next/\∃a b,H.get p=D (.ck 81 2 [[a,b]])/\(a= .nilPtr\/a= .ptr p 0 0)/\lh H m acc b
def c5(p m:Nat)(H:af)(m':Nat)(H':af):Prop:=(m'=m\/H.next<=m')/\dp (λl=>l=p\/l=m) H H'
def c5.trans{p m m1 m2:Nat}{H H1 c:af}(h:c5 p m H m1 H1)(k:c5 p m1 H1 m2 c):c5 p m H m2 c:=by
 obtain⟨aT,a⟩:=h;obtain⟨a2,d⟩:=k;have:=a.1;refine⟨ae,Nat.le_trans a.1 d.1,λl e ar=> ?_⟩;simp only[not_or]at ar;rw[d.2 l ae (by simp only[not_or];exact⟨ar.1,ae⟩)];exact a.2 l e (by simp only[not_or];exact ar)
def c5.aR{p m:Nat}{H H':af}(h:aU H H'):c5 p m H m H':=⟨.inl rfl,h.mut _⟩
def c5.next{p m m':Nat}{H H':af}(h:c5 p m H m' H'):H.next<=H'.next:=h.2.1
def c5.get{p m m':Nat}{H H':af}(h:c5 p m H m' H'){l:Nat}{b:cb}(d:H.get l=D b)(a:l≠p)(c:l≠m):H'.get l=D b:=h.2.get d (by simp only[not_or];exact⟨a,c⟩)
def lh.one{H:af}{m:Nat}{acc:aC}{b:aa}(h:lh H m acc b):b.one=true:=by rcases h with⟨_,rfl⟩|⟨_,rfl,_⟩<;>rfl
def hh.aR{H H':af}{p m:Nat}{acc:aC}(h:hh H p m acc)(q:aU H H'):hh H' p m acc:=by
 obtain⟨e,i,a,b,j,k,c⟩:=h;refine⟨e,Nat.lt_of_lt_of_le i q.1,a,b,q.get j,k,?_⟩;rcases c with c|⟨d,aq,aH⟩
 ·exact .inl c
 ·exact .inr ⟨d,aq,q.get aH⟩
def sZ:P.underlying 77=D (.slice 5):=ah
def u2:P.underlying 9=D .string:=ah
def tq:je P 5=D 1:=ah
def tn:fE P 5=D (I .u8 0):=ah
def Md{H:af}{m:Nat}{acc s:aC}{b:aa}(h:lh H m acc b)(o:acc.length+s.length<=10000000000000):
  ∃j H' m',df P H [77,9] b (Z s)=D (j,H')/\lh H' m' (acc++s) j/\((m'=m/\s=[])\/H.next<=m')/\H.next<=H'.next/\∀l,l<H.next->(l≠m\/acc=[])->H'.get l=H.get l:=by
 have d:jG P H 9 1 (Z s)=D (fs s):=by simp[jG,u2,fs]
 rcases h with⟨rfl,rfl⟩|⟨e,rfl,c⟩
 ·by_cases ar:s=[]
  ·subst ar;refine⟨.aA,H,m,?_,.inl ⟨rfl,rfl⟩,.inl ⟨rfl,rfl⟩,bo _,λ_ _ _=>rfl⟩;simp[df,jj,sZ,u2,ra,tq,tn,d,aa.cells,fs]
  ·have p:¬s.length=0:=by simpa using ar
   simp only[List.length_nil,Nat.zero_add]at o;refine⟨.aG H.next 0 s.length 1 C,H.push (.ck 5 1 (fs s)),H.next,?_,.inr ⟨by simpa using ar,rfl,af.bY _ _⟩,.inr (bo _),by simp,λl i _=>af.dS ae⟩;simp[df,jj,sZ,u2,ra,tq,tn,d,aa.cells,np,ar,kR,eg];omega
 ·by_cases ar:s=[]
  ·subst ar;refine⟨.aG m 0 acc.length 1 C,H,m,?_,.inr (by rw[List.append_nil];exact⟨e,rfl,c⟩),.inl ⟨rfl,rfl⟩,bo _,λ_ _ _=>rfl⟩;simp[df,jj,sZ,u2,ra,tq,tn,d,aa.cells,fs]
  ·have hm:=af.a6 c;have n:fr H m 0 acc.length 1=D (fs acc):=by
    unfold fr;rw[c];simp[np];rw[List.take_of_length_le (by rw[np];omega)]
   refine⟨.aG H.next 0 (acc.length+s.length) 1 C,(H.set m .dead).push (.ck 5 1 (fs acc++fs s)),H.next,?_,.inr ⟨by simp[ar],by rw[List.length_append],by rw[CS];simpa only[af.dK]using af.bY (H.set m .dead) (.ck 5 1 (fs acc++fs s))⟩,.inr (bo _),by simp,λl i a=>by
    have a:l≠m:=by rcases a with a|a<;>first|exact a|exact absurd a e
    rw[af.dS (by simp only[af.dK];omega),af.get_set_other ae]⟩
   have i:¬s.length=0:=by simpa using ar
   have a:acc.length+s.length<=140737488355328:=ae;have k:acc.length+s.length<=9223372036854775807:=ae;simp[df,jj,sZ,u2,ra,tq,tn,d,aa.cells,np,a,k,n,c,ar]
def Me{H:af}{m:Nat}{acc:aC}{b:aa}{c:UInt8}{k:Nat}(h:lh H m acc b)(i:acc≠[])(u:acc.length<=10000000000000)(p:H.get k=D (.row U 1 [[I .u8 c.toNat]])):
  ∃e H' m',df P H [77,77] b (.aG k 0 1 1 (D 1))=D (e,H')/\lh H' m' (acc++[c]) e/\H.next<=m'/\H.next<=H'.next/\∀l,l<H.next->l≠m->H'.get l=H.get l:=by
 have q:jG P H 77 1 (.aG k 0 1 1 (D 1))=D (fs [c]):=by simp[jG,sZ,fr,p,fs]
 rcases h with⟨rfl,_⟩|⟨_,rfl,a⟩
 ·exact absurd rfl i
 ·have hm:=af.a6 a;have o:fr H m 0 acc.length 1=D (fs acc):=by
   unfold fr;rw[a];simp[np];rw[List.take_of_length_le (by rw[np];omega)]
  refine⟨.aG H.next 0 (acc.length+1) 1 C,(H.set m .dead).push (.ck 5 1 (fs acc++fs [c])),H.next,?_,.inr ⟨by simp,by rw[List.length_append];rfl,by rw[CS];simpa only[af.dK]using af.bY (H.set m .dead) (.ck 5 1 (fs acc++fs [c]))⟩,bo _,by simp,λl s d=>by rw[af.dS (by simp only[af.dK];omega),af.get_set_other ae]⟩;have d:acc.length+1<=140737488355328:=ae;have j:acc.length+1<=9223372036854775807:=ae;have n:(fs [c]).length=1:=rfl;simp[df,jj,sZ,ra,tq,tn,q,aa.cells,d,j,n,o,a]
open Classical in
def CX{H:af}{p m:Nat}{acc:aC}(h:hh H p m acc):∃b H1,aI P aB 80 [.ptr p 0 0] H=D (.tuple [],H1)/\H1.next=H.next/\H1.get p=D (.ck 81 2 [[.ptr p 0 0,b]])/\lh H1 m acc b/\∀l,l≠p->H1.get l=H.get l:=by
 obtain⟨j,k,a,b,d,n,c⟩:=h;rcases n with rfl|rfl
 ·refine⟨b,H.set p (.ck 81 2 [[.ptr p 0 0,b]]),oI ?_,by simp,af.get_set_same k,?_,λl o=>af.get_set_other (λe=>o e.symm)⟩
  ·show(match H.get p with
    |some (.ck 81 2 [[.nilPtr,b]])=>if b.one=X then D (aa.tuple [],H.set p (.ck 81 2 [[.ptr p 0 0,b]]))else C
    |some (.ck 81 2 [[.ptr l' 0 0,_]])=>if l'=p then D (aa.tuple [],H)else C
    |_=>C)=_
   rw[d];simp only
   rw[if_pos c.one]
  ·rcases c with c|⟨i,aq,aH⟩
   ·exact .inl c
   ·exact .inr ⟨i,aq,by rw[af.get_set_other (j i)];exact aH⟩
 ·refine⟨b,H,oI ?_,rfl,d,c,λ_ _=>rfl⟩;show(match H.get p with
   |some (.ck 81 2 [[.nilPtr,b]])=>if b.one=X then D (aa.tuple [],H.set p (.ck 81 2 [[.ptr p 0 0,b]]))else C
   |some (.ck 81 2 [[.ptr l' 0 0,_]])=>if l'=p then D (aa.tuple [],H)else C
   |_=>C)=_
  rw[d];simp only
  rw[if_pos trivial]
def KU{H:af}{p m:Nat}{acc s:aC}(h:hh H p m acc)(o:acc.length+s.length<=10000000000000):W (aI P aB 57 [.ptr p 0 0,Z s] H) λ_ H'=>∃m',hh H' p m' (acc++s)/\c5 p m H m' H':=by
 have k:=h.1;have z:=h.2.1;obtain⟨b,H1,aq,B,g1,w,x⟩:=CX h;obtain⟨E,a,m',aH,i,hm,n2,u⟩:=Md w o;have A:=i.one;have c:a.get p=D (.ck 81 2 [[.ptr p 0 0,b]]):=by rw[u p ae ((Decidable.em (acc=[])).elim .inr λh=> .inl (k h))];exact g1
 have v:=af.a6 c;have j:H.next<=H1.next:=ae
 refine cO (λ_=>RC 0) ?_;rw[xa];have fin:∀ct,lh a m' (acc++s) ct->∃m',hh (a.set p (.ck 81 2 [[.ptr p 0 0,ct]])) p m' (acc++s)/\c5 p m H m' (a.set p (.ck 81 2 [[.ptr p 0 0,ct]])):=by
  intro ct d;have q:acc++s≠[]->p≠m':=by
   intro h;rcases hm with⟨rfl,rfl⟩|hm
   ·rw[List.append_nil]at h;exact k h
   ·omega
  refine⟨m',⟨q,by simpa using v,.ptr p 0 0,ct,af.get_set_same v,.inr rfl,?_⟩,ae,by simp only[af.dK];omega,λl o ar=> ?_⟩
  ·rcases d with d|⟨hU,bb,y⟩
   ·exact .inl d
   ·exact .inr ⟨hU,bb,by rw[af.get_set_other (q hU)];exact y⟩
  ·simp only[not_or]at ar;rw[af.get_set_other (λe=>ar.1 e.symm),u l ae (.inl ar.2),x l ar.1]
 have n:=i;rcases i with⟨_,rfl⟩|⟨_,rfl,_⟩
 ·simp-implicitDefEqProofs(disch:=try exact ak)only[reduceAdd,reduceLeDiff,reduceIte,az,aq,fJ,j,g1,aH,n2,c];exact a_.2 (fin _ n)
 ·simp-implicitDefEqProofs(disch:=try exact ak)only[reduceAdd,reduceLeDiff,reduceIte,az,aq,fJ,j,g1,aH,n2,c];exact a_.2 (fin _ n)
def Uy(l:Nat)(c:Int):cl P l 77 1 [(0,I .u8 c)]=D (.aG l 0 1 1 (D 1),.row U 1 [[I .u8 c]]):=ah
def Vk{H:af}{p m:Nat}{acc:aC}{c:UInt8}(h:hh H p m acc)(u:acc≠[])(w:acc.length<=10000000000000):W (aI P aB 58 [.ptr p 0 0,I .u8 c.toNat] H) λ_ H'=>∃m',hh H' p m' (acc++[c])/\c5 p m H m' H':=by
 have A:=h.1 u;have F:=h.2.1;obtain⟨b,H1,aq,K,g1,i,E⟩:=CX h;have z:=aU.push H1 (.row U 1 [[I .u8 c.toNat]]);have B:lh (H1.push (.row U 1 [[I .u8 c.toNat]])) m acc b:=by
  rcases i with i|⟨hU,bb,o⟩
  ·exact .inl i
  ·exact .inr ⟨hU,bb,z.get o⟩
 obtain⟨L,a,m',aH,k,hm,n2,n⟩:=Me (c:=c) B u w (af.bY H1 _);simp only[af.ch]at hm n2 n;have G:=k.one;have d:a.get p=D (.ck 81 2 [[.ptr p 0 0,b]]):=by rw[n p ae A];exact z.get g1
 have y:=af.a6 d;have q:H.next<=H1.next:=ae
 have s:(H1.push (.row U 1 [[I .u8 c.toNat]])).next<=a.next:=by simp only[af.ch];omega
 have x:=Uy H1.next c.toNat
 refine cO (λ_=>RD 0) ?_;rw[xb];have fin:∀ct,lh a m' (acc++[c]) ct->∃m',hh (a.set p (.ck 81 2 [[.ptr p 0 0,ct]])) p m' (acc++[c])/\c5 p m H m' (a.set p (.ck 81 2 [[.ptr p 0 0,ct]])):=by
  intro ct j;refine⟨m',⟨λ_=>ae,by simpa using y,.ptr p 0 0,ct,af.get_set_same y,.inr rfl,?_⟩,ae,by simp only[af.dK];omega,λl w ar=> ?_⟩
  ·rcases j with j|⟨hU,bb,o⟩
   ·exact .inl j
   ·exact .inr ⟨hU,bb,by rw[af.get_set_other ae];exact o⟩
  ·simp only[not_or]at ar;rw[af.get_set_other (λe=>ar.1 e.symm),n l ae ar.2,af.dS ae,E l ar.1]
 have v:=k;rcases k with⟨_,rfl⟩|⟨_,rfl,_⟩
 ·simp-implicitDefEqProofs(disch:=try exact ak)only[reduceAdd,reduceLeDiff,reduceIte,az,aq,fJ,q,g1,x,aH,s,d];exact a_.2 (fin _ v)
 ·simp-implicitDefEqProofs(disch:=try exact ak)only[reduceAdd,reduceLeDiff,reduceIte,az,aq,fJ,q,g1,x,aH,s,d];exact a_.2 (fin _ v)
def Hz:∀n:Nat,(List.replicate n ([32,32]:aC)).flatten=pad n
 |0=>rfl
 |n+1=>by
  rw[List.replicate_succ,List.flatten_cons,Hz n];unfold pad;rw[show 2*(n+1)=2*n+1+1 by omega,List.replicate_succ,List.replicate_succ];rfl
def hh.lt{H:af}{p m:Nat}{acc:aC}(h:hh H p m acc):p<H.next:=h.2.1
section
variable {N:Nat}{H:af}{p m k:Nat}{acc:aC}{parts:List aC}{cap:Option Nat}{ro:Bool}
def Gt(u:H.get k=D (.row ro 1 (parts.map λs=>[Z s])))(A:k≠p)(z:k≠m)(x:acc++parts.flatten≠[])(w:parts.length<=1000)(v:acc.length+parts.flatten.length<=10000000000000):∀(rest:List aC) (j n:Nat) (done:List aC) (m1:Nat) (H1:af),parts=done++rest->done.length=j->rest.length<n->hh H1 p m1 (acc++done.flatten)->c5 p m H m1 H1->
  W (pf (aI P aB) N n (.ptr p 0 0) (.aG k 0 parts.length 1 cap) (I J parts.length) (I J j) H1) λ_ H'=>∃m',hh H' p m' (acc++(parts.flatten++[10]))/\c5 p m H m' H'
 |_,_,0,_,_,_,_,_,w,_,_=>ae
 |[],j,n+1,done,m1,H1,aF,o,y,h,hw=>by
  rw[List.append_nil]at aF;subst aF;have i:¬((j:Int)<(parts.length:Int)):=ae;have l:=Vk (c:=10) h x (by rw[List.length_append];omega);have B:(((10:UInt8).toNat:Nat):Int)=10:=rfl;rw[B]at l;simp-implicitDefEqProofs(disch:=try exact ak)only[pf,uD,sz,reduceAdd,reduceLeDiff,reduceIte,az,i,decide_false];refine aW l ?_;rintro _ d ⟨m2,e,a⟩;refine⟨a.next,a_.2 ⟨m2,?_,hw.trans a⟩⟩;rw[<-List.append_assoc];exact e
 |s::rest,j,n+1,done,m1,H1,aF,o,y,h,hw=>by
  simp only[List.length_cons]at y;have Q:parts.length=done.length+(rest.length+1):=by rw[aF,List.length_append,List.length_cons]
  have i:(j:Int)<(parts.length:Int):=ae;have F:(0:Int)<=(j:Int):=ae;have L:((j:Int)).toNat=j:=ae;have O:IntKind.i64.wrap ((j:Int)+1)=((j+1:Nat):Int):=by rw[wrap_i64 ae ae];omega
  have E:=hw.get u A z;have bb:(parts.map λs=>[aa.str s])[0+j]? =D [Z s]:=by
   rw[Nat.zero_add,List.getElem?_map,aF,List.getElem?_append_right ae,show j-done.length=0 by omega];rfl
  have M:(parts.map λs=>[aa.str s])[j]? =D [Z s]:=by rw[Nat.zero_add]at bb;exact bb
  have q:parts.flatten=done.flatten++(s++rest.flatten):=by rw[aF];simp
  rw[q]at v;simp only[List.length_append]at v;have G:=KU (s:=s) h (by rw[List.length_append];omega);simp-implicitDefEqProofs(disch:=try exact ak)only[pf,uD,reduceAdd,reduceLeDiff,reduceIte,az,i,decide_true,F,L,E,bb,M];refine aW G ?_;rintro _ d ⟨m2,e,a⟩;refine⟨a.next,?_⟩;simp-implicitDefEqProofs(disch:=try exact ak)only[bg,bG,c3,O];have K:hh d p m2 (acc++(done++[s]).flatten):=by
   rw[List.flatten_append,<-List.append_assoc];simpa using e
  exact Gt u A z x w (by rw[q];simp only[List.length_append];omega) rest (j+1) n (done++[s]) m2 d (by rw[aF,List.append_assoc];rfl) (by rw[List.length_append,o];rfl) ae K (hw.trans a)
def Pc{deep:Nat}{z:Int}(u:z=deep)(j:hh H p m acc)(c:H.get k=D (.row ro 1 (parts.map λs=>[Z s])))(d:k≠p)(w:k≠m)(o:parts.flatten≠[])(l:parts.length<=1000)(A:deep<=1000)(B:acc.length+parts.flatten.length<=1000000000000){n:Nat}(q:n=parts.length):
  W (aI P aB 29 [.ptr p 0 0,I J z,.aG k 0 n 1 cap] H) λ_ H'=>∃m',hh H' p m' (acc++(pad deep++(parts.flatten++[10])))/\c5 p m H m' H':=by
 subst u;subst q;refine cO (λ_=>Ri (parts.length+1)) ?_;have aq:aI P aB 54 [Z [32,32],I J deep] H=D (Z (pad deep),H):=by
  rw[<-Hz];exact Af (by simp only[List.length_cons,List.length_nil];omega) ae
 have E:=jl deep;have i:=KU (s:=pad deep) j ae;rw[wX];simp-implicitDefEqProofs(disch:=try exact ak)only[reduceAdd,reduceLeDiff,reduceIte,az,aq,fJ,bo];refine aW i ?_;rintro _ e ⟨m2,h,a⟩;refine⟨a.next,?_⟩;simp-implicitDefEqProofs(disch:=try exact ak)only[reduceAdd,reduceLeDiff,reduceIte,az];have F:=af.a6 c;have x:k≠m2:=by have:=a.1;omega
 refine(Gt (N:=parts.length+1) (acc:=acc++pad deep) (a.get c d w) d x (by simp[o]) l (by rw[List.length_append];omega) parts 0 (parts.length+1) [] m2 e rfl rfl ae (by simpa using h) (c5.aR (.refl _))).mono ?_;rintro v H' ⟨m',b3,y⟩;exact⟨m',by rw[List.append_assoc]at b3;exact b3,a.trans y⟩
end
def pK:bU:={kind:=0,pos:=0}
def Vu{H:af}:W (aI P aB 16 [.agg (bU.cells pK .aA)] H) λr H'=>r= Z []/\aU H H':=by
 have d:∀l,dR l (.agg (bU.cells pK .aA))=D (.ptr l 0 0,.row U 11 [bU.cells pK .aA]):=λl=>hn l _ rfl
 have pp:=aU.push H (.row U 11 [bU.cells pK .aA]);have dI:=af.bY H (.row U 11 [bU.cells pK .aA]);have e:=FK (H:=H.push (.row U 11 [bU.cells pK .aA])) (ok:=λ_=>True) (ks:=[]) (kv:= .aA) (.inl ⟨rfl,rfl⟩) (by simp);refine cO (λ_=>II 0) ?_;simp only[bU.cells,pK]at d pp dI e ⊢;rw[uC];simp-implicitDefEqProofs(disch:=try exact ak)only[reduceAdd,reduceLeDiff,reduceIte,az,d];refine aW e ?_;rintro _ k ⟨b,i,rfl,bO,-,h⟩;refine⟨h.1,?_⟩;have a:=h.bT (.row U 11 [b.cells i]);have c:=a.get dI;simp only[bU.cells]at a c;have s0:∀H,aI P aB 46 [I J 0] H=D (Z [],H):=λH=>Ap 0 rfl
 have j:au P .neq 9 X (Z []) (Z [])=D (.bool U):=rfl;simp-implicitDefEqProofs(disch:=try exact ak)only[reduceAdd,reduceLeDiff,reduceIte,az,bO,c,Int.reduceBEq,nL,pd,s0,fJ,bo,j];exact a_.2 ⟨rfl,pp.trans a⟩
def kt(ks:List aE)(j:Nat):aC:=match ks[j]? with
 |some e=>flat (aY e)
 |none=>[]
def Df{H:af}{ok:Nat->Prop}{ks:List aE}{kv:aa}(h:cz H ok ks kv)(F:ks.length<=1000000000)(hw:∀e∈ks,∃d,cA d 0 e)(u:∀e∈ks,c9 e<=1000000000)(x:gl.jA H)(j:Nat){z:Int}(B:z=j):
  W (aI P aB 41 [kv,I J z] H) λv H1=>∃cs,v= .agg cs/\aU H H1/\∀c,aU H1 c->W (aI P aB 16 [.agg cs] c) λr q=>r= Z (kt ks j)/\aU c q:=by
 subst B;by_cases k:j<ks.length
 ·obtain⟨e,he⟩:∃e,ks[j]? =D e:=⟨ks[j],List.getElem?_eq_getElem k⟩;obtain⟨a,es⟩:=e;obtain⟨l,i,cap,ro,els,E,rfl,g1,bb,m⟩:=h.kW (n:=ks.length) rfl he;refine(vJ rfl k m.eb g1 bb).mono ?_;rintro v H1 ⟨rfl,p⟩;have hm:=List.mem_of_getElem? he;obtain⟨d,y⟩:=hw _ hm;refine⟨_,rfl,p,λc o=> ?_⟩;have:=bR _ d 0 y (u _ hm) a es rfl c ok E (m.aR (p.trans o)) (x.aR (p.trans o));unfold kt;rw[he];exact this
 ·have A:kt ks j=[]:=by unfold kt;rw[List.getElem?_eq_none ae]
  rw[A];refine cO (λ_=>Ao 0) ?_;have w:=λH'=>h.tw H'
  have s:(ks.length:Int)<=(j:Int):=ae;unfold sE;simp-implicitDefEqProofs(disch:=try exact ak)only[reduceAdd,reduceLeDiff,reduceIte,az,w,s,decide_true];exact a_.2 ⟨bU.cells pK .aA,rfl,aU.push _ _,λc _=>Vu⟩
def Jd(l:Nat)(a b c d e:aC):cl P l 50 5 [(0,Z a),(1,Z b),(2,Z c),(3,Z d),(4,Z e)]=D (.aG l 0 5 1 (D 5),.row U 1 [[Z a],[Z b],[Z c],[Z d],[Z e]]):=ah
def Ur(l:Nat)(a b c d e f g:aC):cl P l 50 7 [(0,Z a),(1,Z b),(2,Z c),(3,Z d),(4,Z e),(5,Z f),(6,Z g)]=D (.aG l 0 7 1 (D 7),.row U 1 [[Z a],[Z b],[Z c],[Z d],[Z e],[Z f],[Z g]]):=ah
def AJ(l:Nat)(a b c d:aC):cl P l 50 4 [(0,Z a),(1,Z b),(2,Z c),(3,Z d)]=D (.aG l 0 4 1 (D 4),.row U 1 [[Z a],[Z b],[Z c],[Z d]]):=ah
def uQ(l:Nat)(a b c:aC):cl P l 50 3 [(0,Z a),(1,Z b),(2,Z c)]=D (.aG l 0 3 1 (D 3),.row U 1 [[Z a],[Z b],[Z c]]):=ah
def Uq(l:Nat)(a b:aC):cl P l 50 2 [(0,Z a),(1,Z b)]=D (.aG l 0 2 1 (D 2),.row U 1 [[Z a],[Z b]]):=ah
def Pd{H:af}{p m:Nat}{acc:aC}{deep:Nat}{z:Int}(w:z=deep)(e:hh H p m acc)(hm:m<H.next)(parts:List aC)(q:parts.flatten≠[])(o:parts.length<=1000)(k:deep<=1000)(l:acc.length+parts.flatten.length<=1000000000000){n:Nat}{cap:Option Nat}(u:n=parts.length){ad:List (List aa)}(j:ad=parts.map λs=>[Z s]):
  W (aI P aB 29 [.ptr p 0 0,I J z,.aG H.next 0 n 1 cap] (H.push (.row U 1 ad))) λ_ H'=>∃m',hh H' p m' (acc++(pad deep++(parts.flatten++[10])))/\c5 p m H m' H'/\m'<H'.next/\H.next+1<=H'.next:=by
 subst j;have h:=aU.push H (.row U 1 (parts.map λs=>[Z s]));have:=e.lt;refine(Pc w (e.aR h) (af.bY H _) ae ae q o k l u).mono ?_;rintro v H' ⟨m',d,i⟩;refine⟨m',d,(c5.aR h).trans i,?_,by have:=i.next;simpa only[af.ch]using this⟩;obtain⟨_,_,a,b,_,_,c⟩:=d;rcases c with⟨c,_⟩|⟨_,_,c⟩
 ·simp at c
 ·exact af.a6 c
structure fL(n0 p m:Nat)(H:af)(acc:aC):Prop where
 pos:0<n0
 aF:n0<=p
 hm:n0<=m
 lm:m<H.next
 km:hh H p m acc
 kA:gl.jA H
def c5.kA{n0 p m m':Nat}{H H':af}(w:c5 p m H m' H')(a:0<n0)(aF:n0<=p)(hm:n0<=m)(g:gl.jA H):gl.jA H':=⟨w.get g.xn ae ae⟩
def c5.a1{n0 p m m':Nat}{H H':af}{ok:Nat->Prop}(w:c5 p m H m' H')(aF:n0<=p)(hm:n0<=m)(c:∀l,ok l->l<n0):cK H ok H' ok:=cK.mut w.2 λl h a=>by
 have:=c l h;rcases a with a|a<;>omega
def fL.aR{n0 p m:Nat}{H H':af}{acc:aC}(h:fL n0 p m H acc)(q:aU H H'):fL n0 p m H' acc:=⟨h.pos,h.aF,h.hm,Nat.lt_of_lt_of_le h.lm q.1,h.km.aR q,h.kA.aR q⟩
section
variable {n0 p m:Nat}{H:af}{acc:aC}
def hR(h:fL n0 p m H acc){deep:Nat}{z:Int}(q:z=deep)(parts:List aC)(k:parts.flatten≠[])(j:parts.length<=1000)(e:deep<=1000)(i:acc.length+parts.flatten.length<=1000000000000){n:Nat}{cap:Option Nat}(l:n=parts.length){ad:List (List aa)}(d:ad=parts.map λs=>[Z s]){t:aC}(o:t=pad deep++(parts.flatten++[10])):
  W (aI P aB 29 [.ptr p 0 0,I J z,.aG H.next 0 n 1 cap] (H.push (.row U 1 ad))) λ_ H'=>(H.push (.row U 1 ad)).next<=H'.next/\∃m',fL n0 p m' H' (acc++t)/\c5 p m H m' H':=by
 subst o;refine(Pd q h.km h.lm parts k j e i l d).mono ?_;rintro v H' ⟨m',c,a,u,n2⟩;have hm:=h.hm;have:=a.1;have:=h.lm;exact⟨by simpa only[af.ch]using n2,m',⟨h.pos,h.aF,ae,u,c,a.kA h.pos h.aF h.hm h.kA⟩,a⟩
end
def l5(b:List bf):Prop:=∀(d deep:Nat),(∀s∈b,ez d s)->deep+d<=51->ec b<=1000000000->∀(H:af) (ok:Nat->Prop) (v:aa) (z:Int) (n0 p m:Nat) (acc:aC),z=deep->dr H ok b v->(∀l,ok l->l<n0)->fL n0 p m H acc->acc.length+ec b<=500000000000->W (aI P aB 31 [.ptr p 0 0,I J z,v] H) λ_ H'=>∃m',fL n0 p m' H' (acc++flat (bH deep b))/\c5 p m H m' H'
def MQ(a:b0)(cg bv c:aa)(d:cg.one=X)(e:bv.one=X)(h:c.one=X)(l:Nat):dR l (.agg (a.cells cg bv c))=D (.ptr l 0 0,.row U 9 [a.cells cg bv c]):=
 hn l _ (by simp only[b0.cells,List.all_cons,List.all_nil,hs,hS,d,e,h,Bool.and_self])
def UD{a:b0}{ks:List aE}{b c:List bf}(a8:l5 b)(bL:l5 c){d deep:Nat}(aq:ez d (.mk a ks b c))(bu:deep+d<=51)(hle:e9 (.mk a ks b c)<=1000000000){H:af}{ok:Nat->Prop}{cg bv V:aa}{n0 p m:Nat}{acc:aC}{z:Int}(bF:z=deep)(v1:cz H ok ks cg)(v2:dr H ok b bv)(v3:dr H ok c V)(M:∀l,ok l->l<n0)(ai:fL n0 p m H acc)(bq:acc.length+e9 (.mk a ks b c)<=500000000000):
  W (aI P aB 60 [.ptr p 0 0,I J z,.agg (a.cells cg bv V)] H) λ_ H'=>∃m',fL n0 p m' H' (acc++flat (dL deep (.mk a ks b c)))/\c5 p m H m' H':=by
 subst bF;have hlen:=zi aq deep bu;have bV:=jl deep;have bC:cr ks+ec b+ec c+400<=e9 (.mk a ks b c):=by rw[e9];omega
 have bO:=v1.eb;have b2:=v2.eb;have cw:=v3.eb;have aL:=MQ a cg bv V bO b2 cw;have pp:=aU.push H (.row U 9 [a.cells cg bv V]);have dI:=af.bY H (.row U 9 [a.cells cg bv V]);have n:∀e∈ks,∃d,cA d 0 e:=by
  intro e he;cases aq<;>simp only[List.mem_cons,List.not_mem_nil,or_false]at he<;>first|exact he.elim|(subst he;exact⟨_,by assumption⟩)|(rcases he with rfl|rfl<;>exact⟨_,by assumption⟩)
 have bE:=tR ks;have a3:∀e∈ks,c9 e<=1000000000:=by
  intro e he;have:c9 e<=cr ks:=by
   clear bE n hlen bC hle bq aq v1
   induction ks with
   |nil=>cases he
   |cons k r bI=>
    rw[cr];rcases List.mem_cons.1 he with rfl|he
    ·omega
    ·have:=bI he;omega
  omega
 have a0:ks.length<=1000000000:=ae;have aX:=λ(H':af) (q:aU H H')=>Df (v1.aR q) a0 n a3 (ai.kA.aR q) 0 (z:=0) rfl
 have aZ:=λ(H':af) (q:aU H H')=>Df (v1.aR q) a0 n a3 (ai.kA.aR q) 1 (z:=1) rfl
 have a9:=Qw v1.beq;refine cO (λ_=>RE 0) ?_;simp only[b0.cells]at aL pp dI ⊢;rw[xc];simp-implicitDefEqProofs(disch:=try exact ak)only[reduceAdd,reduceLeDiff,reduceIte,az,aL];refine aW (aX _ pp) ?_;rintro _ be ⟨bk,rfl,ar,ag⟩;refine⟨ar.1,?_⟩;refine aW (ag _ (.refl _)) ?_;rintro _ bg ⟨rfl,au⟩;refine⟨au.1,?_⟩;have aJ:=ar.get dI;have an:=au.get aJ;have aQ:=(pp.trans ar).trans au;simp-implicitDefEqProofs(disch:=try exact ak)only[reduceAdd,reduceLeDiff,reduceIte,az,an];refine aW (aZ _ aQ) ?_;rintro _ bh ⟨bl,rfl,aw,av⟩;refine⟨aw.1,?_⟩;refine aW (av _ (.refl _)) ?_;rintro _ aD ⟨rfl,ax⟩;refine⟨ax.1,?_⟩;have u:=ax.get (aw.get an)
 have ad:=(aQ.trans aw).trans ax;simp-implicitDefEqProofs(disch:=try exact ak)only[reduceAdd,reduceLeDiff,reduceIte,az,dI,aJ,an,u,a9];have B:=ai.aR ad;have bP:c5 p m H m aD:=c5.aR ad;have ba:=v1.aR ad;have bb:=v2.aR ad;have bM:=v3.aR ad;have T:H.next≠p/\H.next≠m/\H.next<aD.next:=by
  have:=ai.lm;have:=ai.km.lt;have:=af.a6 u;omega
 generalize H.next=y at u T ⊢
 clear aX aZ ag av ar au aw ax aQ ad dI aJ an pp aL a9 v1 v2 v3;clear be bg bh bk bl;obtain⟨T,bd,bW⟩:=T;have aS:IntKind.i64.wrap ((deep:Int)+1)=((deep+1:Nat):Int):=by rw[wrap_i64 ae ae];omega
 have a2:dL deep (.mk a ks b c)= .b (pad deep)::(fo a ks (bH (deep+1) b) c.isEmpty (bH (deep+1) c) (pad deep)++[nl]):=by rw[dL]
 have aP:flat (dL deep (.mk a ks b c))=pad deep++(flat (fo a ks (bH (deep+1) b) c.isEmpty (bH (deep+1) c) (pad deep))++[10]):=by rw[a2,yE,dw,qa,ds];rfl
 have N:∀{e:aE} {r:List aE},ks=e::r->c9 e<=cr ks:=by intro e r h;rw[h,cr];omega
 have bx:∀{e f:aE} {r:List aE},ks=e::f::r->c9 e+c9 f<=cr ks:=by intro e f r h;rw[h,cr,cr];omega
 rw[aP];clear a2 aP;have fin:∀(t:aC) (A:af) (m7:Nat),fL n0 p m7 A (acc++t)->c5 p m aD m7 A->t=pad deep++(flat (fo a ks (bH (deep+1) b) c.isEmpty (bH (deep+1) c) (pad deep))++[10])->∃m',fL n0 p m' A (acc++(pad deep++(flat (fo a ks (bH (deep+1) b) c.isEmpty (bH (deep+1) c) (pad deep))++[10])))/\c5 p m H m' A:=λt A m7 k w e=>⟨m7,by rw[<-e];exact k,bP.trans w⟩
 have ac:∀x y:aC,acc++(x++y)=acc++x++y:=λx y=>(List.append_assoc _ _ _).symm
 clear n;cases aq with
 | @var d x o z G al F=>
  have a5:=fP al;have bA:=ib F;have bG:=F.2.1;have bB:=kD o z;simp-implicitDefEqProofs(disch:=try exact ak)only[reduceAdd,reduceLeDiff,reduceIte,az,u,Int.reduceBEq];refine aW (type20 F.1 F.2.1 ae) ?_;rintro _ bi ⟨rfl,K⟩;refine⟨K.1,?_⟩;have ah:=K.get u;simp-implicitDefEqProofs(disch:=try exact ak)only[reduceAdd,reduceLeDiff,reduceIte,az,ah,Jd];refine aW (hR (B.aR K) rfl [[118,97,114,32],x,[58,32],flat (cn o z),[59]] (by simp) (by simp) ae (by simp only[List.flatten_cons,List.flatten_nil,List.length_append,List.length_cons,List.length_nil];omega) rfl rfl rfl) ?_;rintro _ A ⟨v,m7,j,i⟩;refine⟨v,?_⟩
  simp-implicitDefEqProofs(disch:=try exact ak)only[reduceAdd,reduceLeDiff,reduceIte,az,u,ah];refine a_.2 (fin _ _ _ j ((c5.aR K).trans i) ?_);show _=pad deep++(flat (wd oh::b9::(eX x o z++[bw [59]]))++[10]);rw[iA,e3,yG,di,ds];simp[oh]
 | @lets d x o z G e al F n=>
  have a5:=fP al;have bA:=ib F;have bG:=F.2.1;have bB:=kD o z;have O:=iC n;have Q:=N rfl;have E:kt [e] 0=flat (aY e):=rfl;simp-implicitDefEqProofs(disch:=try exact ak)only[reduceAdd,reduceLeDiff,reduceIte,az,u,Int.reduceBEq];refine aW (type20 F.1 F.2.1 ae) ?_;rintro _ bi ⟨rfl,K⟩;refine⟨K.1,?_⟩;have ah:=K.get u;simp-implicitDefEqProofs(disch:=try exact ak)only[reduceAdd,reduceLeDiff,reduceIte,az,ah,Ur,E];refine aW (hR (B.aR K) rfl [[108,101,116,32],x,[58,32],flat (cn o z),[32,61,32],flat (aY e),[59]] (by simp) (by simp) ae (by simp only[List.flatten_cons,List.flatten_nil,List.length_append,List.length_cons,List.length_nil];omega) rfl rfl rfl) ?_
  rintro _ A ⟨v,m7,j,i⟩;refine⟨v,?_⟩;simp-implicitDefEqProofs(disch:=try exact ak)only[reduceAdd,reduceLeDiff,reduceIte,az,u,ah];refine a_.2 (fin _ _ _ j ((c5.aR K).trans i) ?_);show _=pad deep++(flat (wd oe::b9::(eX x o z++b9::bw [61]::b9::(aY e++[bw [59]])))++[10]);rw[iA,e3,yG,e3,di,e3,dw,di,ds];simp[oe]
 | @set d x G e al n=>
  have a5:=fP al;have O:=iC n;have Q:=N rfl;have E:kt [e] 0=flat (aY e):=rfl;simp-implicitDefEqProofs(disch:=try exact ak)only[reduceAdd,reduceLeDiff,reduceIte,az,u,Int.reduceBEq,AJ,E];refine aW (hR (B) rfl [x,[32,61,32],flat (aY e),[59]] (by simp) (by simp) ae (by simp only[List.flatten_cons,List.flatten_nil,List.length_append,List.length_cons,List.length_nil];omega) rfl rfl rfl) ?_;rintro _ A ⟨v,m7,j,i⟩;refine⟨v,?_⟩;refine a_.2 (fin _ _ _ j i ?_);show _=pad deep++(flat (cC x::b9::bw [61]::b9::(aY e++[bw [59]]))++[10]);rw[kz,e3,di,e3,dw,di,ds];simp
 | @put d G e f bz n bD=>
  have Q:=bx rfl;have O:=iC n;have aP:=iC bD;have E:kt [e,f] 0=flat (aY e):=rfl;have bo:kt [e,f] 1=flat (aY f):=rfl;simp-implicitDefEqProofs(disch:=try exact ak)only[reduceAdd,reduceLeDiff,reduceIte,az,u,Int.reduceBEq,AJ,E,bo];refine aW (hR (B) rfl [flat (aY e),[32,61,32],flat (aY f),[59]] (by simp) (by simp) ae (by simp only[List.flatten_cons,List.flatten_nil,List.length_append,List.length_cons,List.length_nil];omega) rfl rfl rfl) ?_;rintro _ A ⟨v,m7,j,i⟩;refine⟨v,?_⟩;refine a_.2 (fin _ _ _ j i ?_);show _=pad deep++(flat (aY e++b9::bw [61]::b9::(aY f++[bw [59]]))++[10]);rw[dw,e3,di,e3,dw,di,ds]
  simp
 | @ifs d G e b c n aj a4=>
  have Q:=N rfl;have O:=iC n;have br:=tP (deep:=deep+1) aj ae;have bU:=tP (deep:=deep+1) a4 ae;have E:kt [e] 0=flat (aY e):=rfl;simp-implicitDefEqProofs(disch:=try exact ak)only[reduceAdd,reduceLeDiff,reduceIte,az,u,Int.reduceBEq,uQ,E];refine aW (hR (B) rfl [[105,102,32],flat (aY e),[32,123]] (by simp) (by simp) ae (by simp only[List.flatten_cons,List.flatten_nil,List.length_append,List.length_cons,List.length_nil];omega) rfl rfl rfl) ?_;rintro _ A ⟨v,m7,j,i⟩;refine⟨v,?_⟩;have ao:=i.get u T bd;have bQ:y≠m7:=by have:=i.1;omega
  have aH:=(bb.a1 (i.a1 B.aF B.hm M).s);have bn:=(bM.a1 (i.a1 B.aF B.hm M).s);simp-implicitDefEqProofs(disch:=try exact ak)only[reduceAdd,reduceLeDiff,reduceIte,az,ao,aS];refine aW (a8 d (deep+1) aj ae ae A ok bv _ n0 p m7 _ rfl aH M j (by simp only[List.flatten_cons,List.flatten_nil,List.length_append,List.length_cons,List.length_nil];omega)) ?_;rintro _ bj ⟨m8,ab,L⟩;refine⟨L.next,?_⟩;have aK:=L.get ao T bQ;have bR:y≠m8:=by have:=L.1;have:=i.next;omega
  have aT:=(bn.a1 (L.a1 j.aF j.hm M).s);have aO:=aT.p0;by_cases aM:c=[]
  ·subst aM;have aV:¬((0:Int)<((0:Nat):Int)):=ae;simp only[List.length_nil]at aO;simp-implicitDefEqProofs(disch:=try exact ak)only[reduceAdd,reduceLeDiff,reduceIte,az,aK,aO,aV,decide_false,qV];refine aW (hR (ab) rfl [[125]] (by simp) (by simp) ae (by simp only[List.flatten_cons,List.flatten_nil,List.length_append,List.length_cons,List.length_nil];omega) rfl rfl rfl) ?_;rintro _ ay ⟨am,m10,R,S⟩;refine⟨am,?_⟩;rw[List.append_assoc,List.append_assoc]at R;refine a_.2 (fin _ _ _ R ((i.trans L).trans S) ?_);show _=pad deep++(flat (wd lf::b9::(aY e++(dO (pad deep) (bH (deep+1) b)++[])))++[10]);rw[iA,e3,dw,tB,ds]
   simp[lf]
  ·have bt:(0:Int)<(c.length:Int):=by have:=List.length_pos_iff.2 aM;omega
   have bs:c.isEmpty=false:=by cases c<;>first|exact absurd rfl aM|rfl
   simp-implicitDefEqProofs(disch:=try exact ak)only[reduceAdd,reduceLeDiff,reduceIte,az,aK,aO,bt,decide_true];refine aW (hR (ab) rfl [[125,32,101,108,115,101,32,123]] (by simp) (by simp) ae (by simp only[List.flatten_cons,List.flatten_nil,List.length_append,List.length_cons,List.length_nil];omega) rfl rfl rfl) ?_;rintro _ ay ⟨am,m10,R,S⟩;refine⟨am,?_⟩;have bp:=S.get aK T bR;have bm:=(aT.a1 (S.a1 ab.aF ab.hm M).s);simp-implicitDefEqProofs(disch:=try exact ak)only[reduceAdd,reduceLeDiff,reduceIte,az,bp,aS];refine aW (bL d (deep+1) a4 ae ae ay ok V _ n0 p m10 _ rfl bm M R (by simp only[List.flatten_cons,List.flatten_nil,List.length_append,List.length_cons,List.length_nil];omega)) ?_
   rintro _ bS ⟨m11,bJ,bc⟩;refine⟨bc.next,?_⟩;simp-implicitDefEqProofs(disch:=try exact ak)only[reduceAdd,reduceLeDiff,reduceIte,az,qV];refine aW (hR (bJ) rfl [[125]] (by simp) (by simp) ae (by simp only[List.flatten_cons,List.flatten_nil,List.length_append,List.length_cons,List.length_nil];omega) rfl rfl rfl) ?_;rintro _ bT ⟨bK,m12,a7,bN⟩;refine⟨bK,?_⟩;rw[List.append_assoc,List.append_assoc,List.append_assoc,List.append_assoc]at a7;refine a_.2 (fin _ _ _ a7 ((((i.trans L).trans S).trans bc).trans bN) ?_);show _=pad deep++(flat (wd lf::b9::(aY e++(dO (pad deep) (bH (deep+1) b)++bif c.isEmpty then[]else b9::wd lY::dO (pad deep) (bH (deep+1) c))))++[10])
   have:=tB (pad deep) (bH (deep+1) c) [];rw[List.append_nil,ds]at this;rw[bs,aN,iA,e3,dw,tB,e3,iA,this];simp[lf,lY]
 | @«while» d G e b n aj=>
  have Q:=N rfl;have O:=iC n;have br:=tP (deep:=deep+1) aj ae;have E:kt [e] 0=flat (aY e):=rfl;simp-implicitDefEqProofs(disch:=try exact ak)only[reduceAdd,reduceLeDiff,reduceIte,az,u,Int.reduceBEq,uQ,E];refine aW (hR (B) rfl [[119,104,105,108,101,32],flat (aY e),[32,123]] (by simp) (by simp) ae (by simp only[List.flatten_cons,List.flatten_nil,List.length_append,List.length_cons,List.length_nil];omega) rfl rfl rfl) ?_;rintro _ A ⟨v,m7,j,i⟩;refine⟨v,?_⟩;have ao:=i.get u T bd;have aH:=(bb.a1 (i.a1 B.aF B.hm M).s);simp-implicitDefEqProofs(disch:=try exact ak)only[reduceAdd,reduceLeDiff,reduceIte,az,ao,aS]
  refine aW (a8 d (deep+1) aj ae ae A ok bv _ n0 p m7 _ rfl aH M j (by simp only[List.flatten_cons,List.flatten_nil,List.length_append,List.length_cons,List.length_nil];omega)) ?_;rintro _ bj ⟨m8,ab,L⟩;refine⟨L.next,?_⟩;simp-implicitDefEqProofs(disch:=try exact ak)only[reduceAdd,reduceLeDiff,reduceIte,az];refine aW (hR (ab) rfl [[125]] (by simp) (by simp) ae (by simp only[List.flatten_cons,List.flatten_nil,List.length_append,List.length_cons,List.length_nil];omega) rfl rfl rfl) ?_;rintro _ ay ⟨am,m10,R,S⟩;refine⟨am,?_⟩;rw[List.append_assoc,List.append_assoc]at R;refine a_.2 (fin _ _ _ R ((i.trans L).trans S) ?_)
  show _=pad deep++(flat (wd oi::b9::(aY e++dO (pad deep) (bH (deep+1) b)))++[10]);have:=tB (pad deep) (bH (deep+1) b) [];rw[List.append_nil,ds]at this;rw[iA,e3,dw,this];simp[oi]
 | @my d G=>
  have ap:=ba.tw;have aV:((0:Nat):Int)==0:=rfl;simp only[List.length_nil]at ap;simp-implicitDefEqProofs(disch:=try exact ak)only[reduceAdd,reduceLeDiff,reduceIte,az,u,Int.reduceBEq,ap,Int.natCast_zero];refine aW (hR (B) rfl [[114,101,116,117,114,110,59]] (by simp) (by simp) ae (by simp only[List.flatten_cons,List.flatten_nil,List.length_append,List.length_cons,List.length_nil];omega) rfl rfl rfl) ?_;rintro _ A ⟨v,m7,j,i⟩;refine⟨v,?_⟩;refine a_.2 (fin _ _ _ j i ?_);show _=pad deep++(flat (wd kM::[bw [59]])++[10]);rw[iA,di,ds];simp[kM]
 | @mz d G e n=>
  have O:=iC n;have Q:=N rfl;have E:kt [e] 0=flat (aY e):=rfl;have ap:∀H',cx P H' .len [41] [cg]=D (I J 1):=λH'=>ba.tw H'
  simp-implicitDefEqProofs(disch:=try exact ak)only[reduceAdd,reduceLeDiff,reduceIte,az,u,Int.reduceBEq,ap,uQ,E];refine aW (hR (B) rfl [[114,101,116,117,114,110,32],flat (aY e),[59]] (by simp) (by simp) ae (by simp only[List.flatten_cons,List.flatten_nil,List.length_append,List.length_cons,List.length_nil];omega) rfl rfl rfl) ?_;rintro _ A ⟨v,m7,j,i⟩;refine⟨v,?_⟩;refine a_.2 (fin _ _ _ j i ?_);show _=pad deep++(flat (wd kM::(b9::aY e++[bw [59]]))++[10]);rw[iA,List.cons_append,e3,dw,di,ds];simp[kM]
 | @print d G e n=>
  have O:=iC n;have Q:=N rfl;have E:kt [e] 0=flat (aY e):=rfl;simp-implicitDefEqProofs(disch:=try exact ak)only[reduceAdd,reduceLeDiff,reduceIte,az,u,Int.reduceBEq,uQ,E];refine aW (hR (B) rfl [[112,114,105,110,116,32],flat (aY e),[59]] (by simp) (by simp) ae (by simp only[List.flatten_cons,List.flatten_nil,List.length_append,List.length_cons,List.length_nil];omega) rfl rfl rfl) ?_;rintro _ A ⟨v,m7,j,i⟩;refine⟨v,?_⟩;refine a_.2 (fin _ _ _ j i ?_);show _=pad deep++(flat (wd og::b9::(aY e++[bw [59]]))++[10]);rw[iA,e3,dw,di,ds];simp[og]
 | @call d G e bz n=>
  have O:=iC n;have Q:=N rfl;have E:kt [e] 0=flat (aY e):=rfl;simp-implicitDefEqProofs(disch:=try exact ak)only[reduceAdd,reduceLeDiff,reduceIte,az,u,Int.reduceBEq,Uq,E];refine aW (hR (B) rfl [flat (aY e),[59]] (by simp) (by simp) ae (by simp only[List.flatten_cons,List.flatten_nil,List.length_append,List.length_cons,List.length_nil];omega) rfl rfl rfl) ?_;rintro _ A ⟨v,m7,j,i⟩;refine⟨v,?_⟩;refine a_.2 (fin _ _ _ j i ?_);show _=pad deep++(flat (aY e++[bw [59]])++[10]);rw[dw,di,ds];simp
section
variable {N:Nat}{H0:af}{L i n:Nat}{cap:Option Nat}{ro:Bool}{els:List (List aa)}{ok:Nat->Prop}{d deep n0 p m0:Nat}{acc:aC}
def Gv(o:deep+d<=51)(y:∀l,ok l->l<n0)(B:ok L)(ab:n<=1000000000)(aa:n0<=m0):∀(es:List bf) (j k:Nat) (done:aC) (m:Nat) (H:af),(∀a ks b c,bf.mk a ks b c∈es->l5 b/\l5 c)->(∀s∈es,ez d s)->H.get L=D (.row ro 9 els)->dW H ok es (els.drop (i+j))->ec es<=1000000000->acc.length+done.length+ec es<=500000000000->n=j+es.length->es.length<k->fL n0 p m H (acc++done)->c5 p m0 H0 m H->
  W (nP (aI P aB) N k (.ptr p 0 0) (I J deep) (.aG L i n 9 cap) (I J n) (I J j) H) λ_ H'=>∃m',fL n0 p m' H' (acc++(done++flat (bH deep es)))/\c5 p m0 H0 m' H'
 |_,_,0,_,_,_,_,_,_,_,_,_,_,x,_,_=>ae
 |[],j,k+1,done,m,H,ar,hw,q,he,F,E,u,x,e,w=>by
  have v:¬((j:Int)<(n:Int)):=by simp at u;omega
  simp-implicitDefEqProofs(disch:=try exact ak)only[nP,sB,reduceAdd,reduceLeDiff,reduceIte,az,v,decide_false];exact a_.2 ⟨m,by rw[bH,ds,List.append_nil];exact e,w⟩
 | .mk a ks b c::es,j,k+1,done,m,H,ar,hw,q,he,F,E,u,x,e,w=>by
  simp only[List.length_cons]at u x;have v:(j:Int)<(n:Int):=ae;have ad:((j:Int)).toNat=j:=ae;have T:(0:Int)<=(j:Int):=ae;have al:IntKind.i64.wrap ((j:Int)+1)=((j+1:Nat):Int):=by rw[wrap_i64 ae ae];omega
  obtain⟨cs,bb,ai,aj⟩:=he.cons;obtain⟨cg,bv,S,aq,v1,v2,v3⟩:=nj.1 ai;cases aq;obtain⟨ag,ah⟩:=ar a ks b c (List.mem_cons_self ..);have G:=hw (.mk a ks b c) (List.mem_cons_self ..);have hlen:=zi G deep o;rw[ec]at F E;have bO:=v1.eb;have b2:=v2.eb;have cw:=v3.eb;have pp:=aU.push H (.row U 9 [a.cells cg bv S]);have A:=UD ag ah G o ae (z:=deep) rfl (v1.aR pp) (v2.aR pp) (v3.aR pp) y (e.aR pp) (by rw[List.length_append];omega);simp only[b0.cells]at bb pp A;simp-implicitDefEqProofs(disch:=try exact ak)only[nP,sB,reduceAdd,reduceLeDiff,reduceIte,az,v,decide_true,T,ad,q,bb,bO,b2,cw];refine aW A ?_;rintro _ R ⟨m2,K,O⟩
  refine⟨O.next,?_⟩;simp-implicitDefEqProofs(disch:=try exact ak)only[bg,bG,c3,al];have Q:=(c5.aR (p:=p) (m:=m) pp).trans O;have M:=Q.a1 e.aF e.hm y;have g2:=(M L _ B q).2;have V:flat (bH deep (.mk a ks b c::es))=flat (dL deep (.mk a ks b c))++flat (bH deep es):=by rw[bH,dw]
  rw[List.append_assoc]at K;rw[V,<-List.append_assoc done];exact Gv o y B ab aa es (j+1) k (done++flat (dL deep (.mk a ks b c))) m2 R (λa ks b c h=>ar a ks b c (List.mem_cons_of_mem _ h)) (λs h=>hw s (List.mem_cons_of_mem _ h)) g2 (by rw[show i+(j+1)=i+j+1 by omega];exact dW.a1 M.s _ _ aj) ae (by rw[List.length_append];omega) ae ae K (w.trans Q)
end
def zm{es:List bf}(ar:∀a ks b c,bf.mk a ks b c∈es->l5 b/\l5 c):l5 es:=by
 intro d deep hw s o H ok v z n0 p m acc e h u j n;subst e;refine cO (λ_=>Rk (es.length+1)) ?_;have q:=h.p0;rw[wZ];simp-implicitDefEqProofs(disch:=try exact ak)only[reduceAdd,reduceLeDiff,reduceIte,az,q];by_cases e:es.length=0
 ·obtain rfl:=List.length_eq_zero_iff.1 e;have k:¬((0:Int)<((0:Nat):Int)):=ae;simp only[List.length_nil];simp-implicitDefEqProofs(disch:=try exact ak)only[nP,sB,reduceAdd,reduceLeDiff,reduceIte,az,k,decide_false];exact a_.2 ⟨m,by rw[bH,ds,List.append_nil];exact j,c5.aR (.refl _)⟩
 ·obtain⟨L,i,cap,ro,els,rfl,l,g1,w⟩:=h.row e;have x:=F5 es;exact Gv (N:=es.length+1) s u l ae j.hm es 0 (es.length+1) [] m H ar hw g1 (by rw[Nat.add_zero];exact w) o (by simpa using n) ae ae (by rw[List.append_nil];exact j) (c5.aR (.refl _))
def xS(e:bf):Prop:=∀(a:b0) (ks:List aE) (b c:List bf),e= .mk a ks b c->l5 b/\l5 c
def zW:∀(e:bf),xS e
 | .mk a ks b c=>by
  have i:∀e∈b,xS e:=λe he=>zW e
  have j:∀e∈c,xS e:=λe he=>zW e
  intro bt d ct c' h;cases h;exact⟨zm λbt d ct c' h=>i _ h _ _ _ _ rfl,zm λbt d ct c' h=>j _ h _ _ _ _ rfl⟩
def MB(es:List bf):l5 es:=zm λa ks b c _=>zW (.mk a ks b c) a ks b c rfl
section
set_option maxRecDepth 100000
noncomputable section
def qI(G:aD)(N:Nat)(bD:aa)(H:af):O:=j (au P .add 9 X bD (Z [32,123])) λa=>D (a,H)
def SC(G:aD)(N:Nat):∀ad H,bC P G N (o (o (o (o (o (bI Tryd.f30)))))) (bs Tryd.f30) [] (bs Tryd.f30) ad H=qI G N (ad 6) H:=by
 refine bZ (aL _) λad H=> ?_
 delta qI;kernel_rfl
def pg(G:aD)(N:Nat)(av l:aa)(H:af):O:=aO H (G 59 [l,Z [44,32]] H) λm a=>j (aJ P 73 av 0) λc=>j (ao P a 9 c) λd=>j (au P .add 9 X (Z [102,117,110,99,32]) d) λi=>j (au P .add 9 X i (Z [40])) λk=>j (au P .add 9 U k m) λn=>j (au P .add 9 X n (Z [41])) λe=>bif ((bp (ao P H 9 c) d&&bp (ao P a 9 c) d)&&X)then(j (aJ P 73 av 2) λo=>j (ao P a 4 o) λp=>a7 (D p) (j (aJ P 73 av 3) λq=>j (ao P a 40 q) λs=>aO a (G 20 [s] a) λu h=>j (au P .add 9 X (Z [58,32]) u) λv=>j (au P .add 9 U e v) λw=>qI G N w h) (qI G N e a))else C
def SB(G:aD)(N:Nat):∀ad H,bC P G N (o (o (o (bI Tryd.f30)))) (bs Tryd.f30) [] (bs Tryd.f30) ad H=pg G N (ad 1) (ad 3) H:=by
 refine bZ ((aX ah ((aX ah (SC G N) (aL _))) (aL _))) λad H=> ?_
 delta pg;generalize qI G N=a;revert a;refine id ?_;intro a;kernel_rfl
def sA(G:aD)(N:Nat)(o:aa->aa->aa->aa->aa->af->O)(av l:aa)(m n d:aa)(H:af):O:=j (au P .lss 3 U d n) λq=>a7 (D q) (j (cF P 23 m d) λs=>j (ao P H 68 s) λu=>cX H [Z [],Z [],I J 0,I J 0] λh i=>bm i (ba P i 68 h u) λa=>j (aJ P 68 h 1) λw=>j (ao P a 40 w) λx=>aO a (G 20 [x] a) λy c=>j (aJ P 68 h 0) λe=>j (ao P c 9 e) λbR=>j (au P .add 9 X bR (Z [58,32])) λv=>j (au P .add 9 U v y) λz=>ca c (cl P (c).next 50 1 [(0,z)]) λA k=>aO k (df P k [50,50] l A) λB p=>bif ((bp (ao P a 9 e) bR&&(bp (ao P c 9 e) bR&&X))&&X)then(j (au P .add 3 X d (I J 1)) λE=>o av B m n E p)else C) (pg G N av l H)
def nO(G:aD)(N:Nat):Nat->aa->aa->aa->aa->aa->af->O
 |0,_,_,_,_,_,_=>C
 |n+1,av,c,d,e,a,H=>sA G N (nO G N n) av c d e a H
def SA(G:aD)(N:Nat)(c:aa->aa->aa->aa->aa->af->O):∀ad H,bC P G N (bd (bd (o (bd (o (o (bI Tryd.f30))))))) (λad H=>c (ad 1) (ad 3) (ad 8) (ad 9) (ad 10) H) [(0,(λad H=>pg G N (ad 1) (ad 3) H))] (bs Tryd.f30) ad H=sA G N c (ad 1) (ad 3) (ad 8) (ad 9) (ad 10) H:=by
 refine bZ (aL _) λad H=> ?_
 delta sA;generalize pg G N=a;revert a;refine id ?_;intro a;kernel_rfl
def wY(G:aD)(N:Nat)(ag:aa)(H:af):O:=ca H (dR (H).next ag) λav a=>j (aJ P 73 av 1) λd=>j (ao P a 23 d) λc=>bg P .len [23] [c] a λe=>nO G N N av aa.aA c e (I J 0) a
def Rj(N:Nat){ag:aa}{H:af}{r:aa×af}(h:wY (aI P aB) N ag H=D r):aI P aB 30 [ag] H=D r:=cZ N (S:=λG=>wY G N ag H) Tryd.func30 (λG=>eo ((aX ah ((aX ah ((aX ah (SB G N) ((aX ah ((dx ah ((eP (k:=λm ad H=>nO G N m (ad 1) (ad 3) (ad 8) (ad 9) (ad 10) H) ah (λad H=>ah) (λm=>SA G N (nO G N m)))))) (aL _))))) (aL _))) (aL _))) (by delta wY;generalize nO G N N=a;revert a;refine id ?_;intro a;kernel_rfl)) h
def pa(G:aD)(N:Nat)(c:aa)(H:af):O:=j (cp c) λd=>j (aJ P 81 d 0) λe=>aO H (G 32 [e] H) λh a=>D (h,a)
def Sc(G:aD)(N:Nat):∀ad H,bC P G N (o (o (o (o (o (bI Tryd.f10)))))) (bs Tryd.f10) [] (bs Tryd.f10) ad H=pa G N (ad 3) H:=by
 refine bZ (aL _) λad H=> ?_
 delta pa;kernel_rfl
def ss(G:aD)(N:Nat)(q:aa->aa->aa->aa->af->O)(a o:aa)(p h:aa)(H:af):O:=j (au P .lss 3 U h p) λu=>a7 (D u) (j (cF P 24 o h) λv=>j (ao P H 73 v) λw=>cX H [Z [],aa.aA,.bool U,Z [],I J 0,aa.aA,I J 0] λe i=>bm i (ba P i 73 e w) λc=>j (ao P c 73 e) λx=>aO c (G 30 [x] c) λy k=>ca k (cl P (k).next 50 1 [(0,y)]) λz l=>aO l (G 29 [a,I J 0,z] l) λK d=>j (aJ P 73 e 4) λA=>j (ao P d 71 A) λB=>aO d (G 31 [a,I J 1,B] d) λL m=>ca m (D (.aG (m).next 0 1 1 (D 1),.row U 1 [[Z [125]]])) λE n=>aO n (G 29 [a,I J 0,E] n) λM s=>j (au P .add 3 X h (I J 1)) λF=>q a o p F s) (pa G N a H)
def nF(G:aD)(N:Nat):Nat->aa->aa->aa->aa->af->O
 |0,_,_,_,_,_=>C
 |n+1,a,c,d,e,H=>ss G N (nF G N n) a c d e H
def R7(G:aD)(N:Nat)(c:aa->aa->aa->aa->af->O):∀ad H,bC P G N (bd (bd (o (bd (o (o (o (o (bI Tryd.f10))))))))) (λad H=>c (ad 3) (ad 63) (ad 64) (ad 65) H) [(6,(λad H=>pa G N (ad 3) H))] (bs Tryd.f10) ad H=ss G N c (ad 3) (ad 63) (ad 64) (ad 65) H:=by
 refine bZ (aL _) λad H=> ?_
 delta ss;generalize pa G N=a;revert a;refine id ?_;intro a;kernel_rfl
def o_(G:aD)(N:Nat)(av c:aa)(H:af):O:=j (aJ P 26 av 2) λd=>j (ao P H 24 d) λa=>bg P .len [24] [a] H λe=>nF G N N c a e (I J 0) H
def Sb(G:aD)(N:Nat):∀ad H,bC P G N (o (o (o (o (bI Tryd.f10))))) (bs Tryd.f10) [] (bs Tryd.f10) ad H=o_ G N (ad 1) (ad 3) H:=by
 refine bZ ((aX ah (Sc G N) ((aX ah ((dx ah ((eP (k:=λm ad H=>nF G N m (ad 3) (ad 63) (ad 64) (ad 65) H) ah (λad H=>ah) (λm=>R7 G N (nF G N m)))))) (aL _))))) λad H=> ?_
 delta o_;generalize nF G N N=a;revert a;refine id ?_;intro a;kernel_rfl
def su(G:aD)(N:Nat)(p:aa->aa->aa->aa->aa->af->O)(av d:aa)(n o e:aa)(H:af):O:=j (au P .lss 3 U e o) λs=>a7 (D s) (j (cF P 23 n e) λu=>j (ao P H 68 u) λv=>cX H [Z [],Z [],I J 0,I J 0] λk l=>bm l (ba P l 68 k v) λa=>j (aJ P 68 k 1) λw=>j (ao P a 40 w) λx=>aO a (G 20 [x] a) λy c=>j (aJ P 68 k 0) λh=>j (ao P c 9 h) λi=>ca c (cl P (c).next 50 5 [(0,(Z [103,108,111,98,97,108,32])),(1,i),(2,(Z [58,32])),(3,y),(4,(Z [59]))]) λz m=>aO m (G 29 [d,I J 0,z] m) λB q=>bif ((bp (ao P a 9 h) i&&(bp (ao P c 9 h) i&&X))&&X)then(j (au P .add 3 X e (I J 1)) λA=>p av d n o A q)else C) (o_ G N av d H)
def nG(G:aD)(N:Nat):Nat->aa->aa->aa->aa->aa->af->O
 |0,_,_,_,_,_,_=>C
 |n+1,av,a,c,d,e,H=>su G N (nG G N n) av a c d e H
def R8(G:aD)(N:Nat)(c:aa->aa->aa->aa->aa->af->O):∀ad H,bC P G N (bd (bd (o (bd (o (o (o (bI Tryd.f10)))))))) (λad H=>c (ad 1) (ad 3) (ad 47) (ad 48) (ad 49) H) [(4,(λad H=>o_ G N (ad 1) (ad 3) H))] (bs Tryd.f10) ad H=su G N c (ad 1) (ad 3) (ad 47) (ad 48) (ad 49) H:=by
 refine bZ (aL _) λad H=> ?_
 delta su;generalize o_ G N=a;revert a;refine id ?_;intro a;kernel_rfl
def lK(G:aD)(N:Nat)(av c:aa)(H:af):O:=j (aJ P 26 av 1) λd=>j (ao P H 23 d) λa=>bg P .len [23] [a] H λe=>nG G N N av c a e (I J 0) H
def Sa(G:aD)(N:Nat):∀ad H,bC P G N (o (o (o (bI Tryd.f10)))) (bs Tryd.f10) [] (bs Tryd.f10) ad H=lK G N (ad 1) (ad 3) H:=by
 refine bZ ((aX ah (Sb G N) ((aX ah ((dx ah ((eP (k:=λm ad H=>nG G N m (ad 1) (ad 3) (ad 47) (ad 48) (ad 49) H) ah (λad H=>ah) (λm=>R8 G N (nG G N m)))))) (aL _))))) λad H=> ?_
 delta lK;generalize nG G N N=a;revert a;refine id ?_;intro a;kernel_rfl
def nE(G:aD)(N:Nat)(a:aa->aa->aa->aa->aa->af->O)(av e:aa)(c bR d:aa)(H:af):O:=j (au P .add 3 X d (I J 1)) λh=>a av e c bR h H
def Sd(G:aD)(N:Nat)(a:aa->aa->aa->aa->aa->af->O):∀ad H,bC P G N (o (o (o (bd (bd (o (bd (o (o (bI Tryd.f10)))))))))) (λad H=>a (ad 1) (ad 3) (ad 15) (ad 16) (ad 17) H) [(0,(λad H=>lK G N (ad 1) (ad 3) H))] (bs Tryd.f10) ad H=nE G N a (ad 1) (ad 3) (ad 15) (ad 16) (ad 17) H:=by
 refine bZ (aL _) λad H=> ?_
 delta nE;kernel_rfl
def pb(G:aD)(N:Nat)(d:aa->aa->aa->aa->aa->af->O)(av c:aa)(h bR i:aa)(H:af):O:=ca H (D (.aG (H).next 0 1 1 (D 1),.row U 1 [[Z [125]]])) λj a=>aO a (G 29 [c,I J 0,j] a) λk e=>nE G N d av c h bR i e
def Se(G:aD)(N:Nat)(a:aa->aa->aa->aa->aa->af->O):∀ad H,bC P G N (o (o (o (bd (bd (o (o (bd (bd (o (bd (o (o (bI Tryd.f10)))))))))))))) (λad H=>nE G N a (ad 1) (ad 3) (ad 15) (ad 16) (ad 17) H) [(1,(λad H=>nE G N a (ad 1) (ad 3) (ad 15) (ad 16) (ad 17) H)),(0,(λad H=>lK G N (ad 1) (ad 3) H))] (bs Tryd.f10) ad H=pb G N a (ad 1) (ad 3) (ad 15) (ad 16) (ad 17) H:=by
 refine bZ (aL _) λad H=> ?_
 delta pb;generalize nE G N a=c;revert c;refine id ?_;intro c;kernel_rfl
def sw(G:aD)(N:Nat)(s:aa->aa->aa->aa->aa->af->O)(u:aa->aa->aa->aa->aa->aa->aa->aa->af->O)(av e:aa)(n bR:aa)(o p:aa)(q d:aa)(H:af):O:=j (au P .lss 3 U d q) λw=>a7 (D w) (j (cF P 23 p d) λx=>j (ao P H 68 x) λy=>cX H [Z [],Z [],I J 0,I J 0] λk l=>bm l (ba P l 68 k y) λa=>j (aJ P 68 k 1) λz=>j (ao P a 40 z) λA=>aO a (G 20 [A] a) λB c=>j (aJ P 68 k 0) λh=>j (ao P c 9 h) λi=>ca c (cl P (c).next 50 4 [(0,i),(1,(Z [58,32])),(2,B),(3,(Z [59]))]) λE m=>aO m (G 29 [e,I J 1,E] m) λK v=>bif ((bp (ao P a 9 h) i&&(bp (ao P c 9 h) i&&X))&&X)then(j (au P .add 3 X d (I J 1)) λF=>u av e n bR o p q F v)else C) (pb G N s av e n bR o H)
def nH(G:aD)(N:Nat)(a:aa->aa->aa->aa->aa->af->O):Nat->aa->aa->aa->aa->aa->aa->aa->aa->af->O
 |0,_,_,_,_,_,_,_,_,_=>C
 |n+1,av,j,c,bR,d,e,h,i,H=>sw G N a (nH G N a n) av j c bR d e h i H
def R_(G:aD)(N:Nat)(a:aa->aa->aa->aa->aa->af->O)(d:aa->aa->aa->aa->aa->aa->aa->aa->af->O):∀ad H,bC P G N (bd (bd (o (bd (o (o (bd (bd (o (o (bd (bd (o (bd (o (o (bI Tryd.f10))))))))))))))))) (λad H=>d (ad 1) (ad 3) (ad 15) (ad 16) (ad 17) (ad 27) (ad 28) (ad 29) H) [(2,(λad H=>pb G N a (ad 1) (ad 3) (ad 15) (ad 16) (ad 17) H)),(1,(λad H=>nE G N a (ad 1) (ad 3) (ad 15) (ad 16) (ad 17) H)),(0,(λad H=>lK G N (ad 1) (ad 3) H))] (bs Tryd.f10) ad H=sw G N a d (ad 1) (ad 3) (ad 15) (ad 16) (ad 17) (ad 27) (ad 28) (ad 29) H:=by
 refine bZ (aL _) λad H=> ?_
 delta sw;generalize pb G N a=c;revert c;refine id ?_;intro c;kernel_rfl
def sv(G:aD)(N:Nat)(n:aa->aa->aa->aa->aa->af->O)(av e:aa)(l bR d:aa)(H:af):O:=j (au P .lss 3 U d bR) λo=>a7 (D o) (j (cF P 22 l d) λp=>j (ao P H 65 p) λq=>cX H [Z [],aa.aA,I J 0] λh i=>bm i (ba P i 65 h q) λa=>j (aJ P 65 h 0) λs=>j (ao P a 9 s) λu=>ca a (cl P (a).next 50 3 [(0,(Z [114,101,99,111,114,100,32])),(1,u),(2,(Z [32,123]))]) λv k=>aO k (G 29 [e,I J 0,v] k) λy c=>j (aJ P 65 h 1) λw=>j (ao P c 23 w) λm=>bg P .len [23] [m] c λx=>nH G N n N av e l bR d m x (I J 0) c) (lK G N av e H)
def mB(G:aD)(N:Nat):Nat->aa->aa->aa->aa->aa->af->O
 |0,_,_,_,_,_,_=>C
 |n+1,av,d,a,bR,c,H=>sv G N (mB G N n) av d a bR c H
def R9(G:aD)(N:Nat)(a:aa->aa->aa->aa->aa->af->O):∀ad H,bC P G N (bd (bd (o (bd (o (o (bI Tryd.f10))))))) (λad H=>a (ad 1) (ad 3) (ad 15) (ad 16) (ad 17) H) [(0,(λad H=>lK G N (ad 1) (ad 3) H))] (bs Tryd.f10) ad H=sv G N a (ad 1) (ad 3) (ad 15) (ad 16) (ad 17) H:=by
 refine bZ ((aX ah ((aX ah ((aX ah (Sd G N a) ((dx ah ((aX ah ((aX ah ((aX ah (Se G N a) ((aX ah ((dx ah ((eP (k:=λm ad H=>nH G N a m (ad 1) (ad 3) (ad 15) (ad 16) (ad 17) (ad 27) (ad 28) (ad 29) H) ah (λad H=>ah) (λm=>R_ G N a (nH G N a m)))))) (aL _))))) (aL _))) (aL _))))))) (aL _))) (aL _))) λad H=> ?_
 delta sv;generalize lK G N=c;generalize nH G N a N=d;revert c d;refine id ?_;intro c d;kernel_rfl
def wM(G:aD)(N:Nat)(ag:aa)(H:af):O:=ca H (dR (H).next ag) λav c=>ca c (rE (D 81) (c).next (.agg [aa.nilPtr,aa.aA])) λe a=>j (aJ P 26 av 0) λh=>j (ao P a 22 h) λd=>bg P .len [22] [d] a λbR=>mB G N N av e d bR (I J 0) a
def Q4(N:Nat){ag:aa}{H:af}{r:aa×af}(h:wM (aI P aB) N ag H=D r):aI P aB 10 [ag] H=D r:=cZ N (S:=λG=>wM G N ag H) Tryd.func10 (λG=>eo ((aX ah ((aX ah ((aX ah (Sa G N) ((aX ah ((dx ah ((eP (k:=λm ad H=>mB G N m (ad 1) (ad 3) (ad 15) (ad 16) (ad 17) H) ah (λad H=>ah) (λm=>R9 G N (mB G N m)))))) (aL _))))) (aL _))) (aL _))) (by delta wM;generalize mB G N N=a;revert a;refine id ?_;intro a;kernel_rfl)) h
end
end
section
set_option maxRecDepth 100000
noncomputable section
end
end
section
def cN{α:Type}(F:al->ad α):Prop:=∀s x,F s=D x->x.2.an=0->s.an=0/\(0<=s.bk->x.2.bk=s.bk/\x.2.bN=s.bN)
def dC(f:al->al):Prop:=∀s,(f s).an=0->s.an=0/\(f s).bk=s.bk/\(f s).bN=s.bN
def cN.bind{α β:Type}{F:al->ad α}{G:α->al->ad β}(h:cN F)(i:∀x,cN (G x)):cN λs=>(F s).bind λp=>G p.1 p.2:=by
 intro s x j e;obtain⟨p,c,d⟩:=fa j;obtain⟨g1,g2⟩:=i p.1 p.2 x d e;obtain⟨f1,f2⟩:=h s p c g1;refine⟨f1,λa=> ?_⟩;obtain⟨aq,aH⟩:=f2 a;obtain⟨bu,cq⟩:=g2 (by rw[aq];exact a);exact⟨bu.trans aq,cq.trans aH⟩
def cN.none{α:Type}{F:al->ad α}(h:∀s,F s=C):cN F:=λs x a=>by rw[h]at a;cases a
def cN.Ha{α:Type}{f:al->α×al}(h:dC λs=>(f s).2):cN λs=>D (f s):=λs x e d=>by
 cases e;obtain⟨a,c⟩:=h s d;exact⟨a,λ_=>c⟩
def dC.comp{f g:al->al}(h:dC f)(k:dC g):dC λs=>g (f s):=λs ar=>by
 obtain⟨aT,a2,a3⟩:=k _ ar;obtain⟨a,c,b3⟩:=h _ aT;exact⟨a,a2.trans c,a3.trans b3⟩
def cN.pre{α:Type}{F:al->ad α}{f:al->al}(h:dC f)(k:cN F):cN λs=>F (f s):=λs x l i=>by
 obtain⟨aT,a2⟩:=k _ x l i;obtain⟨c,a,b3⟩:=h s aT;refine⟨c,λj=> ?_⟩;obtain⟨d,e⟩:=a2 (by rw[a];exact j);exact⟨d.trans a,e.trans b3⟩
def dC.go:dC aw:=λs h=>⟨h,rfl,rfl⟩
def dC.id:dC λs=>s:=λs h=>⟨h,rfl,rfl⟩
variable {T:List Tok}
def jY{s:al}{e:Int}(he:e≠0)(h:(bQ T e s).an=0):False:=by
 unfold bQ at h;split at h
 ·exact he h
 ·rename_i ar;exact ar h
def dC.lZ(x:aC):dC λs=>(b8 T x s).2:=λs h=>by
 have h:(b8 T x s).2.an=0:=h;show s.an=0/\(b8 T x s).2.bk=s.bk/\(b8 T x s).2.bN=s.bN;cases a:bz T s 4 x with
 |true=>
  have e:(b8 T x s).2=aw s:=by simp[b8,a]
  rw[e]at h ⊢;exact⟨h,rfl,rfl⟩
 |false=>
  have e:(b8 T x s).2=bQ T 2 s:=by simp[b8,a]
  rw[e]at h;exact(jY aK h).elim
def dC.kb(x:aC):∀n:Nat,dC (kb T x n)
 |0=>dC.id
 |n+1=>dC.comp (f:=λs=>(b8 T x s).2) (g:=YtghmbpmaafnodaaDoor.kb T x n) (dC.lZ x) (dC.kb x n)
def GN:∀(n:Nat) (d:Int) (s:al),(∀c s',gM T n d s= .inl (c,s')->s'.an=0->s.an=0/\s'.bk=s.bk/\s'.bN=s.bN)/\∀s',gM T n d s= .inr s'->s'.an≠0
 |0,d,s=>by
  simp only[gM];cases bz T s 4 [91]with
  |true=>exact⟨λ_ _ h=>(by cases h),λs' h e=>by cases h;exact jY aK e⟩
  |false=>exact⟨λ_ _ h a=>(by cases h;exact⟨a,rfl,rfl⟩),λ_ h=>(by cases h)⟩
 |n+1,d,s=>by
  simp only[gM];cases bz T s 4 [91]with
  |true=>exact GN n (d+1) (aw s)
  |false=>exact⟨λ_ _ h a=>(by cases h;exact⟨a,rfl,rfl⟩),λ_ h=>(by cases h)⟩
def dC.of:dC λs=>(dT T s).2:=λs h=>by
 obtain⟨i1,i2⟩:=GN (T:=T) 3 0 s;have a8:(dT T s).2.an=0:=h;show s.an=0/\(dT T s).2.bk=s.bk/\(dT T s).2.bN=s.bN;unfold dT at a8 ⊢;cases a:gM T 3 0 s with
 |inr s'=>rw[a]at a8;exact absurd a8 (i2 s' a)
 |inl p=>
  obtain⟨d,s1⟩:=p;rw[a]at a8;simp only at a8 ⊢;cases c:((aj T s1.at_).kind != 1&&(!bz T s1 3 [105,110,116]&& !bz T s1 3 [98,111,111,108]))with
  |true=>
   simp only[j1,c,aS]at a8;exact(jY aK a8).elim
  |false=>
   simp only[j1,c,aN]at a8 ⊢;obtain⟨aT,a2,a3⟩:=dC.comp dC.go (dC.kb [93] d.toNat) s1 a8;obtain⟨e,i,b3⟩:=i1 d s1 a aT;exact⟨e,a2.trans i,a3.trans b3⟩
def GO{s:al}{x:aC}(h:(da T x s).1=X):s.an=0/\s.bk<50/\(da T x s).2={s with at_:=e8 (s.at_+1),bk:=e8 (s.bk+1)}:=by
 unfold da at h ⊢;cases a:bz T s 4 x with
 |false=>rw[a]at h;cases h
 |true=>
  rw[a]at h;simp only[aS]at h ⊢;split at h
  ·cases h
  ·rename_i c;rw[if_neg c];exact⟨(mh a).1,ae,rfl⟩
def GM{s:al}{x:aC}(h:(da T x s).1=U):(da T x s).2.an≠0:=by
 unfold da at h ⊢;cases c:bz T s 4 x with
 |false=>exactλa=>jY aK a
 |true=>
  rw[c]at h;simp only[aS]at h ⊢;split at h
  ·rename_i d;rw[if_pos d];exactλa=>jY aK a
  ·cases h
def xv{o:Int}(a:0<=o)(c:o<50):e8 (o+1)=o+1/\e8 (o+1-1)=o:=⟨wrap_i64 ae ae,by rw[show o+1-1=o by omega];exact wrap_i64 ae ae⟩
def cN.within{α β:Type}{F:al->ad α}{g:al->α->β}{v:β}{w:al->al}{x:aC}(h:cN F)(hw:∀s,(w s).an=0->s.an=0/\(w s).bk=e8 (s.bk-1)/\(w s).bN=s.bN):
  cN λs=>bif (da T x s).1 then(F (da T x s).2).bind λp=>D (g s p.1,w p.2)else D (v,(da T x s).2):=by
 intro s y c j;cases a:(da T x s).1 with
 |false=>
  simp only[a,aN,aZ]at c;subst c;exact absurd j (GM a)
 |true=>
  obtain⟨bO,b2,cw⟩:=GO a;simp only[a,aS]at c;obtain⟨p,m,i⟩:=fa c;simp only[aZ]at i;subst i;obtain⟨aT,a2,a3⟩:=hw p.2 j;obtain⟨n,d⟩:=h _ p m aT;refine⟨bO,λl=> ?_⟩;obtain⟨e,k⟩:=xv l b2;rw[cw]at d;obtain⟨d1,d2⟩:=d (by simp only;rw[e];omega);refine⟨?_,a3.trans d2⟩;show(w p.2).bk=s.bk;rw[a2,d1];simp only
  rw[e,k]
def vX(y:aC)(s:al)(h:(hP T y s).2.an=0):s.an=0/\(hP T y s).2.bk=e8 (s.bk-1)/\(hP T y s).2.bN=s.bN:=by
 obtain⟨aT,a2,a3⟩:=dC.lZ (T:=T) y (dU s) h;exact⟨aT,a2,a3⟩
structure Lc(T:List Tok)(n:Nat):Prop where
 row:∀lev,cN (gP T n lev)
 iY:∀lev e,cN (iY T n lev e)
 unary:cN (lX T n)
 sign:∀x q,cN (pG T n x q)
 chain:cN (oE T n)
 gm:∀e,cN (gm T n e)
 single:∀x y,cN (jx T n x y)
 first:cN (ky T n)
 name:cN (qi T n)
 fresh:cN (qb T n)
 list:cN (nw T n)
 jn:∀l s x,jn T n l s=some x->x.2.an=0->s.an=0/\(1<=s.bk/\s.bk<=50->x.2.bk=s.bk-1/\x.2.bN=s.bN)
def cN.ite{α:Type}{F G:al->ad α}(c:al->Bool)(h:cN F)(k:cN G):cN λs=>bif c s then F s else G s:=λs x a=>by
 cases d:c s with
 |true=>simp only[d,aS]at a;exact h s x a
 |false=>simp only[d,aN]at a;exact k s x a
def cN.bad{α:Type}{v:α}:cN λs=>D (v,bQ T 2 s):=λs x c a=>by
 cases c;exact(jY aK a).elim
def cN.eq{α:Type}{F G:al->ad α}(h:cN F)(e:∀s,G s=F s):cN G:=λs x a=>h s x (by rw[<-e];exact a)
def GL(T:List Tok):∀n,Lc T n
 |0=>by
  refine⟨?_,?_,?_,?_,?_,?_,?_,?_,?_,?_,?_,?_⟩
  all_goals intros
  all_goals first|exact cN.none λ_=>rfl|(rename_i h _;cases h)
 |n+1=>by
  have i:=GL T n;refine⟨λlev=> ?_,λlev e=> ?_,?_,λx q=> ?_,?_,λe=> ?_,λx y=> ?_,?_,?_,?_,?_,λl=> ?_⟩
  ·by_cases Q:lev=5
   ·exact i.unary.eq λs=>by rw[gP,if_pos Q]
   ·exact(cN.bind (i.row (lev+1)) λe=>i.iY lev e).eq λs=>by rw[gP,if_neg Q]
  ·intro s x c d;rw[iY]at c;by_cases B:mj T lev s=0
   ·rw[if_pos B]at c;cases c;exact⟨d,λ_=>⟨rfl,rfl⟩⟩
   ·rw[if_neg B]at c;exact cN.pre dC.go (cN.bind (i.row (lev+1)) λb=>i.iY lev (.mk {kind:=mj T lev s,pos:=(aj T s.at_).pos} [e,b])) s x c d
  ·exact(cN.ite (λs=>bz T s 4 [45]) (i.sign [45] 12) (cN.ite (λs=>bz T s 4 [33]) (i.sign [33] 13) i.chain)).eq λs=>by rw[lX]
  ·exact(cN.within (T:=T) (x:=x) (g:=λs a=> .mk {kind:=q,pos:=(aj T s.at_).pos} [a]) (v:=aE.zero) (w:=dU) i.unary λs h=>⟨h,rfl,rfl⟩).eq λs=>by rw[pG]
  ·exact(cN.bind i.first λe=>i.gm e).eq λs=>by rw[oE]
  ·intro s x c d;rw[gm]at c;cases R:(s.an==0&&(aj T s.at_).kind==4)with
   |false=>simp only[R,aN,aZ]at c;subst c;exact⟨d,λ_=>⟨rfl,rfl⟩⟩
   |true=>
    simp only[R,aS]at c;cases S:(aj T s.at_).text==[46]with
    |true=>
     simp only[S,aS]at c;obtain⟨aT,a2⟩:=i.gm _ _ x c d;have ad:(jh T e s).2.an=0->s.an=0/\(jh T e s).2.bk=s.bk/\(jh T e s).2.bN=s.bN:=by
      unfold jh;cases B:((aj T (aw s).at_).kind != 1)with
      |true=>exactλh=>(jY (T:=T) (s:=aw s) (e:=2) aK h).elim
      |false=>exactλh=>⟨h,rfl,rfl⟩
     obtain⟨G,o,b3⟩:=ad aT;refine⟨G,λE=> ?_⟩;obtain⟨A,H⟩:=a2 (by rw[o];exact E);exact⟨A.trans o,H.trans b3⟩
    |false=>
     simp only[S,aN]at c;cases V:(aj T s.at_).text==[91]with
     |true=>
      simp only[V,aS]at c;exact cN.bind (i.single [91] [93]) (λb=>i.gm (.mk {kind:=6,pos:=(aj T s.at_).pos} [e,b])) s x c d
     |false=>simp only[V,aN,aZ]at c;subst c;exact⟨d,λ_=>⟨rfl,rfl⟩⟩
  ·exact(cN.within (T:=T) (x:=x) (g:=λ_ a=>a) (v:=aE.zero) (w:=λs=>(hP T y s).2) (i.row 0) (vX y)).eq λs=>by rw[jx]
  ·intro s x c d;rw[ky]at c;by_cases L:s.an=0
   ·rw[if_neg (by simp[L])]at c;by_cases aa:(aj T s.at_).kind=2
    ·rw[if_pos aa]at c;cases c;exact⟨d,λ_=>⟨rfl,rfl⟩⟩
    ·rw[if_neg aa]at c;by_cases W:(aj T s.at_).kind=1
     ·rw[if_pos W]at c;exact i.name s x c d
     ·rw[if_neg W]at c;by_cases ab:(aj T s.at_).kind=3\/(aj T s.at_).kind=4
      ·rw[if_pos ab]at c;have ah:cN λs=>D (A2 T s):=cN.Ha λs h=>⟨h,rfl,rfl⟩
       have af:cN λs=>D (zH T s):=cN.Ha (dC.comp dC.go (dC.of (T:=T)))
       have ag:cN λs=>D (qy T s):=by
        refine cN.eq (F:=λs=>(λs=>bif (da T [40] s).1 then(D ((),(da T [40] s).2)).bind λp=>D ((),(hP T [41] p.2).2)else D ((),(da T [40] s).2)) (aw s)|>.bind λp=>D (.mk {kind:=11,pos:=(aj T s.at_).pos} [],p.2)) ?_ λs=> ?_
        ·intro s y N O;obtain⟨p,k,m⟩:=fa N;cases m;exact cN.pre dC.go (cN.within (T:=T) (x:=[40]) (F:=λs=>D ((),s)) (g:=λ_ _=>()) (v:=()) (w:=λs=>(hP T [41] s).2) (λs z ai ak=>by cases ai;exact⟨ak,λ_=>⟨rfl,rfl⟩⟩) (vX [41])) s p k O
        ·simp only[qy];cases(da T [40] (aw s)).1<;>rfl
       have hlen:cN λs=>(jx T n [40] [41] (aw s)).bind λp=>D (aE.mk {kind:=10,pos:=(aj T s.at_).pos} [p.1],p.2):=by
        intro s y N O;obtain⟨p,k,m⟩:=fa N;cases m;exact cN.pre dC.go (i.single [40] [41]) s p k O
       exact cN.ite (λs=>(aj T s.at_).kind==4) (cN.ite (λs=>(aj T s.at_).text==[40]) (i.single [40] [41]) cN.bad)
        (cN.ite (λs=>(aj T s.at_).text==[116,114,117,101]||(aj T s.at_).text==[102,97,108,115,101]) ah (cN.ite (λs=>(aj T s.at_).text==[110,117,108,108]) af
         (cN.ite (λs=>(aj T s.at_).text==[110,101,119]) i.fresh (cN.ite (λs=>(aj T s.at_).text==[108,101,110]) hlen (cN.ite (λs=>(aj T s.at_).text==[114,101,97,100]) ag cN.bad))))) s x c d
      ·rw[if_neg ab]at c;exact cN.bad s x c d
   ·rw[if_pos (by simpa using L)]at c;cases c;exact absurd d L
  ·intro s x c d;rw[qi]at c;cases j:bz T (aw s) 4 [40]with
   |true=>
    simp only[j,aS]at c;obtain⟨p,k,m⟩:=fa c;cases m;exact cN.pre dC.go i.list s p k d
   |false=>simp only[j,aN,aZ]at c;subst c;exact dC.go s d|>.imp id λh _=>h
  ·intro s x c d;rw[qb]at c;cases j:bz T (aw s) 4 [91]with
   |true=>
    simp only[j,aS]at c;obtain⟨p,k,m⟩:=fa c;cases m;exact cN.pre (dC.comp (dC.comp (dC.comp dC.go dC.go) (dC.of (T:=T))) (dC.lZ (T:=T) [93])) (i.single [40] [41]) s p k d
   |false=>
    simp only[j,aN,aZ]at c;subst c;cases B:((aj T (aw s).at_).kind != 1)with
    |true=>
     simp only[B,aS]at d;exact(jY (T:=T) (s:=aw s) (e:=2) aK d).elim
    |false=>simp only[B,aN]at d ⊢;exact⟨d,λ_=>⟨rfl,rfl⟩⟩
  ·intro s x c d;rw[nw]at c;cases E:(da T [40] s).1 with
   |false=>simp only[E,aN,aZ]at c;subst c;exact absurd d (GM E)
   |true=>
    obtain⟨bO,b2,cw⟩:=GO E;simp only[E,aS]at c;cases j:bz T (da T [40] s).2 4 [41]with
    |true=>
     simp only[j,aS,aZ]at c;subst c;obtain⟨aT,a2,a3⟩:=vX [41] _ d;refine⟨bO,λK=> ?_⟩;obtain⟨A,H⟩:=xv K b2;rw[cw]at a2 a3;simp only[A]at a2 a3;rw[H]at a2;rw[cw];simp only[A];exact⟨a2,a3⟩
    |false=>
     simp only[j,aN]at c;obtain⟨p,k,m⟩:=fa c;obtain⟨aT,a2⟩:=i.jn [p.1] p.2 x m d;obtain⟨G,o⟩:=i.row 0 _ p k aT;refine⟨bO,λK=> ?_⟩;obtain⟨A,H⟩:=xv K b2;rw[cw]at o;simp only[A]at o;obtain⟨d1,d2⟩:=o ae;obtain⟨aq,aH⟩:=a2 (by rw[d1];omega);exact⟨by rw[aq,d1];omega,aH.trans d2⟩
  ·intro s x c d;rw[jn]at c;cases u:(fY T 4 [44] s).1 with
   |false=>
    simp only[u,aN,aZ]at c;subst c;have M:(fY T 4 [44] s).2=s:=by
     unfold fY at u ⊢;cases j:bz T s 4 [44]with
     |true=>rw[j]at u;cases u
     |false=>rfl
    simp only[M]at d ⊢;obtain⟨aT,a2,a3⟩:=vX [41] s d;exact⟨aT,λh=>⟨by rw[a2];exact wrap_i64 ae ae,a3⟩⟩
   |true=>
    simp only[u,aS]at c;obtain⟨p,k,m⟩:=fa c;have M:(fY T 4 [44] s).2=aw s:=by
     unfold fY at u ⊢;cases j:bz T s 4 [44]with
     |true=>rfl
     |false=>rw[j]at u;cases u
    rw[M]at k;obtain⟨aT,a2⟩:=i.jn _ p.2 x m d;obtain⟨G,o⟩:=i.row 0 _ p k aT;refine⟨G,λh=> ?_⟩;obtain⟨d1,d2⟩:=o (by show(0:Int)<=s.bk;omega);have P:p.2.bk=s.bk:=d1;obtain⟨aq,aH⟩:=a2 (by rw[P];exact h);exact⟨by rw[aq,P],aH.trans d2⟩
end
def k2(l:List bf)(s:al):List bf×Int×Int×Int:=if s.an=0 then(l,s.at_,0,0)else([],0,s.an,s.bN)
