/-
  Texts of one proof, laid together: Ve Vf Vg Vh Vi ShVc ShRc T2 T3.
-/
import Derived.Test.YtghmbpmaafnodaaDoorMN
set_option linter.unusedVariables false
set_option linter.unusedSimpArgs false
set_option linter.defProp false
open Option renaming some→D,none→Z
open Bool renaming true→X,false→U
open Go.b9.aa renaming int→I,str→Y
open Go.IntKind renaming i64→J
namespace Go.Proofs.YtghmbpmaafnodaaDoor
open Go.b9
open Nat (reduceAdd reduceLeDiff)
def ev(l:aB):List (List aa):=l.map λc=>[I .u8 c.toNat]
def ym(a b:aB):ev (a++b)=ev a++ev b:=List.map_append
def kK(a:aB):(ev a).length=a.length:=List.length_map ..
def js(H:ad)(m:Nat)(acc:aB)(b:aa):Prop:=(acc=[]/\b= .ar)\/(acc≠[]/\b= .ay m 0 acc.length 1 Z/\H.get m=D (.bS 5 1 (ev acc)))
def fG(H:ad)(p m:Nat)(acc:aB):Prop:=(acc≠[]->p≠m)/\p<H.next/\∃a b,H.get p=D (.bS 81 2 [[a,b]])/\(a= .nilPtr\/a= .ptr p 0 0)/\js H m acc b
def cF(p m:Nat)(H:ad)(m':Nat)(H':ad):Prop:=(m'=m\/H.next<=m')/\cX (λl=>l=p\/l=m) H H'
def cF.trans{p m m1 m2:Nat}{H H1 c:ad}(h:cF p m H m1 H1)(k:cF p m1 H1 m2 c):cF p m H m2 c:=by
 obtain⟨aQ,a⟩:=h;obtain⟨a2,d⟩:=k;have:=a.1;refine⟨af,Nat.le_trans a.1 d.1,λl e az=> ?_⟩;simp only[not_or]at az;rw[d.2 l af (by simp only[not_or];exact⟨az.1,af⟩)];exact a.2 l e (by simp only[not_or];exact az)
def cF.aK{p m:Nat}{H H':ad}(h:aM H H'):cF p m H m H':=⟨.inl rfl,h.mut _⟩
def cF.next{p m m':Nat}{H H':ad}(h:cF p m H m' H'):H.next<=H'.next:=h.2.1
def cF.get{p m m':Nat}{H H':ad}(h:cF p m H m' H'){l:Nat}{b:bN}(d:H.get l=D b)(a:l≠p)(c:l≠m):H'.get l=D b:=h.2.get d (by simp only[not_or];exact⟨a,c⟩)
def js.one{H:ad}{m:Nat}{acc:aB}{b:aa}(h:js H m acc b):b.one=true:=by rcases h with⟨_,rfl⟩|⟨_,rfl,_⟩<;>rfl
def fG.aK{H H':ad}{p m:Nat}{acc:aB}(h:fG H p m acc)(q:aM H H'):fG H' p m acc:=by
 obtain⟨j,k,a,b,l,n,c⟩:=h;refine⟨j,Nat.lt_of_lt_of_le k q.1,a,b,q.get l,n,?_⟩;rcases c with c|⟨d,e,i⟩
 ·exact .inl c
 ·exact .inr ⟨d,e,q.get i⟩
def pk:P.underlying 77=D (.slice 5):=ah
def q7:P.underlying 9=D .string:=ah
def pQ:hn P 5=D 1:=ah
def pO:eF P 5=D (I .u8 0):=ah
def Gt{H:ad}{m:Nat}{acc s:aB}{b:aa}(h:js H m acc b)(o:acc.length+s.length<=10000000000000):
  ∃j H' m',cR P H [77,9] b (Y s)=D (j,H')/\js H' m' (acc++s) j/\((m'=m/\s=[])\/H.next<=m')/\H.next<=H'.next/\∀l,l<H.next->(l≠m\/acc=[])->H'.get l=H.get l:=by
 have d:hN P H 9 1 (Y s)=D (ev s):=by simp[hN,q7,ev]
 rcases h with⟨rfl,rfl⟩|⟨e,rfl,c⟩
 ·by_cases az:s=[]
  ·subst az;refine⟨.ar,H,m,?_,.inl ⟨rfl,rfl⟩,.inl ⟨rfl,rfl⟩,bf _,λ_ _ _=>rfl⟩;simp[cR,hv,pk,q7,nM,pQ,pO,d,aa.cells,ev]
  ·have p:¬s.length=0:=by simpa using az
   simp only[List.length_nil,Nat.zero_add]at o;refine⟨.ay H.next 0 s.length 1 Z,H.push (.bS 5 1 (ev s)),H.next,?_,.inr ⟨by simpa using az,rfl,ad.bx _ _⟩,.inr (bf _),by simp,λl i _=>ad.dp af⟩;simp[cR,hv,pk,q7,nM,pQ,pO,d,aa.cells,kK,az,iZ,dy];omega
 ·by_cases az:s=[]
  ·subst az;refine⟨.ay m 0 acc.length 1 Z,H,m,?_,.inr (by rw[List.append_nil];exact⟨e,rfl,c⟩),.inl ⟨rfl,rfl⟩,bf _,λ_ _ _=>rfl⟩;simp[cR,hv,pk,q7,nM,pQ,pO,d,aa.cells,ev]
  ·have hm:=ad.aR c;have n:eu H m 0 acc.length 1=D (ev acc):=by
    unfold eu;rw[c];simp[kK];rw[List.take_of_length_le (by rw[kK];omega)]
   refine⟨.ay H.next 0 (acc.length+s.length) 1 Z,(H.set m .dead).push (.bS 5 1 (ev acc++ev s)),H.next,?_,.inr ⟨by simp[az],by rw[List.length_append],by rw[ym];simpa only[ad.di]using ad.bx (H.set m .dead) (.bS 5 1 (ev acc++ev s))⟩,.inr (bf _),by simp,λl i a=>by
    have a:l≠m:=by rcases a with a|a<;>first|exact a|exact absurd a e
    rw[ad.dp (by simp only[ad.di];omega),ad.get_set_other af]⟩
   have i:¬s.length=0:=by simpa using az
   have a:acc.length+s.length<=140737488355328:=af;have k:acc.length+s.length<=9223372036854775807:=af;simp[cR,hv,pk,q7,nM,pQ,pO,d,aa.cells,kK,a,k,n,c,az]
def Gu{H:ad}{m:Nat}{acc:aB}{b:aa}{c:UInt8}{k:Nat}(h:js H m acc b)(i:acc≠[])(u:acc.length<=10000000000000)(p:H.get k=D (.row U 1 [[I .u8 c.toNat]])):
  ∃e H' m',cR P H [77,77] b (.ay k 0 1 1 (D 1))=D (e,H')/\js H' m' (acc++[c]) e/\H.next<=m'/\H.next<=H'.next/\∀l,l<H.next->l≠m->H'.get l=H.get l:=by
 have q:hN P H 77 1 (.ay k 0 1 1 (D 1))=D (ev [c]):=by simp[hN,pk,eu,p,ev]
 rcases h with⟨rfl,_⟩|⟨_,rfl,a⟩
 ·exact absurd rfl i
 ·have hm:=ad.aR a;have o:eu H m 0 acc.length 1=D (ev acc):=by
   unfold eu;rw[a];simp[kK];rw[List.take_of_length_le (by rw[kK];omega)]
  refine⟨.ay H.next 0 (acc.length+1) 1 Z,(H.set m .dead).push (.bS 5 1 (ev acc++ev [c])),H.next,?_,.inr ⟨by simp,by rw[List.length_append];rfl,by rw[ym];simpa only[ad.di]using ad.bx (H.set m .dead) (.bS 5 1 (ev acc++ev [c]))⟩,bf _,by simp,λl s d=>by rw[ad.dp (by simp only[ad.di];omega),ad.get_set_other af]⟩;have d:acc.length+1<=140737488355328:=af;have j:acc.length+1<=9223372036854775807:=af;have n:(ev [c]).length=1:=rfl;simp[cR,hv,pk,nM,pQ,pO,q,aa.cells,d,j,n,o,a]
open Classical in
def yr{H:ad}{p m:Nat}{acc:aB}(h:fG H p m acc):∃b H1,aA P aw 80 [.ptr p 0 0] H=D (.tuple [],H1)/\H1.next=H.next/\H1.get p=D (.bS 81 2 [[.ptr p 0 0,b]])/\js H1 m acc b/\∀l,l≠p->H1.get l=H.get l:=by
 obtain⟨n,o,a,b,d,q,c⟩:=h;rcases q with rfl|rfl
 ·refine⟨b,H.set p (.bS 81 2 [[.ptr p 0 0,b]]),lD ?_,by simp,ad.get_set_same o,?_,λl s=>ad.get_set_other (λe=>s e.symm)⟩
  ·show(match H.get p with
    |some (.bS 81 2 [[.nilPtr,b]])=>if b.one=X then D (aa.tuple [],H.set p (.bS 81 2 [[.ptr p 0 0,b]]))else Z
    |some (.bS 81 2 [[.ptr l' 0 0,_]])=>if l'=p then D (aa.tuple [],H)else Z
    |_=>Z)=_
   rw[d];simp only
   rw[if_pos c.one]
  ·rcases c with c|⟨i,j,k⟩
   ·exact .inl c
   ·exact .inr ⟨i,j,by rw[ad.get_set_other (n i)];exact k⟩
 ·refine⟨b,H,lD ?_,rfl,d,c,λ_ _=>rfl⟩;show(match H.get p with
   |some (.bS 81 2 [[.nilPtr,b]])=>if b.one=X then D (aa.tuple [],H.set p (.bS 81 2 [[.ptr p 0 0,b]]))else Z
   |some (.bS 81 2 [[.ptr l' 0 0,_]])=>if l'=p then D (aa.tuple [],H)else Z
   |_=>Z)=_
  rw[d];simp only
  rw[if_pos trivial]
def Fj{H:ad}{p m:Nat}{acc s:aB}(h:fG H p m acc)(u:acc.length+s.length<=10000000000000):W (aA P aw 57 [.ptr p 0 0,Y s] H) λ_ H'=>∃m',fG H' p m' (acc++s)/\cF p m H m' H':=by
 have o:=h.1;have B:=h.2.1;obtain⟨b,H1,k,F,g1,y,z⟩:=yr h;obtain⟨G,a,m',n,i,hm,n2,w⟩:=Gt y u;have E:=i.one;have c:a.get p=D (.bS 81 2 [[.ptr p 0 0,b]]):=by rw[w p af ((Decidable.em (acc=[])).elim .inr λh=> .inl (o h))];exact g1
 have x:=ad.aR c;have j:H.next<=H1.next:=af
 refine cA (λ_=>Kx 0) ?_;rw[sO];have fin:∀cj,js a m' (acc++s) cj->∃m',fG (a.set p (.bS 81 2 [[.ptr p 0 0,cj]])) p m' (acc++s)/\cF p m H m' (a.set p (.bS 81 2 [[.ptr p 0 0,cj]])):=by
  intro cj d;have v:acc++s≠[]->p≠m':=by
   intro h;rcases hm with⟨rfl,rfl⟩|hm
   ·rw[List.append_nil]at h;exact o h
   ·omega
  refine⟨m',⟨v,by simpa using x,.ptr p 0 0,cj,ad.get_set_same x,.inr rfl,?_⟩,af,by simp only[ad.di];omega,λl u az=> ?_⟩
  ·rcases d with d|⟨gm,aZ,A⟩
   ·exact .inl d
   ·exact .inr ⟨gm,aZ,by rw[ad.get_set_other (v gm)];exact A⟩
  ·simp only[not_or]at az;rw[ad.get_set_other (λe=>az.1 e.symm),w l af (.inl az.2),z l az.1]
 have q:=i;rcases i with⟨_,rfl⟩|⟨_,rfl,_⟩
 ·simp-implicitDefEqProofs(disch:=try exact aj)only[reduceAdd,reduceLeDiff,reduceIte,av,k,eK,j,g1,n,n2,c];exact a_.2 (fin _ q)
 ·simp-implicitDefEqProofs(disch:=try exact aj)only[reduceAdd,reduceLeDiff,reduceIte,av,k,eK,j,g1,n,n2,c];exact a_.2 (fin _ q)
def MU(l:Nat)(c:Int):bU P l 77 1 [(0,I .u8 c)]=D (.ay l 0 1 1 (D 1),.row U 1 [[I .u8 c]]):=ah
def NG{H:ad}{p m:Nat}{acc:aB}{c:UInt8}(h:fG H p m acc)(w:acc≠[])(y:acc.length<=10000000000000):W (aA P aw 58 [.ptr p 0 0,I .u8 c.toNat] H) λ_ H'=>∃m',fG H' p m' (acc++[c])/\cF p m H m' H':=by
 have E:=h.1 w;have K:=h.2.1;obtain⟨b,H1,u,M,g1,i,G⟩:=yr h;have B:=aM.push H1 (.row U 1 [[I .u8 c.toNat]]);have F:js (H1.push (.row U 1 [[I .u8 c.toNat]])) m acc b:=by
  rcases i with i|⟨gm,aZ,o⟩
  ·exact .inl i
  ·exact .inr ⟨gm,aZ,B.get o⟩
 obtain⟨N,a,m',v,k,hm,n2,n⟩:=Gu (c:=c) F w y (ad.bx H1 _);simp only[ad.bQ]at hm n2 n;have L:=k.one;have d:a.get p=D (.bS 81 2 [[.ptr p 0 0,b]]):=by rw[n p af E];exact B.get g1
 have A:=ad.aR d;have q:H.next<=H1.next:=af
 have s:(H1.push (.row U 1 [[I .u8 c.toNat]])).next<=a.next:=by simp only[ad.bQ];omega
 have z:=MU H1.next c.toNat
 refine cA (λ_=>Ky 0) ?_;rw[sP];have fin:∀cj,js a m' (acc++[c]) cj->∃m',fG (a.set p (.bS 81 2 [[.ptr p 0 0,cj]])) p m' (acc++[c])/\cF p m H m' (a.set p (.bS 81 2 [[.ptr p 0 0,cj]])):=by
  intro cj j;refine⟨m',⟨λ_=>af,by simpa using A,.ptr p 0 0,cj,ad.get_set_same A,.inr rfl,?_⟩,af,by simp only[ad.di];omega,λl y az=> ?_⟩
  ·rcases j with j|⟨gm,aZ,o⟩
   ·exact .inl j
   ·exact .inr ⟨gm,aZ,by rw[ad.get_set_other af];exact o⟩
  ·simp only[not_or]at az;rw[ad.get_set_other (λe=>az.1 e.symm),n l af az.2,ad.dp af,G l az.1]
 have x:=k;rcases k with⟨_,rfl⟩|⟨_,rfl,_⟩
 ·simp-implicitDefEqProofs(disch:=try exact aj)only[reduceAdd,reduceLeDiff,reduceIte,av,u,eK,q,g1,z,v,s,d];exact a_.2 (fin _ x)
 ·simp-implicitDefEqProofs(disch:=try exact aj)only[reduceAdd,reduceLeDiff,reduceIte,av,u,eK,q,g1,z,v,s,d];exact a_.2 (fin _ x)
def Cz:∀n:Nat,(List.replicate n ([32,32]:aB)).flatten=pad n
 |0=>rfl
 |n+1=>by
  rw[List.replicate_succ,List.flatten_cons,Cz n];unfold pad;rw[show 2*(n+1)=2*n+1+1 by omega,List.replicate_succ,List.replicate_succ];rfl
def fG.lt{H:ad}{p m:Nat}{acc:aB}(h:fG H p m acc):p<H.next:=h.2.1
section
variable {N:Nat}{H:ad}{p m k:Nat}{acc:aB}{parts:List aB}{cap:Option Nat}{ro:Bool}
def BU(u:H.get k=D (.row ro 1 (parts.map λs=>[Y s])))(A:k≠p)(z:k≠m)(x:acc++parts.flatten≠[])(w:parts.length<=1000)(v:acc.length+parts.flatten.length<=10000000000000):∀(rest:List aB) (j n:Nat) (done:List aB) (m1:Nat) (H1:ad),parts=done++rest->done.length=j->rest.length<n->fG H1 p m1 (acc++done.flatten)->cF p m H m1 H1->
  W (lX (aA P aw) N n (.ptr p 0 0) (.ay k 0 parts.length 1 cap) (I J parts.length) (I J j) H1) λ_ H'=>∃m',fG H' p m' (acc++(parts.flatten++[10]))/\cF p m H m' H'
 |_,_,0,_,_,_,_,_,w,_,_=>af
 |[],j,n+1,done,m1,H1,aF,o,y,h,hw=>by
  rw[List.append_nil]at aF;subst aF;have i:¬((j:Int)<(parts.length:Int)):=af;have l:=NG (c:=10) h x (by rw[List.length_append];omega);have B:(((10:UInt8).toNat:Nat):Int)=10:=rfl;rw[B]at l;simp-implicitDefEqProofs(disch:=try exact aj)only[lX,qP,oW,reduceAdd,reduceLeDiff,reduceIte,av,i,decide_false];refine aL l ?_;rintro _ d ⟨m2,e,a⟩;refine⟨a.next,a_.2 ⟨m2,?_,hw.trans a⟩⟩;rw[<-List.append_assoc];exact e
 |s::rest,j,n+1,done,m1,H1,aF,o,y,h,hw=>by
  simp only[List.length_cons]at y;have Q:parts.length=done.length+(rest.length+1):=by rw[aF,List.length_append,List.length_cons]
  have i:(j:Int)<(parts.length:Int):=af;have F:(0:Int)<=(j:Int):=af;have L:((j:Int)).toNat=j:=af;have O:IntKind.i64.wrap ((j:Int)+1)=((j+1:Nat):Int):=by rw[wrap_i64 af af];omega
  have E:=hw.get u A z;have aZ:(parts.map λs=>[aa.str s])[0+j]? =D [Y s]:=by
   rw[Nat.zero_add,List.getElem?_map,aF,List.getElem?_append_right af,show j-done.length=0 by omega];rfl
  have M:(parts.map λs=>[aa.str s])[j]? =D [Y s]:=by rw[Nat.zero_add]at aZ;exact aZ
  have q:parts.flatten=done.flatten++(s++rest.flatten):=by rw[aF];simp
  rw[q]at v;simp only[List.length_append]at v;have G:=Fj (s:=s) h (by rw[List.length_append];omega);simp-implicitDefEqProofs(disch:=try exact aj)only[lX,qP,reduceAdd,reduceLeDiff,reduceIte,av,i,decide_true,F,L,E,aZ,M];refine aL G ?_;rintro _ d ⟨m2,e,a⟩;refine⟨a.next,?_⟩;simp-implicitDefEqProofs(disch:=try exact aj)only[bd,br,c7,O];have K:fG d p m2 (acc++(done++[s]).flatten):=by
   rw[List.flatten_append,<-List.append_assoc];simpa using e
  exact BU u A z x w (by rw[q];simp only[List.length_append];omega) rest (j+1) n (done++[s]) m2 d (by rw[aF,List.append_assoc];rfl) (by rw[List.length_append,o];rfl) af K (hw.trans a)
def IM{deep:Nat}{z:Int}(w:z=deep)(l:fG H p m acc)(c:H.get k=D (.row ro 1 (parts.map λs=>[Y s])))(d:k≠p)(x:k≠m)(q:parts.flatten≠[])(o:parts.length<=1000)(B:deep<=1000)(E:acc.length+parts.flatten.length<=1000000000000){n:Nat}(u:n=parts.length):
  W (aA P aw 29 [.ptr p 0 0,I J z,.ay k 0 n 1 cap] H) λ_ H'=>∃m',fG H' p m' (acc++(pad deep++(parts.flatten++[10])))/\cF p m H m' H':=by
 subst w;subst u;refine cA (λ_=>Kg (parts.length+1)) ?_;have i:aA P aw 54 [Y [32,32],I J deep] H=D (Y (pad deep),H):=by
  rw[<-Cz];exact vL (by simp only[List.length_cons,List.length_nil];omega) af
 have F:=hx deep;have j:=Fj (s:=pad deep) l af;rw[sB];simp-implicitDefEqProofs(disch:=try exact aj)only[reduceAdd,reduceLeDiff,reduceIte,av,i,eK,bf];refine aL j ?_;rintro _ e ⟨m2,h,a⟩;refine⟨a.next,?_⟩;simp-implicitDefEqProofs(disch:=try exact aj)only[reduceAdd,reduceLeDiff,reduceIte,av];have G:=ad.aR c;have y:k≠m2:=by have:=a.1;omega
 refine(BU (N:=parts.length+1) (acc:=acc++pad deep) (a.get c d x) d y (by simp[q]) o (by rw[List.length_append];omega) parts 0 (parts.length+1) [] m2 e rfl rfl af (by simpa using h) (cF.aK (.refl _))).mono ?_;rintro v H' ⟨m',b3,A⟩;exact⟨m',by rw[List.append_assoc]at b3;exact b3,a.trans A⟩
end
def mj:bM:={kind:=0,pos:=0}
def NQ{H:ad}:W (aA P aw 16 [.agg (bM.cells mj .ar)] H) λr H'=>r= Y []/\aM H H':=by
 have d:∀l,dT l (.agg (bM.cells mj .ar))=D (.ptr l 0 0,.row U 11 [bM.cells mj .ar]):=λl=>hr l _ rfl
 have pp:=aM.push H (.row U 11 [bM.cells mj .ar]);have dh:=ad.bx H (.row U 11 [bM.cells mj .ar]);have e:=Ba (H:=H.push (.row U 11 [bM.cells mj .ar])) (ok:=λ_=>True) (ks:=[]) (kv:= .ar) (.inl ⟨rfl,rfl⟩) (by simp);refine cA (λ_=>Ds 0) ?_;simp only[bM.cells,mj]at d pp dh e ⊢;rw[qO];simp-implicitDefEqProofs(disch:=try exact aj)only[reduceAdd,reduceLeDiff,reduceIte,av,d];refine aL e ?_;rintro _ k ⟨b,i,rfl,bE,-,h⟩;refine⟨h.1,?_⟩;have a:=h.bs (.row U 11 [b.cells i]);have c:=a.get dh;simp only[bM.cells]at a c;have s0:∀H,aA P aw 46 [I J 0] H=D (Y [],H):=λH=>vU 0 rfl
 have j:an P .neq 9 X (Y []) (Y [])=D (.bool U):=rfl;simp-implicitDefEqProofs(disch:=try exact aj)only[reduceAdd,reduceLeDiff,reduceIte,av,bE,c,Int.reduceBEq,k0,lV,s0,eK,bf,j];exact a_.2 ⟨rfl,pp.trans a⟩
def iI(ks:List aJ)(j:Nat):aB:=match ks[j]? with
 |some e=>flat (bl e)
 |none=>[]
def yJ{H:ad}{ok:Nat->Prop}{ks:List aJ}{kv:aa}(h:b7 H ok ks kv)(F:ks.length<=1000000000)(hw:∀e∈ks,∃d,cv d 0 e)(u:∀e∈ks,cL e<=1000000000)(x:e2.hJ H)(j:Nat){z:Int}(B:z=j):
  W (aA P aw 41 [kv,I J z] H) λv H1=>∃cs,v= .agg cs/\aM H H1/\∀c,aM H1 c->W (aA P aw 16 [.agg cs] c) λr q=>r= Y (iI ks j)/\aM c q:=by
 subst B;by_cases k:j<ks.length
 ·obtain⟨e,he⟩:∃e,ks[j]? =D e:=⟨ks[j],List.getElem?_eq_getElem k⟩;obtain⟨a,es⟩:=e;obtain⟨l,i,cap,ro,els,E,rfl,g1,aZ,m⟩:=h.jd (n:=ks.length) rfl he;refine(rO rfl k m.ee g1 aZ).mono ?_;rintro v H1 ⟨rfl,p⟩;have hm:=List.mem_of_getElem? he;obtain⟨d,y⟩:=hw _ hm;refine⟨_,rfl,p,λc o=> ?_⟩;have:=bH _ d 0 y (u _ hm) a es rfl c ok E (m.aK (p.trans o)) (x.aK (p.trans o));unfold iI;rw[he];exact this
 ·have A:iI ks j=[]:=by unfold iI;rw[List.getElem?_eq_none af]
  rw[A];refine cA (λ_=>vT 0) ?_;have w:=λH'=>h.pU H'
  have s:(ks.length:Int)<=(j:Int):=af;unfold o1;simp-implicitDefEqProofs(disch:=try exact aj)only[reduceAdd,reduceLeDiff,reduceIte,av,w,s,decide_true];exact a_.2 ⟨bM.cells mj .ar,rfl,aM.push _ _,λc _=>NQ⟩
def DR(l:Nat)(a b c d e:aB):bU P l 50 5 [(0,Y a),(1,Y b),(2,Y c),(3,Y d),(4,Y e)]=D (.ay l 0 5 1 (D 5),.row U 1 [[Y a],[Y b],[Y c],[Y d],[Y e]]):=ah
def MR(l:Nat)(a b c d e f g:aB):bU P l 50 7 [(0,Y a),(1,Y b),(2,Y c),(3,Y d),(4,Y e),(5,Y f),(6,Y g)]=D (.ay l 0 7 1 (D 7),.row U 1 [[Y a],[Y b],[Y c],[Y d],[Y e],[Y f],[Y g]]):=ah
def wi(l:Nat)(a b c d:aB):bU P l 50 4 [(0,Y a),(1,Y b),(2,Y c),(3,Y d)]=D (.ay l 0 4 1 (D 4),.row U 1 [[Y a],[Y b],[Y c],[Y d]]):=ah
def qZ(l:Nat)(a b c:aB):bU P l 50 3 [(0,Y a),(1,Y b),(2,Y c)]=D (.ay l 0 3 1 (D 3),.row U 1 [[Y a],[Y b],[Y c]]):=ah
def MQ(l:Nat)(a b:aB):bU P l 50 2 [(0,Y a),(1,Y b)]=D (.ay l 0 2 1 (D 2),.row U 1 [[Y a],[Y b]]):=ah
def IN{H:ad}{p m:Nat}{acc:aB}{deep:Nat}{z:Int}(w:z=deep)(e:fG H p m acc)(hm:m<H.next)(parts:List aB)(q:parts.flatten≠[])(o:parts.length<=1000)(k:deep<=1000)(l:acc.length+parts.flatten.length<=1000000000000){n:Nat}{cap:Option Nat}(u:n=parts.length){ae:List (List aa)}(j:ae=parts.map λs=>[Y s]):
  W (aA P aw 29 [.ptr p 0 0,I J z,.ay H.next 0 n 1 cap] (H.push (.row U 1 ae))) λ_ H'=>∃m',fG H' p m' (acc++(pad deep++(parts.flatten++[10])))/\cF p m H m' H'/\m'<H'.next/\H.next+1<=H'.next:=by
 subst j;have h:=aM.push H (.row U 1 (parts.map λs=>[Y s]));have:=e.lt;refine(IM w (e.aK h) (ad.bx H _) af af q o k l u).mono ?_;rintro v H' ⟨m',d,i⟩;refine⟨m',d,(cF.aK h).trans i,?_,by have:=i.next;simpa only[ad.bQ]using this⟩;obtain⟨_,_,a,b,_,_,c⟩:=d;rcases c with⟨c,_⟩|⟨_,_,c⟩
 ·simp at c
 ·exact ad.aR c
structure eM(n0 p m:Nat)(H:ad)(acc:aB):Prop where
 pos:0<n0
 aF:n0<=p
 hm:n0<=m
 lm:m<H.next
 iF:fG H p m acc
 kO:e2.hJ H
def cF.kO{n0 p m m':Nat}{H H':ad}(w:cF p m H m' H')(a:0<n0)(aF:n0<=p)(hm:n0<=m)(g:e2.hJ H):e2.hJ H':=⟨w.get g.sZ af af⟩
def cF.aY{n0 p m m':Nat}{H H':ad}{ok:Nat->Prop}(w:cF p m H m' H')(aF:n0<=p)(hm:n0<=m)(c:∀l,ok l->l<n0):dd H ok H' ok:=dd.mut w.2 λl h a=>by
 have:=c l h;rcases a with a|a<;>omega
def eM.aK{n0 p m:Nat}{H H':ad}{acc:aB}(h:eM n0 p m H acc)(q:aM H H'):eM n0 p m H' acc:=⟨h.pos,h.aF,h.hm,Nat.lt_of_lt_of_le h.lm q.1,h.iF.aK q,h.kO.aK q⟩
section
variable {n0 p m:Nat}{H:ad}{acc:aB}
def gk(h:eM n0 p m H acc){deep:Nat}{z:Int}(q:z=deep)(parts:List aB)(k:parts.flatten≠[])(j:parts.length<=1000)(e:deep<=1000)(i:acc.length+parts.flatten.length<=1000000000000){n:Nat}{cap:Option Nat}(l:n=parts.length){ae:List (List aa)}(d:ae=parts.map λs=>[Y s]){t:aB}(o:t=pad deep++(parts.flatten++[10])):
  W (aA P aw 29 [.ptr p 0 0,I J z,.ay H.next 0 n 1 cap] (H.push (.row U 1 ae))) λ_ H'=>(H.push (.row U 1 ae)).next<=H'.next/\∃m',eM n0 p m' H' (acc++t)/\cF p m H m' H':=by
 subst o;refine(IN q h.iF h.lm parts k j e i l d).mono ?_;rintro v H' ⟨m',c,a,u,n2⟩;have hm:=h.hm;have:=a.1;have:=h.lm;exact⟨by simpa only[ad.bQ]using n2,m',⟨h.pos,h.aF,af,u,c,a.kO h.pos h.aF h.hm h.kO⟩,a⟩
end
def jZ(b:List bB):Prop:=∀(d deep:Nat),(∀s∈b,ed d s)->deep+d<=51->dv b<=1000000000->∀(H:ad) (ok:Nat->Prop) (v:aa) (z:Int) (n0 p m:Nat) (acc:aB),z=deep->c1 H ok b v->(∀l,ok l->l<n0)->eM n0 p m H acc->acc.length+dv b<=500000000000->W (aA P aw 31 [.ptr p 0 0,I J z,v] H) λ_ H'=>∃m',eM n0 p m' H' (acc++flat (cJ deep b))/\cF p m H m' H'
def G3(a:bZ)(b6 bv c:aa)(d:b6.one=X)(e:bv.one=X)(h:c.one=X)(l:Nat):dT l (.agg (a.cells b6 bv c))=D (.ptr l 0 0,.row U 9 [a.cells b6 bv c]):=
 hr l _ (by simp only[bZ.cells,List.all_cons,List.all_nil,gO,hA,d,e,h,Bool.and_self])
def MY{a:bZ}{ks:List aJ}{b c:List bB}(a7:jZ b)(bM:jZ c){d deep:Nat}(aq:ed d (.mk a ks b c))(bt:deep+d<=51)(hle:ea (.mk a ks b c)<=1000000000){H:ad}{ok:Nat->Prop}{b6 bv V:aa}{n0 p m:Nat}{acc:aB}{z:Int}(bG:z=deep)(v1:b7 H ok ks b6)(v2:c1 H ok b bv)(v3:c1 H ok c V)(M:∀l,ok l->l<n0)(ai:eM n0 p m H acc)(bp:acc.length+ea (.mk a ks b c)<=500000000000):
  W (aA P aw 60 [.ptr p 0 0,I J z,.agg (a.cells b6 bv V)] H) λ_ H'=>∃m',eM n0 p m' H' (acc++flat (gx deep (.mk a ks b c)))/\cF p m H m' H':=by
 subst bG;have hlen:=u6 aq deep bt;have bW:=hx deep;have bC:bY ks+dv b+dv c+400<=ea (.mk a ks b c):=by rw[ea];omega
 have bE:=v1.ee;have bX:=v2.ee;have ck:=v3.ee;have aP:=G3 a b6 bv V bE bX ck;have pp:=aM.push H (.row U 9 [a.cells b6 bv V]);have dh:=ad.bx H (.row U 9 [a.cells b6 bv V]);have n:∀e∈ks,∃d,cv d 0 e:=by
  intro e he;cases aq<;>simp only[List.mem_cons,List.not_mem_nil,or_false]at he<;>first|exact he.elim|(subst he;exact⟨_,by assumption⟩)|(rcases he with rfl|rfl<;>exact⟨_,by assumption⟩)
 have bF:=qh ks;have a3:∀e∈ks,cL e<=1000000000:=by
  intro e he;have:cL e<=bY ks:=by
   clear bF n hlen bC hle bp aq v1
   induction ks with
   |nil=>cases he
   |cons k r bI=>
    rw[bY];rcases List.mem_cons.1 he with rfl|he
    ·omega
    ·have:=bI he;omega
  omega
 have a1:ks.length<=1000000000:=af;have aZ:=λ(H':ad) (q:aM H H')=>yJ (v1.aK q) a1 n a3 (ai.kO.aK q) 0 (z:=0) rfl
 have a0:=λ(H':ad) (q:aM H H')=>yJ (v1.aK q) a1 n a3 (ai.kO.aK q) 1 (z:=1) rfl
 have a8:=JF v1.beq;refine cA (λ_=>Kz 0) ?_;simp only[bZ.cells]at aP pp dh ⊢;rw[sQ];simp-implicitDefEqProofs(disch:=try exact aj)only[reduceAdd,reduceLeDiff,reduceIte,av,aP];refine aL (aZ _ pp) ?_;rintro _ bd ⟨bi,rfl,ax,ag⟩;refine⟨ax.1,?_⟩;refine aL (ag _ (.refl _)) ?_;rintro _ be ⟨rfl,az⟩;refine⟨az.1,?_⟩;have aI:=ax.get dh;have an:=az.get aI;have aU:=(pp.trans ax).trans az;simp-implicitDefEqProofs(disch:=try exact aj)only[reduceAdd,reduceLeDiff,reduceIte,av,an];refine aL (a0 _ aU) ?_;rintro _ bf ⟨bj,rfl,aC,au⟩;refine⟨aC.1,?_⟩;refine aL (au _ (.refl _)) ?_;rintro _ aG ⟨rfl,aD⟩;refine⟨aD.1,?_⟩;have u:=aD.get (aC.get an)
 have ae:=(aU.trans aC).trans aD;simp-implicitDefEqProofs(disch:=try exact aj)only[reduceAdd,reduceLeDiff,reduceIte,av,dh,aI,an,u,a8];have B:=ai.aK ae;have bP:cF p m H m aG:=cF.aK ae;have a9:=v1.aK ae;have ba:=v2.aK ae;have bN:=v3.aK ae;have T:H.next≠p/\H.next≠m/\H.next<aG.next:=by
  have:=ai.lm;have:=ai.iF.lt;have:=ad.aR u;omega
 generalize H.next=y at u T ⊢
 clear aZ a0 ag au ax az aC aD aU ae dh aI an pp aP a8 v1 v2 v3;clear bd be bf bi bj;obtain⟨T,bc,b0⟩:=T;have aV:IntKind.i64.wrap ((deep:Int)+1)=((deep+1:Nat):Int):=by rw[wrap_i64 af af];omega
 have a2:gx deep (.mk a ks b c)= .b (pad deep)::(hU a ks (cJ (deep+1) b) c.isEmpty (cJ (deep+1) c) (pad deep)++[nl]):=by rw[gx]
 have aT:flat (gx deep (.mk a ks b c))=pad deep++(flat (hU a ks (cJ (deep+1) b) c.isEmpty (cJ (deep+1) c) (pad deep))++[10]):=by rw[a2,uq,c2,mH,cY];rfl
 have N:∀{e:aJ} {r:List aJ},ks=e::r->cL e<=bY ks:=by intro e r h;rw[h,bY];omega
 have bu:∀{e f:aJ} {r:List aJ},ks=e::f::r->cL e+cL f<=bY ks:=by intro e f r h;rw[h,bY,bY];omega
 rw[aT];clear a2 aT;have fin:∀(t:aB) (A:ad) (m7:Nat),eM n0 p m7 A (acc++t)->cF p m aG m7 A->t=pad deep++(flat (hU a ks (cJ (deep+1) b) c.isEmpty (cJ (deep+1) c) (pad deep))++[10])->∃m',eM n0 p m' A (acc++(pad deep++(flat (hU a ks (cJ (deep+1) b) c.isEmpty (cJ (deep+1) c) (pad deep))++[10])))/\cF p m H m' A:=λt A m7 k w e=>⟨m7,by rw[<-e];exact k,bP.trans w⟩
 have ac:∀x y:aB,acc++(x++y)=acc++x++y:=λx y=>(List.append_assoc _ _ _).symm
 clear n;cases aq with
 | @var d x o z G al F=>
  have a5:=eN al;have bz:=fs F;have bH:=F.2.1;have bA:=hS o z;simp-implicitDefEqProofs(disch:=try exact aj)only[reduceAdd,reduceLeDiff,reduceIte,av,u,Int.reduceBEq];refine aL (type20 F.1 F.2.1 af) ?_;rintro _ bg ⟨rfl,K⟩;refine⟨K.1,?_⟩;have ah:=K.get u;simp-implicitDefEqProofs(disch:=try exact aj)only[reduceAdd,reduceLeDiff,reduceIte,av,ah,DR];refine aL (gk (B.aK K) rfl [[118,97,114,32],x,[58,32],flat (ca o z),[59]] (by simp) (by simp) af (by simp only[List.flatten_cons,List.flatten_nil,List.length_append,List.length_cons,List.length_nil];omega) rfl rfl rfl) ?_;rintro _ A ⟨v,m7,j,i⟩;refine⟨v,?_⟩
  simp-implicitDefEqProofs(disch:=try exact aj)only[reduceAdd,reduceLeDiff,reduceIte,av,u,ah];refine a_.2 (fin _ _ _ j ((cF.aK K).trans i) ?_);show _=pad deep++(flat (wd pr::ct::(jK x o z++[bK [59]]))++[10]);rw[gL,dY,uu,cT,cY];simp[pr]
 | @lets d x o z G e al F n=>
  have a5:=eN al;have bz:=fs F;have bH:=F.2.1;have bA:=hS o z;have O:=gN n;have Q:=N rfl;have E:iI [e] 0=flat (bl e):=rfl;simp-implicitDefEqProofs(disch:=try exact aj)only[reduceAdd,reduceLeDiff,reduceIte,av,u,Int.reduceBEq];refine aL (type20 F.1 F.2.1 af) ?_;rintro _ bg ⟨rfl,K⟩;refine⟨K.1,?_⟩;have ah:=K.get u;simp-implicitDefEqProofs(disch:=try exact aj)only[reduceAdd,reduceLeDiff,reduceIte,av,ah,MR,E];refine aL (gk (B.aK K) rfl [[108,101,116,32],x,[58,32],flat (ca o z),[32,61,32],flat (bl e),[59]] (by simp) (by simp) af (by simp only[List.flatten_cons,List.flatten_nil,List.length_append,List.length_cons,List.length_nil];omega) rfl rfl rfl) ?_
  rintro _ A ⟨v,m7,j,i⟩;refine⟨v,?_⟩;simp-implicitDefEqProofs(disch:=try exact aj)only[reduceAdd,reduceLeDiff,reduceIte,av,u,ah];refine a_.2 (fin _ _ _ j ((cF.aK K).trans i) ?_);show _=pad deep++(flat (wd pn::ct::(jK x o z++ct::bK [61]::ct::(bl e++[bK [59]])))++[10]);rw[gL,dY,uu,dY,cT,dY,c2,cT,cY];simp[pn]
 | @set d x G e al n=>
  have a5:=eN al;have O:=gN n;have Q:=N rfl;have E:iI [e] 0=flat (bl e):=rfl;simp-implicitDefEqProofs(disch:=try exact aj)only[reduceAdd,reduceLeDiff,reduceIte,av,u,Int.reduceBEq,wi,E];refine aL (gk (B) rfl [x,[32,61,32],flat (bl e),[59]] (by simp) (by simp) af (by simp only[List.flatten_cons,List.flatten_nil,List.length_append,List.length_cons,List.length_nil];omega) rfl rfl rfl) ?_;rintro _ A ⟨v,m7,j,i⟩;refine⟨v,?_⟩;refine a_.2 (fin _ _ _ j i ?_);show _=pad deep++(flat (cc x::ct::bK [61]::ct::(bl e++[bK [59]]))++[10]);rw[iK,dY,cT,dY,c2,cT,cY];simp
 | @put d G e f bw n bD=>
  have Q:=bu rfl;have O:=gN n;have aT:=gN bD;have E:iI [e,f] 0=flat (bl e):=rfl;have bn:iI [e,f] 1=flat (bl f):=rfl;simp-implicitDefEqProofs(disch:=try exact aj)only[reduceAdd,reduceLeDiff,reduceIte,av,u,Int.reduceBEq,wi,E,bn];refine aL (gk (B) rfl [flat (bl e),[32,61,32],flat (bl f),[59]] (by simp) (by simp) af (by simp only[List.flatten_cons,List.flatten_nil,List.length_append,List.length_cons,List.length_nil];omega) rfl rfl rfl) ?_;rintro _ A ⟨v,m7,j,i⟩;refine⟨v,?_⟩;refine a_.2 (fin _ _ _ j i ?_);show _=pad deep++(flat (bl e++ct::bK [61]::ct::(bl f++[bK [59]]))++[10]);rw[c2,dY,cT,dY,c2,cT,cY]
  simp
 | @ifs d G e b c n ak a4=>
  have Q:=N rfl;have O:=gN n;have bq:=qf (deep:=deep+1) ak af;have bV:=qf (deep:=deep+1) a4 af;have E:iI [e] 0=flat (bl e):=rfl;simp-implicitDefEqProofs(disch:=try exact aj)only[reduceAdd,reduceLeDiff,reduceIte,av,u,Int.reduceBEq,qZ,E];refine aL (gk (B) rfl [[105,102,32],flat (bl e),[32,123]] (by simp) (by simp) af (by simp only[List.flatten_cons,List.flatten_nil,List.length_append,List.length_cons,List.length_nil];omega) rfl rfl rfl) ?_;rintro _ A ⟨v,m7,j,i⟩;refine⟨v,?_⟩;have ao:=i.get u T bc;have bQ:y≠m7:=by have:=i.1;omega
  have aH:=(ba.aY (i.aY B.aF B.hm M).s);have bm:=(bN.aY (i.aY B.aF B.hm M).s);simp-implicitDefEqProofs(disch:=try exact aj)only[reduceAdd,reduceLeDiff,reduceIte,av,ao,aV];refine aL (a7 d (deep+1) ak af af A ok bv _ n0 p m7 _ rfl aH M j (by simp only[List.flatten_cons,List.flatten_nil,List.length_append,List.length_cons,List.length_nil];omega)) ?_;rintro _ bh ⟨m8,ab,L⟩;refine⟨L.next,?_⟩;have aN:=L.get ao T bQ;have bR:y≠m8:=by have:=L.1;have:=i.next;omega
  have aW:=(bm.aY (L.aY j.aF j.hm M).s);have aS:=aW.ua;by_cases aQ:c=[]
  ·subst aQ;have aX:¬((0:Int)<((0:Nat):Int)):=af;simp only[List.length_nil]at aS;simp-implicitDefEqProofs(disch:=try exact aj)only[reduceAdd,reduceLeDiff,reduceIte,av,aN,aS,aX,decide_false,nz];refine aL (gk (ab) rfl [[125]] (by simp) (by simp) af (by simp only[List.flatten_cons,List.flatten_nil,List.length_append,List.length_cons,List.length_nil];omega) rfl rfl rfl) ?_;rintro _ aE ⟨am,m10,R,S⟩;refine⟨am,?_⟩;rw[List.append_assoc,List.append_assoc]at R;refine a_.2 (fin _ _ _ R ((i.trans L).trans S) ?_);show _=pad deep++(flat (wd ll::ct::(bl e++(hT (pad deep) (cJ (deep+1) b)++[])))++[10]);rw[gL,dY,c2,p0,cY]
   simp[ll]
  ·have bs:(0:Int)<(c.length:Int):=by have:=List.length_pos_iff.2 aQ;omega
   have br:c.isEmpty=false:=by cases c<;>first|exact absurd rfl aQ|rfl
   simp-implicitDefEqProofs(disch:=try exact aj)only[reduceAdd,reduceLeDiff,reduceIte,av,aN,aS,bs,decide_true];refine aL (gk (ab) rfl [[125,32,101,108,115,101,32,123]] (by simp) (by simp) af (by simp only[List.flatten_cons,List.flatten_nil,List.length_append,List.length_cons,List.length_nil];omega) rfl rfl rfl) ?_;rintro _ aE ⟨am,m10,R,S⟩;refine⟨am,?_⟩;have bo:=S.get aN T bR;have bk:=(aW.aY (S.aY ab.aF ab.hm M).s);simp-implicitDefEqProofs(disch:=try exact aj)only[reduceAdd,reduceLeDiff,reduceIte,av,bo,aV];refine aL (bM d (deep+1) a4 af af aE ok V _ n0 p m10 _ rfl bk M R (by simp only[List.flatten_cons,List.flatten_nil,List.length_append,List.length_cons,List.length_nil];omega)) ?_
   rintro _ bT ⟨m11,bJ,bb⟩;refine⟨bb.next,?_⟩;simp-implicitDefEqProofs(disch:=try exact aj)only[reduceAdd,reduceLeDiff,reduceIte,av,nz];refine aL (gk (bJ) rfl [[125]] (by simp) (by simp) af (by simp only[List.flatten_cons,List.flatten_nil,List.length_append,List.length_cons,List.length_nil];omega) rfl rfl rfl) ?_;rintro _ bU ⟨bL,m12,a6,bO⟩;refine⟨bL,?_⟩;rw[List.append_assoc,List.append_assoc,List.append_assoc,List.append_assoc]at a6;refine a_.2 (fin _ _ _ a6 ((((i.trans L).trans S).trans bb).trans bO) ?_);show _=pad deep++(flat (wd ll::ct::(bl e++(hT (pad deep) (cJ (deep+1) b)++bif c.isEmpty then[]else ct::wd q8::hT (pad deep) (cJ (deep+1) c))))++[10])
   have:=p0 (pad deep) (cJ (deep+1) c) [];rw[List.append_nil,cY]at this;rw[br,aO,gL,dY,c2,p0,dY,gL,this];simp[ll,q8]
 | @«while» d G e b n ak=>
  have Q:=N rfl;have O:=gN n;have bq:=qf (deep:=deep+1) ak af;have E:iI [e] 0=flat (bl e):=rfl;simp-implicitDefEqProofs(disch:=try exact aj)only[reduceAdd,reduceLeDiff,reduceIte,av,u,Int.reduceBEq,qZ,E];refine aL (gk (B) rfl [[119,104,105,108,101,32],flat (bl e),[32,123]] (by simp) (by simp) af (by simp only[List.flatten_cons,List.flatten_nil,List.length_append,List.length_cons,List.length_nil];omega) rfl rfl rfl) ?_;rintro _ A ⟨v,m7,j,i⟩;refine⟨v,?_⟩;have ao:=i.get u T bc;have aH:=(ba.aY (i.aY B.aF B.hm M).s);simp-implicitDefEqProofs(disch:=try exact aj)only[reduceAdd,reduceLeDiff,reduceIte,av,ao,aV]
  refine aL (a7 d (deep+1) ak af af A ok bv _ n0 p m7 _ rfl aH M j (by simp only[List.flatten_cons,List.flatten_nil,List.length_append,List.length_cons,List.length_nil];omega)) ?_;rintro _ bh ⟨m8,ab,L⟩;refine⟨L.next,?_⟩;simp-implicitDefEqProofs(disch:=try exact aj)only[reduceAdd,reduceLeDiff,reduceIte,av];refine aL (gk (ab) rfl [[125]] (by simp) (by simp) af (by simp only[List.flatten_cons,List.flatten_nil,List.length_append,List.length_cons,List.length_nil];omega) rfl rfl rfl) ?_;rintro _ aE ⟨am,m10,R,S⟩;refine⟨am,?_⟩;rw[List.append_assoc,List.append_assoc]at R;refine a_.2 (fin _ _ _ R ((i.trans L).trans S) ?_)
  show _=pad deep++(flat (wd ps::ct::(bl e++hT (pad deep) (cJ (deep+1) b)))++[10]);have:=p0 (pad deep) (cJ (deep+1) b) [];rw[List.append_nil,cY]at this;rw[gL,dY,c2,this];simp[ps]
 | @m_ d G=>
  have ap:=a9.pU;have aX:((0:Nat):Int)==0:=rfl;simp only[List.length_nil]at ap;simp-implicitDefEqProofs(disch:=try exact aj)only[reduceAdd,reduceLeDiff,reduceIte,av,u,Int.reduceBEq,ap,Int.natCast_zero];refine aL (gk (B) rfl [[114,101,116,117,114,110,59]] (by simp) (by simp) af (by simp only[List.flatten_cons,List.flatten_nil,List.length_append,List.length_cons,List.length_nil];omega) rfl rfl rfl) ?_;rintro _ A ⟨v,m7,j,i⟩;refine⟨v,?_⟩;refine a_.2 (fin _ _ _ j i ?_);show _=pad deep++(flat (wd mi::[bK [59]])++[10]);rw[gL,cT,cY];simp[mi]
 | @na d G e n=>
  have O:=gN n;have Q:=N rfl;have E:iI [e] 0=flat (bl e):=rfl;have ap:∀H',b4 P H' .len [41] [b6]=D (I J 1):=λH'=>a9.pU H'
  simp-implicitDefEqProofs(disch:=try exact aj)only[reduceAdd,reduceLeDiff,reduceIte,av,u,Int.reduceBEq,ap,qZ,E];refine aL (gk (B) rfl [[114,101,116,117,114,110,32],flat (bl e),[59]] (by simp) (by simp) af (by simp only[List.flatten_cons,List.flatten_nil,List.length_append,List.length_cons,List.length_nil];omega) rfl rfl rfl) ?_;rintro _ A ⟨v,m7,j,i⟩;refine⟨v,?_⟩;refine a_.2 (fin _ _ _ j i ?_);show _=pad deep++(flat (wd mi::(ct::bl e++[bK [59]]))++[10]);rw[gL,List.cons_append,dY,c2,cT,cY];simp[mi]
 | @print d G e n=>
  have O:=gN n;have Q:=N rfl;have E:iI [e] 0=flat (bl e):=rfl;simp-implicitDefEqProofs(disch:=try exact aj)only[reduceAdd,reduceLeDiff,reduceIte,av,u,Int.reduceBEq,qZ,E];refine aL (gk (B) rfl [[112,114,105,110,116,32],flat (bl e),[59]] (by simp) (by simp) af (by simp only[List.flatten_cons,List.flatten_nil,List.length_append,List.length_cons,List.length_nil];omega) rfl rfl rfl) ?_;rintro _ A ⟨v,m7,j,i⟩;refine⟨v,?_⟩;refine a_.2 (fin _ _ _ j i ?_);show _=pad deep++(flat (wd po::ct::(bl e++[bK [59]]))++[10]);rw[gL,dY,c2,cT,cY];simp[po]
 | @call d G e bw n=>
  have O:=gN n;have Q:=N rfl;have E:iI [e] 0=flat (bl e):=rfl;simp-implicitDefEqProofs(disch:=try exact aj)only[reduceAdd,reduceLeDiff,reduceIte,av,u,Int.reduceBEq,MQ,E];refine aL (gk (B) rfl [flat (bl e),[59]] (by simp) (by simp) af (by simp only[List.flatten_cons,List.flatten_nil,List.length_append,List.length_cons,List.length_nil];omega) rfl rfl rfl) ?_;rintro _ A ⟨v,m7,j,i⟩;refine⟨v,?_⟩;refine a_.2 (fin _ _ _ j i ?_);show _=pad deep++(flat (bl e++[bK [59]])++[10]);rw[c2,cT,cY];simp
section
variable {N:Nat}{H0:ad}{L i n:Nat}{cap:Option Nat}{ro:Bool}{els:List (List aa)}{ok:Nat->Prop}{d deep n0 p m0:Nat}{acc:aB}
def BW(o:deep+d<=51)(y:∀l,ok l->l<n0)(B:ok L)(ae:n<=1000000000)(ab:n0<=m0):∀(es:List bB) (j k:Nat) (done:aB) (m:Nat) (H:ad),(∀a ks b c,bB.mk a ks b c∈es->jZ b/\jZ c)->(∀s∈es,ed d s)->H.get L=D (.row ro 9 els)->dz H ok es (els.drop (i+j))->dv es<=1000000000->acc.length+done.length+dv es<=500000000000->n=j+es.length->es.length<k->eM n0 p m H (acc++done)->cF p m0 H0 m H->
  W (k4 (aA P aw) N k (.ptr p 0 0) (I J deep) (.ay L i n 9 cap) (I J n) (I J j) H) λ_ H'=>∃m',eM n0 p m' H' (acc++(done++flat (cJ deep es)))/\cF p m0 H0 m' H'
 |_,_,0,_,_,_,_,_,_,_,_,_,_,x,_,_=>af
 |[],j,k+1,done,m,H,az,hw,q,he,F,E,u,x,e,w=>by
  have v:¬((j:Int)<(n:Int)):=by simp at u;omega
  simp-implicitDefEqProofs(disch:=try exact aj)only[k4,oY,reduceAdd,reduceLeDiff,reduceIte,av,v,decide_false];exact a_.2 ⟨m,by rw[cJ,cY,List.append_nil];exact e,w⟩
 | .mk a ks b c::es,j,k+1,done,m,H,az,hw,q,he,F,E,u,x,e,w=>by
  simp only[List.length_cons]at u x;have v:(j:Int)<(n:Int):=af;have ag:((j:Int)).toNat=j:=af;have V:(0:Int)<=(j:Int):=af;have am:IntKind.i64.wrap ((j:Int)+1)=((j+1:Nat):Int):=by rw[wrap_i64 af af];omega
  obtain⟨cs,aZ,ak,al⟩:=he.cons;obtain⟨b6,bv,S,T,v1,v2,v3⟩:=lp.1 ak;cases T;obtain⟨ah,ai⟩:=az a ks b c (List.mem_cons_self ..);have G:=hw (.mk a ks b c) (List.mem_cons_self ..);have hlen:=u6 G deep o;rw[dv]at F E;have bE:=v1.ee;have bX:=v2.ee;have ck:=v3.ee;have pp:=aM.push H (.row U 9 [a.cells b6 bv S]);have A:=MY ah ai G o af (z:=deep) rfl (v1.aK pp) (v2.aK pp) (v3.aK pp) y (e.aK pp) (by rw[List.length_append];omega);simp only[bZ.cells]at aZ pp A;simp-implicitDefEqProofs(disch:=try exact aj)only[k4,oY,reduceAdd,reduceLeDiff,reduceIte,av,v,decide_true,V,ag,q,aZ,bE,bX,ck];refine aL A ?_;rintro _ R ⟨m2,K,O⟩
  refine⟨O.next,?_⟩;simp-implicitDefEqProofs(disch:=try exact aj)only[bd,br,c7,am];have Q:=(cF.aK (p:=p) (m:=m) pp).trans O;have M:=Q.aY e.aF e.hm y;have g2:=(M L _ B q).2;have aa:flat (cJ deep (.mk a ks b c::es))=flat (gx deep (.mk a ks b c))++flat (cJ deep es):=by rw[cJ,c2]
  rw[List.append_assoc]at K;rw[aa,<-List.append_assoc done];exact BW o y B ae ab es (j+1) k (done++flat (gx deep (.mk a ks b c))) m2 R (λa ks b c h=>az a ks b c (List.mem_cons_of_mem _ h)) (λs h=>hw s (List.mem_cons_of_mem _ h)) g2 (by rw[show i+(j+1)=i+j+1 by omega];exact dz.aY M.s _ _ al) af (by rw[List.length_append];omega) af af K (w.trans Q)
end
def va{es:List bB}(az:∀a ks b c,bB.mk a ks b c∈es->jZ b/\jZ c):jZ es:=by
 intro d deep hw s o H ok v z n0 p m acc e h u j n;subst e;refine cA (λ_=>Ki (es.length+1)) ?_;have q:=h.ua;rw[sD];simp-implicitDefEqProofs(disch:=try exact aj)only[reduceAdd,reduceLeDiff,reduceIte,av,q];by_cases e:es.length=0
 ·obtain rfl:=List.length_eq_zero_iff.1 e;have k:¬((0:Int)<((0:Nat):Int)):=af;simp only[List.length_nil];simp-implicitDefEqProofs(disch:=try exact aj)only[k4,oY,reduceAdd,reduceLeDiff,reduceIte,av,k,decide_false];exact a_.2 ⟨m,by rw[cJ,cY,List.append_nil];exact j,cF.aK (.refl _)⟩
 ·obtain⟨L,i,cap,ro,els,rfl,l,g1,w⟩:=h.row e;have x:=Bx es;exact BW (N:=es.length+1) s u l af j.hm es 0 (es.length+1) [] m H az hw g1 (by rw[Nat.add_zero];exact w) o (by simpa using n) af af (by rw[List.append_nil];exact j) (cF.aK (.refl _))
def tq(e:bB):Prop:=∀(a:bZ) (ks:List aJ) (b c:List bB),e= .mk a ks b c->jZ b/\jZ c
def vA:∀(e:bB),tq e
 | .mk a ks b c=>by
  have i:∀e∈b,tq e:=λe he=>vA e
  have j:∀e∈c,tq e:=λe he=>vA e
  intro bR d cj c' h;cases h;exact⟨va λbR d cj c' h=>i _ h _ _ _ _ rfl,va λbR d cj c' h=>j _ h _ _ _ _ rfl⟩
def GU(es:List bB):jZ es:=va λa ks b c _=>vA (.mk a ks b c) a ks b c rfl
section
set_option maxRecDepth 100000
noncomputable section
def np(G:ax)(N:Nat)(bn:aa)(H:ad):O:=j (an P .add 9 X bn (Y [32,123])) λa=>D (a,H)
def Ls(G:ax)(N:Nat):∀ae H,bm P G N (o (o (o (o (o (bq Tryd.f30)))))) (bh Tryd.f30) [] (bh Tryd.f30) ae H=np G N (ae 6) H:=by
 refine bL (aH _) λae H=> ?_
 delta np;kernel_rfl
def lY(G:ax)(N:Nat)(au l:aa)(H:ad):O:=aG H (G 59 [l,Y [44,32]] H) λm a=>j (aI P 73 au 0) λc=>j (al P a 9 c) λd=>j (an P .add 9 X (Y [102,117,110,99,32]) d) λi=>j (an P .add 9 X i (Y [40])) λk=>j (an P .add 9 U k m) λn=>j (an P .add 9 X n (Y [41])) λe=>bif ((bg (al P H 9 c) d&&bg (al P a 9 c) d)&&X)then(j (aI P 73 au 2) λo=>j (al P a 4 o) λp=>aV (D p) (j (aI P 73 au 3) λq=>j (al P a 40 q) λs=>aG a (G 20 [s] a) λu h=>j (an P .add 9 X (Y [58,32]) u) λv=>j (an P .add 9 U e v) λw=>np G N w h) (np G N e a))else Z
def Lr(G:ax)(N:Nat):∀ae H,bm P G N (o (o (o (bq Tryd.f30)))) (bh Tryd.f30) [] (bh Tryd.f30) ae H=lY G N (ae 1) (ae 3) H:=by
 refine bL ((aN ah ((aN ah (Ls G N) (aH _))) (aH _))) λae H=> ?_
 delta lY;generalize np G N=a;revert a;refine id ?_;intro a;kernel_rfl
def oX(G:ax)(N:Nat)(o:aa->aa->aa->aa->aa->ad->O)(au l:aa)(m n d:aa)(H:ad):O:=j (an P .lss 3 U d n) λq=>aV (D q) (j (cG P 23 m d) λs=>j (al P H 68 s) λu=>cp H [Y [],Y [],I J 0,I J 0] λh i=>a8 i (aT P i 68 h u) λa=>j (aI P 68 h 1) λw=>j (al P a 40 w) λx=>aG a (G 20 [x] a) λy c=>j (aI P 68 h 0) λe=>j (al P c 9 e) λbH=>j (an P .add 9 X bH (Y [58,32])) λv=>j (an P .add 9 U v y) λz=>bV c (bU P (c).next 50 1 [(0,z)]) λA k=>aG k (cR P k [50,50] l A) λB p=>bif ((bg (al P a 9 e) bH&&(bg (al P c 9 e) bH&&X))&&X)then(j (an P .add 3 X d (I J 1)) λE=>o au B m n E p)else Z) (lY G N au l H)
def k3(G:ax)(N:Nat):Nat->aa->aa->aa->aa->aa->ad->O
 |0,_,_,_,_,_,_=>Z
 |n+1,au,c,d,e,a,H=>oX G N (k3 G N n) au c d e a H
def Lq(G:ax)(N:Nat)(c:aa->aa->aa->aa->aa->ad->O):∀ae H,bm P G N (a1 (a1 (o (a1 (o (o (bq Tryd.f30))))))) (λae H=>c (ae 1) (ae 3) (ae 8) (ae 9) (ae 10) H) [(0,(λae H=>lY G N (ae 1) (ae 3) H))] (bh Tryd.f30) ae H=oX G N c (ae 1) (ae 3) (ae 8) (ae 9) (ae 10) H:=by
 refine bL (aH _) λae H=> ?_
 delta oX;generalize lY G N=a;revert a;refine id ?_;intro a;kernel_rfl
def sC(G:ax)(N:Nat)(ag:aa)(H:ad):O:=bV H (dT (H).next ag) λau a=>j (aI P 73 au 1) λd=>j (al P a 23 d) λc=>bd P .len [23] [c] a λe=>k3 G N N au aa.ar c e (I J 0) a
def Kh(N:Nat){ag:aa}{H:ad}{r:aa×ad}(h:sC (aA P aw) N ag H=D r):aA P aw 30 [ag] H=D r:=cQ N (S:=λG=>sC G N ag H) Tryd.func30 (λG=>dO ((aN ah ((aN ah ((aN ah (Lr G N) ((aN ah ((db ah ((en (k:=λm ae H=>k3 G N m (ae 1) (ae 3) (ae 8) (ae 9) (ae 10) H) ah (λae H=>ah) (λm=>Lq G N (k3 G N m)))))) (aH _))))) (aH _))) (aH _))) (by delta sC;generalize k3 G N N=a;revert a;refine id ?_;intro a;kernel_rfl)) h
def lS(G:ax)(N:Nat)(c:aa)(H:ad):O:=j (bW c) λd=>j (aI P 81 d 0) λe=>aG H (G 32 [e] H) λh a=>D (h,a)
def K7(G:ax)(N:Nat):∀ae H,bm P G N (o (o (o (o (o (bq Tryd.f10)))))) (bh Tryd.f10) [] (bh Tryd.f10) ae H=lS G N (ae 3) H:=by
 refine bL (aH _) λae H=> ?_
 delta lS;kernel_rfl
def oS(G:ax)(N:Nat)(q:aa->aa->aa->aa->ad->O)(a o:aa)(p h:aa)(H:ad):O:=j (an P .lss 3 U h p) λu=>aV (D u) (j (cG P 24 o h) λv=>j (al P H 73 v) λw=>cp H [Y [],aa.ar,.bool U,Y [],I J 0,aa.ar,I J 0] λe i=>a8 i (aT P i 73 e w) λc=>j (al P c 73 e) λx=>aG c (G 30 [x] c) λy k=>bV k (bU P (k).next 50 1 [(0,y)]) λz l=>aG l (G 29 [a,I J 0,z] l) λK d=>j (aI P 73 e 4) λA=>j (al P d 71 A) λB=>aG d (G 31 [a,I J 1,B] d) λL m=>bV m (D (.ay (m).next 0 1 1 (D 1),.row U 1 [[Y [125]]])) λE n=>aG n (G 29 [a,I J 0,E] n) λM s=>j (an P .add 3 X h (I J 1)) λF=>q a o p F s) (lS G N a H)
def kW(G:ax)(N:Nat):Nat->aa->aa->aa->aa->ad->O
 |0,_,_,_,_,_=>Z
 |n+1,a,c,d,e,H=>oS G N (kW G N n) a c d e H
def K1(G:ax)(N:Nat)(c:aa->aa->aa->aa->ad->O):∀ae H,bm P G N (a1 (a1 (o (a1 (o (o (o (o (bq Tryd.f10))))))))) (λae H=>c (ae 3) (ae 63) (ae 64) (ae 65) H) [(6,(λae H=>lS G N (ae 3) H))] (bh Tryd.f10) ae H=oS G N c (ae 3) (ae 63) (ae 64) (ae 65) H:=by
 refine bL (aH _) λae H=> ?_
 delta oS;generalize lS G N=a;revert a;refine id ?_;intro a;kernel_rfl
def lR(G:ax)(N:Nat)(au c:aa)(H:ad):O:=j (aI P 26 au 2) λd=>j (al P H 24 d) λa=>bd P .len [24] [a] H λe=>kW G N N c a e (I J 0) H
def K6(G:ax)(N:Nat):∀ae H,bm P G N (o (o (o (o (bq Tryd.f10))))) (bh Tryd.f10) [] (bh Tryd.f10) ae H=lR G N (ae 1) (ae 3) H:=by
 refine bL ((aN ah (K7 G N) ((aN ah ((db ah ((en (k:=λm ae H=>kW G N m (ae 3) (ae 63) (ae 64) (ae 65) H) ah (λae H=>ah) (λm=>K1 G N (kW G N m)))))) (aH _))))) λae H=> ?_
 delta lR;generalize kW G N N=a;revert a;refine id ?_;intro a;kernel_rfl
def oT(G:ax)(N:Nat)(p:aa->aa->aa->aa->aa->ad->O)(au d:aa)(n o e:aa)(H:ad):O:=j (an P .lss 3 U e o) λs=>aV (D s) (j (cG P 23 n e) λu=>j (al P H 68 u) λv=>cp H [Y [],Y [],I J 0,I J 0] λk l=>a8 l (aT P l 68 k v) λa=>j (aI P 68 k 1) λw=>j (al P a 40 w) λx=>aG a (G 20 [x] a) λy c=>j (aI P 68 k 0) λh=>j (al P c 9 h) λi=>bV c (bU P (c).next 50 5 [(0,(Y [103,108,111,98,97,108,32])),(1,i),(2,(Y [58,32])),(3,y),(4,(Y [59]))]) λz m=>aG m (G 29 [d,I J 0,z] m) λB q=>bif ((bg (al P a 9 h) i&&(bg (al P c 9 h) i&&X))&&X)then(j (an P .add 3 X e (I J 1)) λA=>p au d n o A q)else Z) (lR G N au d H)
def kX(G:ax)(N:Nat):Nat->aa->aa->aa->aa->aa->ad->O
 |0,_,_,_,_,_,_=>Z
 |n+1,au,a,c,d,e,H=>oT G N (kX G N n) au a c d e H
def K2(G:ax)(N:Nat)(c:aa->aa->aa->aa->aa->ad->O):∀ae H,bm P G N (a1 (a1 (o (a1 (o (o (o (bq Tryd.f10)))))))) (λae H=>c (ae 1) (ae 3) (ae 47) (ae 48) (ae 49) H) [(4,(λae H=>lR G N (ae 1) (ae 3) H))] (bh Tryd.f10) ae H=oT G N c (ae 1) (ae 3) (ae 47) (ae 48) (ae 49) H:=by
 refine bL (aH _) λae H=> ?_
 delta oT;generalize lR G N=a;revert a;refine id ?_;intro a;kernel_rfl
def jO(G:ax)(N:Nat)(au c:aa)(H:ad):O:=j (aI P 26 au 1) λd=>j (al P H 23 d) λa=>bd P .len [23] [a] H λe=>kX G N N au c a e (I J 0) H
def K5(G:ax)(N:Nat):∀ae H,bm P G N (o (o (o (bq Tryd.f10)))) (bh Tryd.f10) [] (bh Tryd.f10) ae H=jO G N (ae 1) (ae 3) H:=by
 refine bL ((aN ah (K6 G N) ((aN ah ((db ah ((en (k:=λm ae H=>kX G N m (ae 1) (ae 3) (ae 47) (ae 48) (ae 49) H) ah (λae H=>ah) (λm=>K2 G N (kX G N m)))))) (aH _))))) λae H=> ?_
 delta jO;generalize kX G N N=a;revert a;refine id ?_;intro a;kernel_rfl
def kV(G:ax)(N:Nat)(a:aa->aa->aa->aa->aa->ad->O)(au e:aa)(c bH d:aa)(H:ad):O:=j (an P .add 3 X d (I J 1)) λh=>a au e c bH h H
def K8(G:ax)(N:Nat)(a:aa->aa->aa->aa->aa->ad->O):∀ae H,bm P G N (o (o (o (a1 (a1 (o (a1 (o (o (bq Tryd.f10)))))))))) (λae H=>a (ae 1) (ae 3) (ae 15) (ae 16) (ae 17) H) [(0,(λae H=>jO G N (ae 1) (ae 3) H))] (bh Tryd.f10) ae H=kV G N a (ae 1) (ae 3) (ae 15) (ae 16) (ae 17) H:=by
 refine bL (aH _) λae H=> ?_
 delta kV;kernel_rfl
def lT(G:ax)(N:Nat)(d:aa->aa->aa->aa->aa->ad->O)(au c:aa)(h bH i:aa)(H:ad):O:=bV H (D (.ay (H).next 0 1 1 (D 1),.row U 1 [[Y [125]]])) λj a=>aG a (G 29 [c,I J 0,j] a) λk e=>kV G N d au c h bH i e
def K9(G:ax)(N:Nat)(a:aa->aa->aa->aa->aa->ad->O):∀ae H,bm P G N (o (o (o (a1 (a1 (o (o (a1 (a1 (o (a1 (o (o (bq Tryd.f10)))))))))))))) (λae H=>kV G N a (ae 1) (ae 3) (ae 15) (ae 16) (ae 17) H) [(1,(λae H=>kV G N a (ae 1) (ae 3) (ae 15) (ae 16) (ae 17) H)),(0,(λae H=>jO G N (ae 1) (ae 3) H))] (bh Tryd.f10) ae H=lT G N a (ae 1) (ae 3) (ae 15) (ae 16) (ae 17) H:=by
 refine bL (aH _) λae H=> ?_
 delta lT;generalize kV G N a=c;revert c;refine id ?_;intro c;kernel_rfl
def oV(G:ax)(N:Nat)(s:aa->aa->aa->aa->aa->ad->O)(u:aa->aa->aa->aa->aa->aa->aa->aa->ad->O)(au e:aa)(n bH:aa)(o p:aa)(q d:aa)(H:ad):O:=j (an P .lss 3 U d q) λw=>aV (D w) (j (cG P 23 p d) λx=>j (al P H 68 x) λy=>cp H [Y [],Y [],I J 0,I J 0] λk l=>a8 l (aT P l 68 k y) λa=>j (aI P 68 k 1) λz=>j (al P a 40 z) λA=>aG a (G 20 [A] a) λB c=>j (aI P 68 k 0) λh=>j (al P c 9 h) λi=>bV c (bU P (c).next 50 4 [(0,i),(1,(Y [58,32])),(2,B),(3,(Y [59]))]) λE m=>aG m (G 29 [e,I J 1,E] m) λK v=>bif ((bg (al P a 9 h) i&&(bg (al P c 9 h) i&&X))&&X)then(j (an P .add 3 X d (I J 1)) λF=>u au e n bH o p q F v)else Z) (lT G N s au e n bH o H)
def kY(G:ax)(N:Nat)(a:aa->aa->aa->aa->aa->ad->O):Nat->aa->aa->aa->aa->aa->aa->aa->aa->ad->O
 |0,_,_,_,_,_,_,_,_,_=>Z
 |n+1,au,j,c,bH,d,e,h,i,H=>oV G N a (kY G N a n) au j c bH d e h i H
def K4(G:ax)(N:Nat)(a:aa->aa->aa->aa->aa->ad->O)(d:aa->aa->aa->aa->aa->aa->aa->aa->ad->O):∀ae H,bm P G N (a1 (a1 (o (a1 (o (o (a1 (a1 (o (o (a1 (a1 (o (a1 (o (o (bq Tryd.f10))))))))))))))))) (λae H=>d (ae 1) (ae 3) (ae 15) (ae 16) (ae 17) (ae 27) (ae 28) (ae 29) H) [(2,(λae H=>lT G N a (ae 1) (ae 3) (ae 15) (ae 16) (ae 17) H)),(1,(λae H=>kV G N a (ae 1) (ae 3) (ae 15) (ae 16) (ae 17) H)),(0,(λae H=>jO G N (ae 1) (ae 3) H))] (bh Tryd.f10) ae H=oV G N a d (ae 1) (ae 3) (ae 15) (ae 16) (ae 17) (ae 27) (ae 28) (ae 29) H:=by
 refine bL (aH _) λae H=> ?_
 delta oV;generalize lT G N a=c;revert c;refine id ?_;intro c;kernel_rfl
def oU(G:ax)(N:Nat)(n:aa->aa->aa->aa->aa->ad->O)(au e:aa)(l bH d:aa)(H:ad):O:=j (an P .lss 3 U d bH) λo=>aV (D o) (j (cG P 22 l d) λp=>j (al P H 65 p) λq=>cp H [Y [],aa.ar,I J 0] λh i=>a8 i (aT P i 65 h q) λa=>j (aI P 65 h 0) λs=>j (al P a 9 s) λu=>bV a (bU P (a).next 50 3 [(0,(Y [114,101,99,111,114,100,32])),(1,u),(2,(Y [32,123]))]) λv k=>aG k (G 29 [e,I J 0,v] k) λy c=>j (aI P 65 h 1) λw=>j (al P c 23 w) λm=>bd P .len [23] [m] c λx=>kY G N n N au e l bH d m x (I J 0) c) (jO G N au e H)
def kf(G:ax)(N:Nat):Nat->aa->aa->aa->aa->aa->ad->O
 |0,_,_,_,_,_,_=>Z
 |n+1,au,d,a,bH,c,H=>oU G N (kf G N n) au d a bH c H
def K3(G:ax)(N:Nat)(a:aa->aa->aa->aa->aa->ad->O):∀ae H,bm P G N (a1 (a1 (o (a1 (o (o (bq Tryd.f10))))))) (λae H=>a (ae 1) (ae 3) (ae 15) (ae 16) (ae 17) H) [(0,(λae H=>jO G N (ae 1) (ae 3) H))] (bh Tryd.f10) ae H=oU G N a (ae 1) (ae 3) (ae 15) (ae 16) (ae 17) H:=by
 refine bL ((aN ah ((aN ah ((aN ah (K8 G N a) ((db ah ((aN ah ((aN ah ((aN ah (K9 G N a) ((aN ah ((db ah ((en (k:=λm ae H=>kY G N a m (ae 1) (ae 3) (ae 15) (ae 16) (ae 17) (ae 27) (ae 28) (ae 29) H) ah (λae H=>ah) (λm=>K4 G N a (kY G N a m)))))) (aH _))))) (aH _))) (aH _))))))) (aH _))) (aH _))) λae H=> ?_
 delta oU;generalize jO G N=c;generalize kY G N a N=d;revert c d;refine id ?_;intro c d;kernel_rfl
def sq(G:ax)(N:Nat)(ag:aa)(H:ad):O:=bV H (dT (H).next ag) λau c=>bV c (oa (D 81) (c).next (.agg [aa.nilPtr,aa.ar])) λe a=>j (aI P 26 au 0) λh=>j (al P a 22 h) λd=>bd P .len [22] [d] a λbH=>kf G N N au e d bH (I J 0) a
def J3(N:Nat){ag:aa}{H:ad}{r:aa×ad}(h:sq (aA P aw) N ag H=D r):aA P aw 10 [ag] H=D r:=cQ N (S:=λG=>sq G N ag H) Tryd.func10 (λG=>dO ((aN ah ((aN ah ((aN ah (K5 G N) ((aN ah ((db ah ((en (k:=λm ae H=>kf G N m (ae 1) (ae 3) (ae 15) (ae 16) (ae 17) H) ah (λae H=>ah) (λm=>K3 G N (kf G N m)))))) (aH _))))) (aH _))) (aH _))) (by delta sq;generalize kf G N N=a;revert a;refine id ?_;intro a;kernel_rfl)) h
end
end
section
set_option maxRecDepth 100000
noncomputable section
end
end
section
def iU{α:Type}(F:aq->ae α):Prop:=∀s x,F s=D x->x.2.aD=0->s.aD=0/\(0<=s.bO->x.2.bO=s.bO/\x.2.cO=s.cO)
def fe(f:aq->aq):Prop:=∀s,(f s).aD=0->s.aD=0/\(f s).bO=s.bO/\(f s).cO=s.cO
def iU.bind{α β:Type}{F:aq->ae α}{G:α->aq->ae β}(h:iU F)(m:∀x,iU (G x)):iU λs=>(F s).bind λp=>G p.1 p.2:=by
 intro s x n l;obtain⟨p,j,k⟩:=GR n;obtain⟨g1,g2⟩:=m p.1 p.2 x k l;obtain⟨f1,f2⟩:=h s p j g1;refine⟨f1,λc=> ?_⟩;obtain⟨a,d⟩:=f2 c;obtain⟨e,i⟩:=g2 (by rw[a];exact c);exact⟨e.trans a,i.trans d⟩
def iU.none{α:Type}{F:aq->ae α}(h:∀s,F s=Z):iU F:=λs x a=>by rw[h]at a;cases a
def fe.comp{f g:aq->aq}(h:fe f)(k:fe g):fe λs=>g (f s):=λs az=>by
 obtain⟨aQ,a2,a3⟩:=k _ az;obtain⟨a,c,b3⟩:=h _ aQ;exact⟨a,a2.trans c,a3.trans b3⟩
def iU.pre{α:Type}{F:aq->ae α}{f:aq->aq}(h:fe f)(k:iU F):iU λs=>F (f s):=λs x l i=>by
 obtain⟨aQ,a2⟩:=k _ x l i;obtain⟨c,a,b3⟩:=h s aQ;refine⟨c,λj=> ?_⟩;obtain⟨d,e⟩:=a2 (by rw[a];exact j);exact⟨d.trans a,e.trans b3⟩
def fe.go:fe aC:=λs h=>⟨h,rfl,rfl⟩
def fe.id:fe λs=>s:=λs h=>⟨h,rfl,rfl⟩
variable {T:List Tok}
def uk{s:aq}{e:Int}(he:e≠0)(h:(cE T e s).aD=0):False:=by
 unfold cE at h;split at h
 ·exact he h
 ·rename_i az;exact az h
def fe.NF(x:aB):fe λs=>(eo T x s).2:=λs h=>by
 have h:(eo T x s).2.aD=0:=h;show s.aD=0/\(eo T x s).2.bO=s.bO/\(eo T x s).2.cO=s.cO;cases a:b8 T s 4 x with
 |true=>
  have e:(eo T x s).2=aC s:=by simp[eo,a]
  rw[e]at h ⊢;exact⟨h,rfl,rfl⟩
 |false=>
  have e:(eo T x s).2=cE T 2 s:=by simp[eo,a]
  rw[e]at h;exact(uk b1 h).elim
def fe.jV(x:aB):∀n:Nat,fe (jV T x n)
 |0=>fe.id
 |n+1=>fe.comp (f:=λs=>(eo T x s).2) (g:=YtghmbpmaafnodaaDoor.jV T x n) (fe.NF x) (fe.jV x n)
def B7:∀(n:Nat) (d:Int) (s:aq),(∀c s',hf T n d s= .inl (c,s')->s'.aD=0->s.aD=0/\s'.bO=s.bO/\s'.cO=s.cO)/\∀s',hf T n d s= .inr s'->s'.aD≠0
 |0,d,s=>by
  simp only[hf];cases b8 T s 4 [91]with
  |true=>exact⟨λ_ _ h=>(by cases h),λs' h e=>by cases h;exact uk b1 e⟩
  |false=>exact⟨λ_ _ h a=>(by cases h;exact⟨a,rfl,rfl⟩),λ_ h=>(by cases h)⟩
 |n+1,d,s=>by
  simp only[hf];cases b8 T s 4 [91]with
  |true=>exact B7 n (d+1) (aC s)
  |false=>exact⟨λ_ _ h a=>(by cases h;exact⟨a,rfl,rfl⟩),λ_ h=>(by cases h)⟩
def fe.of:fe λs=>(eO T s).2:=λs h=>by
 obtain⟨i1,i2⟩:=B7 (T:=T) 3 0 s;have aX:(eO T s).2.aD=0:=h;show s.aD=0/\(eO T s).2.bO=s.bO/\(eO T s).2.cO=s.cO;unfold eO at aX ⊢;cases a:hf T 3 0 s with
 |inr s'=>rw[a]at aX;exact absurd aX (i2 s' a)
 |inl p=>
  obtain⟨d,s1⟩:=p;rw[a]at aX;simp only at aX ⊢;cases c:((ao T s1.at_).kind != 1&&(!b8 T s1 3 [105,110,116]&& !b8 T s1 3 [98,111,111,108]))with
  |true=>
   simp only[iN,c,aU]at aX;exact(uk b1 aX).elim
  |false=>
   simp only[iN,c,aO]at aX ⊢;obtain⟨aQ,a2,a3⟩:=fe.comp fe.go (fe.jV [93] d.toNat) s1 aX;obtain⟨e,i,b3⟩:=i1 d s1 a aQ;exact⟨e,a2.trans i,a3.trans b3⟩
def iU.eq{α:Type}{F G:aq->ae α}(h:iU F)(e:∀s,G s=F s):iU G:=λs x a=>h s x (by rw[<-e];exact a)
