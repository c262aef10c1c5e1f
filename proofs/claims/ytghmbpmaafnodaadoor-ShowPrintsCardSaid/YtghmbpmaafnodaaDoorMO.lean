/-
  Texts of one proof, laid together: Ve Vf Vg Vh Vi ShVc ShRc T2 T3.
-/
import Derived.Test.YtghmbpmaafnodaaDoorMN
set_option linter.unusedVariables false
set_option linter.unusedSimpArgs false
set_option linter.defProp false
open Option renaming some→D,none→Z
open Bool renaming true→X,false→U
open Go.cn.ad renaming int→I,str→Y
open Go.IntKind renaming i64→J
namespace Go.Proofs.YtghmbpmaafnodaaDoor
open Go.cn
open Nat (reduceAdd reduceLeDiff)
def eK(l:aG):List (List ad):=l.map λc=>[I .u8 c.toNat]
def z6(a b:aG):eK (a++b)=eK a++eK b:=List.map_append
def lO(a:aG):(eK a).length=a.length:=List.length_map ..
def j8(H:ae)(m:Nat)(acc:aG)(b:ad):Prop:=(acc=[]/\b= .az)\/(acc≠[]/\b= .aD m 0 acc.length 1 Z/\H.get m=D (.b0 5 1 (eK acc)))
def fX(H:ae)(p m:Nat)(acc:aG):Prop:=(acc≠[]->p≠m)/\p<H.next/\∃a b,H.get p=D (.b0 81 2 [[a,b]])/\(a= .nilPtr\/a= .ptr p 0 0)/\j8 H m acc b
def cR(p m:Nat)(H:ae)(m':Nat)(H':ae):Prop:=(m'=m\/H.next<=m')/\c7 (λl=>l=p\/l=m) H H'
def cR.trans{p m m1 m2:Nat}{H H1 c:ae}(h:cR p m H m1 H1)(k:cR p m1 H1 m2 c):cR p m H m2 c:=by
 obtain⟨aQ,a⟩:=h;obtain⟨a2,d⟩:=k;have:=a.1;refine⟨af,Nat.le_trans a.1 d.1,λl e aB=> ?_⟩;simp only[not_or]at aB;rw[d.2 l af (by simp only[not_or];exact⟨aB.1,af⟩)];exact a.2 l e (by simp only[not_or];exact aB)
def cR.aL{p m:Nat}{H H':ae}(h:aP H H'):cR p m H m H':=⟨.inl rfl,h.mut _⟩
def cR.next{p m m':Nat}{H H':ae}(h:cR p m H m' H'):H.next<=H'.next:=h.2.1
def cR.get{p m m':Nat}{H H':ae}(h:cR p m H m' H'){l:Nat}{b:bW}(d:H.get l=D b)(a:l≠p)(c:l≠m):H'.get l=D b:=h.2.get d (by simp only[not_or];exact⟨a,c⟩)
def j8.one{H:ae}{m:Nat}{acc:aG}{b:ad}(h:j8 H m acc b):b.one=true:=by rcases h with⟨_,rfl⟩|⟨_,rfl,_⟩<;>rfl
def fX.aL{H H':ae}{p m:Nat}{acc:aG}(h:fX H p m acc)(q:aP H H'):fX H' p m acc:=by
 obtain⟨j,k,a,b,l,n,c⟩:=h;refine⟨j,Nat.lt_of_lt_of_le k q.1,a,b,q.get l,n,?_⟩;rcases c with c|⟨d,e,i⟩
 ·exact .inl c
 ·exact .inr ⟨d,e,q.get i⟩
def qR:P.underlying 77=D (.slice 5):=ah
def sK:P.underlying 9=D .string:=ah
def ri:hO P 5=D 1:=ah
def rf:eU P 5=D (I .u8 0):=ah
def Ix{H:ae}{m:Nat}{acc s:aG}{b:ad}(h:j8 H m acc b)(o:acc.length+s.length<=10000000000000):
  ∃j H' m',c0 P H [77,9] b (Y s)=D (j,H')/\j8 H' m' (acc++s) j/\((m'=m/\s=[])\/H.next<=m')/\H.next<=H'.next/\∀l,l<H.next->(l≠m\/acc=[])->H'.get l=H.get l:=by
 have d:ie P H 9 1 (Y s)=D (eK s):=by simp[ie,sK,eK]
 rcases h with⟨rfl,rfl⟩|⟨e,rfl,c⟩
 ·by_cases aB:s=[]
  ·subst aB;refine⟨.az,H,m,?_,.inl ⟨rfl,rfl⟩,.inl ⟨rfl,rfl⟩,bm _,λ_ _ _=>rfl⟩;simp[c0,hU,qR,sK,po,ri,rf,d,ad.cells,eK]
  ·have p:¬s.length=0:=by simpa using aB
   simp only[List.length_nil,Nat.zero_add]at o;refine⟨.aD H.next 0 s.length 1 Z,H.push (.b0 5 1 (eK s)),H.next,?_,.inr ⟨by simpa using aB,rfl,ae.bM _ _⟩,.inr (bm _),by simp,λl i _=>ae.dC af⟩;simp[c0,hU,qR,sK,po,ri,rf,d,ad.cells,lO,aB,jF,dK];omega
 ·by_cases aB:s=[]
  ·subst aB;refine⟨.aD m 0 acc.length 1 Z,H,m,?_,.inr (by rw[List.append_nil];exact⟨e,rfl,c⟩),.inl ⟨rfl,rfl⟩,bm _,λ_ _ _=>rfl⟩;simp[c0,hU,qR,sK,po,ri,rf,d,ad.cells,eK]
  ·have hm:=ae.aV c;have n:eJ H m 0 acc.length 1=D (eK acc):=by
    unfold eJ;rw[c];simp[lO];rw[List.take_of_length_le (by rw[lO];omega)]
   refine⟨.aD H.next 0 (acc.length+s.length) 1 Z,(H.set m .dead).push (.b0 5 1 (eK acc++eK s)),H.next,?_,.inr ⟨by simp[aB],by rw[List.length_append],by rw[z6];simpa only[ae.dz]using ae.bM (H.set m .dead) (.b0 5 1 (eK acc++eK s))⟩,.inr (bm _),by simp,λl i a=>by
    have a:l≠m:=by rcases a with a|a<;>first|exact a|exact absurd a e
    rw[ae.dC (by simp only[ae.dz];omega),ae.get_set_other af]⟩
   have i:¬s.length=0:=by simpa using aB
   have a:acc.length+s.length<=140737488355328:=af;have k:acc.length+s.length<=9223372036854775807:=af;simp[c0,hU,qR,sK,po,ri,rf,d,ad.cells,lO,a,k,n,c,aB]
def Iy{H:ae}{m:Nat}{acc:aG}{b:ad}{c:UInt8}{k:Nat}(h:j8 H m acc b)(i:acc≠[])(u:acc.length<=10000000000000)(p:H.get k=D (.row U 1 [[I .u8 c.toNat]])):
  ∃e H' m',c0 P H [77,77] b (.aD k 0 1 1 (D 1))=D (e,H')/\j8 H' m' (acc++[c]) e/\H.next<=m'/\H.next<=H'.next/\∀l,l<H.next->l≠m->H'.get l=H.get l:=by
 have q:ie P H 77 1 (.aD k 0 1 1 (D 1))=D (eK [c]):=by simp[ie,qR,eJ,p,eK]
 rcases h with⟨rfl,_⟩|⟨_,rfl,a⟩
 ·exact absurd rfl i
 ·have hm:=ae.aV a;have o:eJ H m 0 acc.length 1=D (eK acc):=by
   unfold eJ;rw[a];simp[lO];rw[List.take_of_length_le (by rw[lO];omega)]
  refine⟨.aD H.next 0 (acc.length+1) 1 Z,(H.set m .dead).push (.b0 5 1 (eK acc++eK [c])),H.next,?_,.inr ⟨by simp,by rw[List.length_append];rfl,by rw[z6];simpa only[ae.dz]using ae.bM (H.set m .dead) (.b0 5 1 (eK acc++eK [c]))⟩,bm _,by simp,λl s d=>by rw[ae.dC (by simp only[ae.dz];omega),ae.get_set_other af]⟩;have d:acc.length+1<=140737488355328:=af;have j:acc.length+1<=9223372036854775807:=af;have n:(eK [c]).length=1:=rfl;simp[c0,hU,qR,po,ri,rf,q,ad.cells,d,j,n,o,a]
open Classical in
def Ab{H:ae}{p m:Nat}{acc:aG}(h:fX H p m acc):∃b H1,aE P aA 80 [.ptr p 0 0] H=D (.tuple [],H1)/\H1.next=H.next/\H1.get p=D (.b0 81 2 [[.ptr p 0 0,b]])/\j8 H1 m acc b/\∀l,l≠p->H1.get l=H.get l:=by
 obtain⟨n,o,a,b,d,q,c⟩:=h;rcases q with rfl|rfl
 ·refine⟨b,H.set p (.b0 81 2 [[.ptr p 0 0,b]]),mO ?_,by simp,ae.get_set_same o,?_,λl s=>ae.get_set_other (λe=>s e.symm)⟩
  ·show(match H.get p with
    |some (.b0 81 2 [[.nilPtr,b]])=>if b.one=X then D (ad.tuple [],H.set p (.b0 81 2 [[.ptr p 0 0,b]]))else Z
    |some (.b0 81 2 [[.ptr l' 0 0,_]])=>if l'=p then D (ad.tuple [],H)else Z
    |_=>Z)=_
   rw[d];simp only
   rw[if_pos c.one]
  ·rcases c with c|⟨i,j,k⟩
   ·exact .inl c
   ·exact .inr ⟨i,j,by rw[ae.get_set_other (n i)];exact k⟩
 ·refine⟨b,H,mO ?_,rfl,d,c,λ_ _=>rfl⟩;show(match H.get p with
   |some (.b0 81 2 [[.nilPtr,b]])=>if b.one=X then D (ad.tuple [],H.set p (.b0 81 2 [[.ptr p 0 0,b]]))else Z
   |some (.b0 81 2 [[.ptr l' 0 0,_]])=>if l'=p then D (ad.tuple [],H)else Z
   |_=>Z)=_
  rw[d];simp only
  rw[if_pos trivial]
def Hb{H:ae}{p m:Nat}{acc s:aG}(h:fX H p m acc)(u:acc.length+s.length<=10000000000000):W (aE P aA 57 [.ptr p 0 0,Y s] H) λ_ H'=>∃m',fX H' p m' (acc++s)/\cR p m H m' H':=by
 have o:=h.1;have B:=h.2.1;obtain⟨b,H1,k,F,g1,y,z⟩:=Ab h;obtain⟨G,a,m',n,i,hm,n2,w⟩:=Ix y u;have E:=i.one;have c:a.get p=D (.b0 81 2 [[.ptr p 0 0,b]]):=by rw[w p af ((Decidable.em (acc=[])).elim .inr λh=> .inl (o h))];exact g1
 have x:=ae.aV c;have j:H.next<=H1.next:=af
 refine cG (λ_=>MC 0) ?_;rw[uQ];have fin:∀cy,j8 a m' (acc++s) cy->∃m',fX (a.set p (.b0 81 2 [[.ptr p 0 0,cy]])) p m' (acc++s)/\cR p m H m' (a.set p (.b0 81 2 [[.ptr p 0 0,cy]])):=by
  intro cy d;have v:acc++s≠[]->p≠m':=by
   intro h;rcases hm with⟨rfl,rfl⟩|hm
   ·rw[List.append_nil]at h;exact o h
   ·omega
  refine⟨m',⟨v,by simpa using x,.ptr p 0 0,cy,ae.get_set_same x,.inr rfl,?_⟩,af,by simp only[ae.dz];omega,λl u aB=> ?_⟩
  ·rcases d with d|⟨gI,aT,A⟩
   ·exact .inl d
   ·exact .inr ⟨gI,aT,by rw[ae.get_set_other (v gI)];exact A⟩
  ·simp only[not_or]at aB;rw[ae.get_set_other (λe=>aB.1 e.symm),w l af (.inl aB.2),z l aB.1]
 have q:=i;rcases i with⟨_,rfl⟩|⟨_,rfl,_⟩
 ·simp-implicitDefEqProofs(disch:=try exact aj)only[reduceAdd,reduceLeDiff,reduceIte,ax,k,e2,j,g1,n,n2,c];exact bb.2 (fin _ q)
 ·simp-implicitDefEqProofs(disch:=try exact aj)only[reduceAdd,reduceLeDiff,reduceIte,ax,k,e2,j,g1,n,n2,c];exact bb.2 (fin _ q)
def Pq(l:Nat)(c:Int):b6 P l 77 1 [(0,I .u8 c)]=D (.aD l 0 1 1 (D 1),.row U 1 [[I .u8 c]]):=ah
def P6{H:ae}{p m:Nat}{acc:aG}{c:UInt8}(h:fX H p m acc)(w:acc≠[])(y:acc.length<=10000000000000):W (aE P aA 58 [.ptr p 0 0,I .u8 c.toNat] H) λ_ H'=>∃m',fX H' p m' (acc++[c])/\cR p m H m' H':=by
 have E:=h.1 w;have K:=h.2.1;obtain⟨b,H1,u,M,g1,i,G⟩:=Ab h;have B:=aP.push H1 (.row U 1 [[I .u8 c.toNat]]);have F:j8 (H1.push (.row U 1 [[I .u8 c.toNat]])) m acc b:=by
  rcases i with i|⟨gI,aT,o⟩
  ·exact .inl i
  ·exact .inr ⟨gI,aT,B.get o⟩
 obtain⟨N,a,m',v,k,hm,n2,n⟩:=Iy (c:=c) F w y (ae.bM H1 _);simp only[ae.b8]at hm n2 n;have L:=k.one;have d:a.get p=D (.b0 81 2 [[.ptr p 0 0,b]]):=by rw[n p af E];exact B.get g1
 have A:=ae.aV d;have q:H.next<=H1.next:=af
 have s:(H1.push (.row U 1 [[I .u8 c.toNat]])).next<=a.next:=by simp only[ae.b8];omega
 have z:=Pq H1.next c.toNat
 refine cG (λ_=>MD 0) ?_;rw[uR];have fin:∀cy,j8 a m' (acc++[c]) cy->∃m',fX (a.set p (.b0 81 2 [[.ptr p 0 0,cy]])) p m' (acc++[c])/\cR p m H m' (a.set p (.b0 81 2 [[.ptr p 0 0,cy]])):=by
  intro cy j;refine⟨m',⟨λ_=>af,by simpa using A,.ptr p 0 0,cy,ae.get_set_same A,.inr rfl,?_⟩,af,by simp only[ae.dz];omega,λl y aB=> ?_⟩
  ·rcases j with j|⟨gI,aT,o⟩
   ·exact .inl j
   ·exact .inr ⟨gI,aT,by rw[ae.get_set_other af];exact o⟩
  ·simp only[not_or]at aB;rw[ae.get_set_other (λe=>aB.1 e.symm),n l af aB.2,ae.dC af,G l aB.1]
 have x:=k;rcases k with⟨_,rfl⟩|⟨_,rfl,_⟩
 ·simp-implicitDefEqProofs(disch:=try exact aj)only[reduceAdd,reduceLeDiff,reduceIte,ax,u,e2,q,g1,z,v,s,d];exact bb.2 (fin _ x)
 ·simp-implicitDefEqProofs(disch:=try exact aj)only[reduceAdd,reduceLeDiff,reduceIte,ax,u,e2,q,g1,z,v,s,d];exact bb.2 (fin _ x)
def Eh:∀n:Nat,(List.replicate n ([32,32]:aG)).flatten=pad n
 |0=>rfl
 |n+1=>by
  rw[List.replicate_succ,List.flatten_cons,Eh n];unfold pad;rw[show 2*(n+1)=2*n+1+1 by omega,List.replicate_succ,List.replicate_succ];rfl
def fX.lt{H:ae}{p m:Nat}{acc:aG}(h:fX H p m acc):p<H.next:=h.2.1
section
variable {N:Nat}{H:ae}{p m k:Nat}{acc:aG}{parts:List aG}{cap:Option Nat}{ro:Bool}
def Dx(u:H.get k=D (.row ro 1 (parts.map λs=>[Y s])))(A:k≠p)(z:k≠m)(x:acc++parts.flatten≠[])(w:parts.length<=1000)(v:acc.length+parts.flatten.length<=10000000000000):∀(rest:List aG) (j n:Nat) (done:List aG) (m1:Nat) (H1:ae),parts=done++rest->done.length=j->rest.length<n->fX H1 p m1 (acc++done.flatten)->cR p m H m1 H1->
  W (nt (aE P aA) N n (.ptr p 0 0) (.aD k 0 parts.length 1 cap) (I J parts.length) (I J j) H1) λ_ H'=>∃m',fX H' p m' (acc++(parts.flatten++[10]))/\cR p m H m' H'
 |_,_,0,_,_,_,_,_,w,_,_=>af
 |[],j,n+1,done,m1,H1,aC,o,y,h,hw=>by
  rw[List.append_nil]at aC;subst aC;have i:¬((j:Int)<(parts.length:Int)):=af;have l:=P6 (c:=10) h x (by rw[List.length_append];omega);have B:(((10:UInt8).toNat:Nat):Int)=10:=rfl;rw[B]at l;simp-implicitDefEqProofs(disch:=try exact aj)only[nt,sk,qt,reduceAdd,reduceLeDiff,reduceIte,ax,i,decide_false];refine aO l ?_;rintro _ d ⟨m2,e,a⟩;refine⟨a.next,bb.2 ⟨m2,?_,hw.trans a⟩⟩;rw[<-List.append_assoc];exact e
 |s::rest,j,n+1,done,m1,H1,aC,o,y,h,hw=>by
  simp only[List.length_cons]at y;have Q:parts.length=done.length+(rest.length+1):=by rw[aC,List.length_append,List.length_cons]
  have i:(j:Int)<(parts.length:Int):=af;have F:(0:Int)<=(j:Int):=af;have L:((j:Int)).toNat=j:=af;have O:IntKind.i64.wrap ((j:Int)+1)=((j+1:Nat):Int):=by rw[wrap_i64 af af];omega
  have E:=hw.get u A z;have aT:(parts.map λs=>[ad.str s])[0+j]? =D [Y s]:=by
   rw[Nat.zero_add,List.getElem?_map,aC,List.getElem?_append_right af,show j-done.length=0 by omega];rfl
  have M:(parts.map λs=>[ad.str s])[j]? =D [Y s]:=by rw[Nat.zero_add]at aT;exact aT
  have q:parts.flatten=done.flatten++(s++rest.flatten):=by rw[aC];simp
  rw[q]at v;simp only[List.length_append]at v;have G:=Hb (s:=s) h (by rw[List.length_append];omega);simp-implicitDefEqProofs(disch:=try exact aj)only[nt,sk,reduceAdd,reduceLeDiff,reduceIte,ax,i,decide_true,F,L,E,aT,M];refine aO G ?_;rintro _ d ⟨m2,e,a⟩;refine⟨a.next,?_⟩;simp-implicitDefEqProofs(disch:=try exact aj)only[bg,bx,cZ,O];have K:fX d p m2 (acc++(done++[s]).flatten):=by
   rw[List.flatten_append,<-List.append_assoc];simpa using e
  exact Dx u A z x w (by rw[q];simp only[List.length_append];omega) rest (j+1) n (done++[s]) m2 d (by rw[aC,List.append_assoc];rfl) (by rw[List.length_append,o];rfl) af K (hw.trans a)
def KR{deep:Nat}{z:Int}(w:z=deep)(l:fX H p m acc)(c:H.get k=D (.row ro 1 (parts.map λs=>[Y s])))(d:k≠p)(x:k≠m)(q:parts.flatten≠[])(o:parts.length<=1000)(B:deep<=1000)(E:acc.length+parts.flatten.length<=1000000000000){n:Nat}(u:n=parts.length):
  W (aE P aA 29 [.ptr p 0 0,I J z,.aD k 0 n 1 cap] H) λ_ H'=>∃m',fX H' p m' (acc++(pad deep++(parts.flatten++[10])))/\cR p m H m' H':=by
 subst w;subst u;refine cG (λ_=>Mj (parts.length+1)) ?_;have i:aE P aA 54 [Y [32,32],I J deep] H=D (Y (pad deep),H):=by
  rw[<-Eh];exact xO (by simp only[List.length_cons,List.length_nil];omega) af
 have F:=hk deep;have j:=Hb (s:=pad deep) l af;rw[uB];simp-implicitDefEqProofs(disch:=try exact aj)only[reduceAdd,reduceLeDiff,reduceIte,ax,i,e2,bm];refine aO j ?_;rintro _ e ⟨m2,h,a⟩;refine⟨a.next,?_⟩;simp-implicitDefEqProofs(disch:=try exact aj)only[reduceAdd,reduceLeDiff,reduceIte,ax];have G:=ae.aV c;have y:k≠m2:=by have:=a.1;omega
 refine(Dx (N:=parts.length+1) (acc:=acc++pad deep) (a.get c d x) d y (by simp[q]) o (by rw[List.length_append];omega) parts 0 (parts.length+1) [] m2 e rfl rfl af (by simpa using h) (cR.aL (.refl _))).mono ?_;rintro v H' ⟨m',b3,A⟩;exact⟨m',by rw[List.append_assoc]at b3;exact b3,a.trans A⟩
end
def nX:bK:={kind:=0,pos:=0}
def Qd{H:ae}:W (aE P aA 16 [.agg (bK.cells nX .az)] H) λr H'=>r= Y []/\aP H H':=by
 have d:∀l,d_ l (.agg (bK.cells nX .az))=D (.ptr l 0 0,.row U 11 [bK.cells nX .az]):=λl=>hA l _ rfl
 have pp:=aP.push H (.row U 11 [bK.cells nX .az]);have dr:=ae.bM H (.row U 11 [bK.cells nX .az]);have e:=CS (H:=H.push (.row U 11 [bK.cells nX .az])) (ok:=λ_=>True) (ks:=[]) (kv:= .az) (.inl ⟨rfl,rfl⟩) (by simp);refine cG (λ_=>Ff 0) ?_;simp only[bK.cells,nX]at d pp dr e ⊢;rw[sj];simp-implicitDefEqProofs(disch:=try exact aj)only[reduceAdd,reduceLeDiff,reduceIte,ax,d];refine aO e ?_;rintro _ k ⟨b,i,rfl,bz,-,h⟩;refine⟨h.1,?_⟩;have a:=h.bI (.row U 11 [b.cells i]);have c:=a.get dr;simp only[bK.cells]at a c;have s0:∀H,aE P aA 46 [I J 0] H=D (Y [],H):=λH=>xX 0 rfl
 have j:ao P .neq 9 X (Y []) (Y [])=D (.bool U):=rfl;simp-implicitDefEqProofs(disch:=try exact aj)only[reduceAdd,reduceLeDiff,reduceIte,ax,bz,c,Int.reduceBEq,mb,nr,s0,e2,bm,j];exact bb.2 ⟨rfl,pp.trans a⟩
def jl(ks:List aJ)(j:Nat):aG:=match ks[j]? with
 |some e=>flat (bp e)
 |none=>[]
def Ar{H:ae}{ok:Nat->Prop}{ks:List aJ}{kv:ad}(h:ck H ok ks kv)(F:ks.length<=1000000000)(hw:∀e∈ks,∃d,cF d 0 e)(u:∀e∈ks,cM e<=1000000000)(x:fk.ia H)(j:Nat){z:Int}(B:z=j):
  W (aE P aA 41 [kv,I J z] H) λv H1=>∃cs,v= .agg cs/\aP H H1/\∀c,aP H1 c->W (aE P aA 16 [.agg cs] c) λr q=>r= Y (jl ks j)/\aP c q:=by
 subst B;by_cases k:j<ks.length
 ·obtain⟨e,he⟩:∃e,ks[j]? =D e:=⟨ks[j],List.getElem?_eq_getElem k⟩;obtain⟨a,es⟩:=e;obtain⟨l,i,cap,ro,els,E,rfl,g1,aT,m⟩:=h.ga (n:=ks.length) rfl he;refine(tn rfl k m.eb g1 aT).mono ?_;rintro v H1 ⟨rfl,p⟩;have hm:=List.mem_of_getElem? he;obtain⟨d,y⟩:=hw _ hm;refine⟨_,rfl,p,λc o=> ?_⟩;have:=bS _ d 0 y (u _ hm) a es rfl c ok E (m.aL (p.trans o)) (x.aL (p.trans o));unfold jl;rw[he];exact this
 ·have A:jl ks j=[]:=by unfold jl;rw[List.getElem?_eq_none af]
  rw[A];refine cG (λ_=>xW 0) ?_;have w:=λH'=>h.rm H'
  have s:(ks.length:Int)<=(j:Int):=af;unfold qz;simp-implicitDefEqProofs(disch:=try exact aj)only[reduceAdd,reduceLeDiff,reduceIte,ax,w,s,decide_true];exact bb.2 ⟨bK.cells nX .az,rfl,aP.push _ _,λc _=>Qd⟩
def FE(l:Nat)(a b c d e:aG):b6 P l 50 5 [(0,Y a),(1,Y b),(2,Y c),(3,Y d),(4,Y e)]=D (.aD l 0 5 1 (D 5),.row U 1 [[Y a],[Y b],[Y c],[Y d],[Y e]]):=ah
def Pm(l:Nat)(a b c d e f g:aG):b6 P l 50 7 [(0,Y a),(1,Y b),(2,Y c),(3,Y d),(4,Y e),(5,Y f),(6,Y g)]=D (.aD l 0 7 1 (D 7),.row U 1 [[Y a],[Y b],[Y c],[Y d],[Y e],[Y f],[Y g]]):=ah
def x7(l:Nat)(a b c d:aG):b6 P l 50 4 [(0,Y a),(1,Y b),(2,Y c),(3,Y d)]=D (.aD l 0 4 1 (D 4),.row U 1 [[Y a],[Y b],[Y c],[Y d]]):=ah
def sz(l:Nat)(a b c:aG):b6 P l 50 3 [(0,Y a),(1,Y b),(2,Y c)]=D (.aD l 0 3 1 (D 3),.row U 1 [[Y a],[Y b],[Y c]]):=ah
def Pl(l:Nat)(a b:aG):b6 P l 50 2 [(0,Y a),(1,Y b)]=D (.aD l 0 2 1 (D 2),.row U 1 [[Y a],[Y b]]):=ah
def KS{H:ae}{p m:Nat}{acc:aG}{deep:Nat}{z:Int}(w:z=deep)(e:fX H p m acc)(hm:m<H.next)(parts:List aG)(q:parts.flatten≠[])(o:parts.length<=1000)(k:deep<=1000)(l:acc.length+parts.flatten.length<=1000000000000){n:Nat}{cap:Option Nat}(u:n=parts.length){aa:List (List ad)}(j:aa=parts.map λs=>[Y s]):
  W (aE P aA 29 [.ptr p 0 0,I J z,.aD H.next 0 n 1 cap] (H.push (.row U 1 aa))) λ_ H'=>∃m',fX H' p m' (acc++(pad deep++(parts.flatten++[10])))/\cR p m H m' H'/\m'<H'.next/\H.next+1<=H'.next:=by
 subst j;have h:=aP.push H (.row U 1 (parts.map λs=>[Y s]));have:=e.lt;refine(KR w (e.aL h) (ae.bM H _) af af q o k l u).mono ?_;rintro v H' ⟨m',d,i⟩;refine⟨m',d,(cR.aL h).trans i,?_,by have:=i.next;simpa only[ae.b8]using this⟩;obtain⟨_,_,a,b,_,_,c⟩:=d;rcases c with⟨c,_⟩|⟨_,_,c⟩
 ·simp at c
 ·exact ae.aV c
structure e4(n0 p m:Nat)(H:ae)(acc:aG):Prop where
 pos:0<n0
 aC:n0<=p
 hm:n0<=m
 lm:m<H.next
 jf:fX H p m acc
 jH:fk.ia H
def cR.jH{n0 p m m':Nat}{H H':ae}(w:cR p m H m' H')(a:0<n0)(aC:n0<=p)(hm:n0<=m)(g:fk.ia H):fk.ia H':=⟨w.get g.u1 af af⟩
def cR.aW{n0 p m m':Nat}{H H':ae}{ok:Nat->Prop}(w:cR p m H m' H')(aC:n0<=p)(hm:n0<=m)(c:∀l,ok l->l<n0):cY H ok H' ok:=cY.mut w.2 λl h a=>by
 have:=c l h;rcases a with a|a<;>omega
def e4.aL{n0 p m:Nat}{H H':ae}{acc:aG}(h:e4 n0 p m H acc)(q:aP H H'):e4 n0 p m H' acc:=⟨h.pos,h.aC,h.hm,Nat.lt_of_lt_of_le h.lm q.1,h.jf.aL q,h.jH.aL q⟩
section
variable {n0 p m:Nat}{H:ae}{acc:aG}
def gG(h:e4 n0 p m H acc){deep:Nat}{z:Int}(q:z=deep)(parts:List aG)(k:parts.flatten≠[])(j:parts.length<=1000)(e:deep<=1000)(i:acc.length+parts.flatten.length<=1000000000000){n:Nat}{cap:Option Nat}(l:n=parts.length){aa:List (List ad)}(d:aa=parts.map λs=>[Y s]){t:aG}(o:t=pad deep++(parts.flatten++[10])):
  W (aE P aA 29 [.ptr p 0 0,I J z,.aD H.next 0 n 1 cap] (H.push (.row U 1 aa))) λ_ H'=>(H.push (.row U 1 aa)).next<=H'.next/\∃m',e4 n0 p m' H' (acc++t)/\cR p m H m' H':=by
 subst o;refine(KS q h.jf h.lm parts k j e i l d).mono ?_;rintro v H' ⟨m',c,a,u,n2⟩;have hm:=h.hm;have:=a.1;have:=h.lm;exact⟨by simpa only[ae.b8]using n2,m',⟨h.pos,h.aC,af,u,c,a.jH h.pos h.aC h.hm h.jH⟩,a⟩
end
def kO(b:List br):Prop:=∀(d deep:Nat),(∀s∈b,ei d s)->deep+d<=51->dn b<=1000000000->∀(H:ae) (ok:Nat->Prop) (v:ad) (z:Int) (n0 p m:Nat) (acc:aG),z=deep->da H ok b v->(∀l,ok l->l<n0)->e4 n0 p m H acc->acc.length+dn b<=500000000000->W (aE P aA 31 [.ptr p 0 0,I J z,v] H) λ_ H'=>∃m',e4 n0 p m' H' (acc++flat (cc deep b))/\cR p m H m' H'
def I8(a:b2)(b9 bv c:ad)(d:b9.one=X)(e:bv.one=X)(h:c.one=X)(l:Nat):d_ l (.agg (a.cells b9 bv c))=D (.ptr l 0 0,.row U 9 [a.cells b9 bv c]):=
 hA l _ (by simp only[b2.cells,List.all_cons,List.all_nil,hF,h0,d,e,h,Bool.and_self])
def Pt{a:b2}{ks:List aJ}{b c:List br}(a7:kO b)(bL:kO c){d deep:Nat}(aq:ei d (.mk a ks b c))(bu:deep+d<=51)(hle:eh (.mk a ks b c)<=1000000000){H:ae}{ok:Nat->Prop}{b9 bv V:ad}{n0 p m:Nat}{acc:aG}{z:Int}(bF:z=deep)(v1:ck H ok ks b9)(v2:da H ok b bv)(v3:da H ok c V)(M:∀l,ok l->l<n0)(ai:e4 n0 p m H acc)(bo:acc.length+eh (.mk a ks b c)<=500000000000):
  W (aE P aA 60 [.ptr p 0 0,I J z,.agg (a.cells b9 bv V)] H) λ_ H'=>∃m',e4 n0 p m' H' (acc++flat (fo deep (.mk a ks b c)))/\cR p m H m' H':=by
 subst bF;have hlen:=tz aq deep bu;have bW:=hk deep;have bC:bX ks+dn b+dn c+400<=eh (.mk a ks b c):=by rw[eh];omega
 have bz:=v1.eb;have bH:=v2.eb;have bZ:=v3.eb;have aN:=I8 a b9 bv V bz bH bZ;have pp:=aP.push H (.row U 9 [a.cells b9 bv V]);have dr:=ae.bM H (.row U 9 [a.cells b9 bv V]);have n:∀e∈ks,∃d,cF d 0 e:=by
  intro e he;cases aq<;>simp only[List.mem_cons,List.not_mem_nil,or_false]at he<;>first|exact he.elim|(subst he;exact⟨_,by assumption⟩)|(rcases he with rfl|rfl<;>exact⟨_,by assumption⟩)
 have bE:=rL ks;have a3:∀e∈ks,cM e<=1000000000:=by
  intro e he;have:cM e<=bX ks:=by
   clear bE n hlen bC hle bo aq v1
   induction ks with
   |nil=>cases he
   |cons k r bI=>
    rw[bX];rcases List.mem_cons.1 he with rfl|he
    ·omega
    ·have:=bI he;omega
  omega
 have a1:ks.length<=1000000000:=af;have aZ:=λ(H':ae) (q:aP H H')=>Ar (v1.aL q) a1 n a3 (ai.jH.aL q) 0 (z:=0) rfl
 have a0:=λ(H':ae) (q:aP H H')=>Ar (v1.aL q) a1 n a3 (ai.jH.aL q) 1 (z:=1) rfl
 have a8:=ub v1.beq;refine cG (λ_=>ME 0) ?_;simp only[b2.cells]at aN pp dr ⊢;rw[uS];simp-implicitDefEqProofs(disch:=try exact aj)only[reduceAdd,reduceLeDiff,reduceIte,ax,aN];refine aO (aZ _ pp) ?_;rintro _ bd ⟨bi,rfl,au,ag⟩;refine⟨au.1,?_⟩;refine aO (ag _ (.refl _)) ?_;rintro _ be ⟨rfl,av⟩;refine⟨av.1,?_⟩;have aI:=au.get dr;have an:=av.get aI;have aT:=(pp.trans au).trans av;simp-implicitDefEqProofs(disch:=try exact aj)only[reduceAdd,reduceLeDiff,reduceIte,ax,an];refine aO (a0 _ aT) ?_;rintro _ bf ⟨bj,rfl,aw,ar⟩;refine⟨aw.1,?_⟩;refine aO (ar _ (.refl _)) ?_;rintro _ aF ⟨rfl,ay⟩;refine⟨ay.1,?_⟩;have u:=ay.get (aw.get an)
 have ab:=(aT.trans aw).trans ay;simp-implicitDefEqProofs(disch:=try exact aj)only[reduceAdd,reduceLeDiff,reduceIte,ax,dr,aI,an,u,a8];have B:=ai.aL ab;have bQ:cR p m H m aF:=cR.aL ab;have a9:=v1.aL ab;have a_:=v2.aL ab;have bN:=v3.aL ab;have T:H.next≠p/\H.next≠m/\H.next<aF.next:=by
  have:=ai.lm;have:=ai.jf.lt;have:=ae.aV u;omega
 generalize H.next=y at u T ⊢
 clear aZ a0 ag ar au av aw ay aT ab dr aI an pp aN a8 v1 v2 v3;clear bd be bf bi bj;obtain⟨T,bc,bY⟩:=T;have aU:IntKind.i64.wrap ((deep:Int)+1)=((deep+1:Nat):Int):=by rw[wrap_i64 af af];omega
 have a2:fo deep (.mk a ks b c)= .b (pad deep)::(ho a ks (cc (deep+1) b) c.isEmpty (cc (deep+1) c) (pad deep)++[nl]):=by rw[fo]
 have aS:flat (fo deep (.mk a ks b c))=pad deep++(flat (ho a ks (cc (deep+1) b) c.isEmpty (cc (deep+1) c) (pad deep))++[10]):=by rw[a2,rq,cv,lR,ch];rfl
 have N:∀{e:aJ} {r:List aJ},ks=e::r->cM e<=bX ks:=by intro e r h;rw[h,bX];omega
 have bw:∀{e f:aJ} {r:List aJ},ks=e::f::r->cM e+cM f<=bX ks:=by intro e f r h;rw[h,bX,bX];omega
 rw[aS];clear a2 aS;have fin:∀(t:aG) (A:ae) (m7:Nat),e4 n0 p m7 A (acc++t)->cR p m aF m7 A->t=pad deep++(flat (ho a ks (cc (deep+1) b) c.isEmpty (cc (deep+1) c) (pad deep))++[10])->∃m',e4 n0 p m' A (acc++(pad deep++(flat (ho a ks (cc (deep+1) b) c.isEmpty (cc (deep+1) c) (pad deep))++[10])))/\cR p m H m' A:=λt A m7 k w e=>⟨m7,by rw[<-e];exact k,bQ.trans w⟩
 have ac:∀x y:aG,acc++(x++y)=acc++x++y:=λx y=>(List.append_assoc _ _ _).symm
 clear n;cases aq with
 | @var d x o z G al F=>
  have a5:=er al;have bA:=fh F;have bG:=F.2.1;have bB:=hE o z;simp-implicitDefEqProofs(disch:=try exact aj)only[reduceAdd,reduceLeDiff,reduceIte,ax,u,Int.reduceBEq];refine aO (type20 F.1 F.2.1 af) ?_;rintro _ bg ⟨rfl,K⟩;refine⟨K.1,?_⟩;have ah:=K.get u;simp-implicitDefEqProofs(disch:=try exact aj)only[reduceAdd,reduceLeDiff,reduceIte,ax,ah,FE];refine aO (gG (B.aL K) rfl [[118,97,114,32],x,[58,32],flat (c5 o z),[59]] (by simp) (by simp) af (by simp only[List.flatten_cons,List.flatten_nil,List.length_append,List.length_cons,List.length_nil];omega) rfl rfl rfl) ?_;rintro _ A ⟨v,m7,j,i⟩;refine⟨v,?_⟩
  simp-implicitDefEqProofs(disch:=try exact aj)only[reduceAdd,reduceLeDiff,reduceIte,ax,u,ah];refine bb.2 (fin _ _ _ j ((cR.aL K).trans i) ?_);show _=pad deep++(flat (wd nU::cf::(jt x o z++[bO [59]]))++[10]);rw[eV,dq,rr,cu,ch];simp[nU]
 | @lets d x o z G e al F n=>
  have a5:=er al;have bA:=fh F;have bG:=F.2.1;have bB:=hE o z;have O:=eY n;have Q:=N rfl;have E:jl [e] 0=flat (bp e):=rfl;simp-implicitDefEqProofs(disch:=try exact aj)only[reduceAdd,reduceLeDiff,reduceIte,ax,u,Int.reduceBEq];refine aO (type20 F.1 F.2.1 af) ?_;rintro _ bg ⟨rfl,K⟩;refine⟨K.1,?_⟩;have ah:=K.get u;simp-implicitDefEqProofs(disch:=try exact aj)only[reduceAdd,reduceLeDiff,reduceIte,ax,ah,Pm,E];refine aO (gG (B.aL K) rfl [[108,101,116,32],x,[58,32],flat (c5 o z),[32,61,32],flat (bp e),[59]] (by simp) (by simp) af (by simp only[List.flatten_cons,List.flatten_nil,List.length_append,List.length_cons,List.length_nil];omega) rfl rfl rfl) ?_
  rintro _ A ⟨v,m7,j,i⟩;refine⟨v,?_⟩;simp-implicitDefEqProofs(disch:=try exact aj)only[reduceAdd,reduceLeDiff,reduceIte,ax,u,ah];refine bb.2 (fin _ _ _ j ((cR.aL K).trans i) ?_);show _=pad deep++(flat (wd nS::cf::(jt x o z++cf::bO [61]::cf::(bp e++[bO [59]])))++[10]);rw[eV,dq,rr,dq,cu,dq,cv,cu,ch];simp[nS]
 | @set d x G e al n=>
  have a5:=er al;have O:=eY n;have Q:=N rfl;have E:jl [e] 0=flat (bp e):=rfl;simp-implicitDefEqProofs(disch:=try exact aj)only[reduceAdd,reduceLeDiff,reduceIte,ax,u,Int.reduceBEq,x7,E];refine aO (gG (B) rfl [x,[32,61,32],flat (bp e),[59]] (by simp) (by simp) af (by simp only[List.flatten_cons,List.flatten_nil,List.length_append,List.length_cons,List.length_nil];omega) rfl rfl rfl) ?_;rintro _ A ⟨v,m7,j,i⟩;refine⟨v,?_⟩;refine bb.2 (fin _ _ _ j i ?_);show _=pad deep++(flat (cq x::cf::bO [61]::cf::(bp e++[bO [59]]))++[10]);rw[iK,dq,cu,dq,cv,cu,ch];simp
 | @put d G e f bx n bD=>
  have Q:=bw rfl;have O:=eY n;have aS:=eY bD;have E:jl [e,f] 0=flat (bp e):=rfl;have bm:jl [e,f] 1=flat (bp f):=rfl;simp-implicitDefEqProofs(disch:=try exact aj)only[reduceAdd,reduceLeDiff,reduceIte,ax,u,Int.reduceBEq,x7,E,bm];refine aO (gG (B) rfl [flat (bp e),[32,61,32],flat (bp f),[59]] (by simp) (by simp) af (by simp only[List.flatten_cons,List.flatten_nil,List.length_append,List.length_cons,List.length_nil];omega) rfl rfl rfl) ?_;rintro _ A ⟨v,m7,j,i⟩;refine⟨v,?_⟩;refine bb.2 (fin _ _ _ j i ?_);show _=pad deep++(flat (bp e++cf::bO [61]::cf::(bp f++[bO [59]]))++[10]);rw[cv,dq,cu,dq,cv,cu,ch]
  simp
 | @ifs d G e b c n ak a4=>
  have Q:=N rfl;have O:=eY n;have bq:=lV (deep:=deep+1) ak af;have bV:=lV (deep:=deep+1) a4 af;have E:jl [e] 0=flat (bp e):=rfl;simp-implicitDefEqProofs(disch:=try exact aj)only[reduceAdd,reduceLeDiff,reduceIte,ax,u,Int.reduceBEq,sz,E];refine aO (gG (B) rfl [[105,102,32],flat (bp e),[32,123]] (by simp) (by simp) af (by simp only[List.flatten_cons,List.flatten_nil,List.length_append,List.length_cons,List.length_nil];omega) rfl rfl rfl) ?_;rintro _ A ⟨v,m7,j,i⟩;refine⟨v,?_⟩;have ao:=i.get u T bc;have bR:y≠m7:=by have:=i.1;omega
  have aH:=(a_.aW (i.aW B.aC B.hm M).s);have bl:=(bN.aW (i.aW B.aC B.hm M).s);simp-implicitDefEqProofs(disch:=try exact aj)only[reduceAdd,reduceLeDiff,reduceIte,ax,ao,aU];refine aO (a7 d (deep+1) ak af af A ok bv _ n0 p m7 _ rfl aH M j (by simp only[List.flatten_cons,List.flatten_nil,List.length_append,List.length_cons,List.length_nil];omega)) ?_;rintro _ bh ⟨m8,aa,L⟩;refine⟨L.next,?_⟩;have aM:=L.get ao T bR;have bS:y≠m8:=by have:=L.1;have:=i.next;omega
  have aX:=(bl.aW (L.aW j.aC j.hm M).s);have aR:=aX.pL;by_cases aQ:c=[]
  ·subst aQ;have aY:¬((0:Int)<((0:Nat):Int)):=af;simp only[List.length_nil]at aR;simp-implicitDefEqProofs(disch:=try exact aj)only[reduceAdd,reduceLeDiff,reduceIte,ax,aM,aR,aY,decide_false,o9];refine aO (gG (aa) rfl [[125]] (by simp) (by simp) af (by simp only[List.flatten_cons,List.flatten_nil,List.length_append,List.length_cons,List.length_nil];omega) rfl rfl rfl) ?_;rintro _ aB ⟨am,m10,R,S⟩;refine⟨am,?_⟩;rw[List.append_assoc,List.append_assoc]at R;refine bb.2 (fin _ _ _ R ((i.trans L).trans S) ?_);show _=pad deep++(flat (wd jA::cf::(bp e++(gU (pad deep) (cc (deep+1) b)++[])))++[10]);rw[eV,dq,cv,lQ,ch]
   simp[jA]
  ·have bt:(0:Int)<(c.length:Int):=by have:=List.length_pos_iff.2 aQ;omega
   have bs:c.isEmpty=false:=by cases c<;>first|exact absurd rfl aQ|rfl
   simp-implicitDefEqProofs(disch:=try exact aj)only[reduceAdd,reduceLeDiff,reduceIte,ax,aM,aR,bt,decide_true];refine aO (gG (aa) rfl [[125,32,101,108,115,101,32,123]] (by simp) (by simp) af (by simp only[List.flatten_cons,List.flatten_nil,List.length_append,List.length_cons,List.length_nil];omega) rfl rfl rfl) ?_;rintro _ aB ⟨am,m10,R,S⟩;refine⟨am,?_⟩;have bn:=S.get aM T bS;have bk:=(aX.aW (S.aW aa.aC aa.hm M).s);simp-implicitDefEqProofs(disch:=try exact aj)only[reduceAdd,reduceLeDiff,reduceIte,ax,bn,aU];refine aO (bL d (deep+1) a4 af af aB ok V _ n0 p m10 _ rfl bk M R (by simp only[List.flatten_cons,List.flatten_nil,List.length_append,List.length_cons,List.length_nil];omega)) ?_
   rintro _ bT ⟨m11,bJ,ba⟩;refine⟨ba.next,?_⟩;simp-implicitDefEqProofs(disch:=try exact aj)only[reduceAdd,reduceLeDiff,reduceIte,ax,o9];refine aO (gG (bJ) rfl [[125]] (by simp) (by simp) af (by simp only[List.flatten_cons,List.flatten_nil,List.length_append,List.length_cons,List.length_nil];omega) rfl rfl rfl) ?_;rintro _ bU ⟨bK,m12,a6,bP⟩;refine⟨bK,?_⟩;rw[List.append_assoc,List.append_assoc,List.append_assoc,List.append_assoc]at a6;refine bb.2 (fin _ _ _ a6 ((((i.trans L).trans S).trans ba).trans bP) ?_);show _=pad deep++(flat (wd jA::cf::(bp e++(gU (pad deep) (cc (deep+1) b)++bif c.isEmpty then[]else cf::wd pr::gU (pad deep) (cc (deep+1) c))))++[10])
   have:=lQ (pad deep) (cc (deep+1) c) [];rw[List.append_nil,ch]at this;rw[bs,aK,eV,dq,cv,lQ,dq,eV,this];simp[jA,pr]
 | @«while» d G e b n ak=>
  have Q:=N rfl;have O:=eY n;have bq:=lV (deep:=deep+1) ak af;have E:jl [e] 0=flat (bp e):=rfl;simp-implicitDefEqProofs(disch:=try exact aj)only[reduceAdd,reduceLeDiff,reduceIte,ax,u,Int.reduceBEq,sz,E];refine aO (gG (B) rfl [[119,104,105,108,101,32],flat (bp e),[32,123]] (by simp) (by simp) af (by simp only[List.flatten_cons,List.flatten_nil,List.length_append,List.length_cons,List.length_nil];omega) rfl rfl rfl) ?_;rintro _ A ⟨v,m7,j,i⟩;refine⟨v,?_⟩;have ao:=i.get u T bc;have aH:=(a_.aW (i.aW B.aC B.hm M).s);simp-implicitDefEqProofs(disch:=try exact aj)only[reduceAdd,reduceLeDiff,reduceIte,ax,ao,aU]
  refine aO (a7 d (deep+1) ak af af A ok bv _ n0 p m7 _ rfl aH M j (by simp only[List.flatten_cons,List.flatten_nil,List.length_append,List.length_cons,List.length_nil];omega)) ?_;rintro _ bh ⟨m8,aa,L⟩;refine⟨L.next,?_⟩;simp-implicitDefEqProofs(disch:=try exact aj)only[reduceAdd,reduceLeDiff,reduceIte,ax];refine aO (gG (aa) rfl [[125]] (by simp) (by simp) af (by simp only[List.flatten_cons,List.flatten_nil,List.length_append,List.length_cons,List.length_nil];omega) rfl rfl rfl) ?_;rintro _ aB ⟨am,m10,R,S⟩;refine⟨am,?_⟩;rw[List.append_assoc,List.append_assoc]at R;refine bb.2 (fin _ _ _ R ((i.trans L).trans S) ?_)
  show _=pad deep++(flat (wd nV::cf::(bp e++gU (pad deep) (cc (deep+1) b)))++[10]);have:=lQ (pad deep) (cc (deep+1) b) [];rw[List.append_nil,ch]at this;rw[eV,dq,cv,this];simp[nV]
 | @nd d G=>
  have ap:=a9.rm;have aY:((0:Nat):Int)==0:=rfl;simp only[List.length_nil]at ap;simp-implicitDefEqProofs(disch:=try exact aj)only[reduceAdd,reduceLeDiff,reduceIte,ax,u,Int.reduceBEq,ap,Int.natCast_zero];refine aO (gG (B) rfl [[114,101,116,117,114,110,59]] (by simp) (by simp) af (by simp only[List.flatten_cons,List.flatten_nil,List.length_append,List.length_cons,List.length_nil];omega) rfl rfl rfl) ?_;rintro _ A ⟨v,m7,j,i⟩;refine⟨v,?_⟩;refine bb.2 (fin _ _ _ j i ?_);show _=pad deep++(flat (wd j5::[bO [59]])++[10]);rw[eV,cu,ch];simp[j5]
 | @nf d G e n=>
  have O:=eY n;have Q:=N rfl;have E:jl [e] 0=flat (bp e):=rfl;have ap:∀H',cg P H' .len [41] [b9]=D (I J 1):=λH'=>a9.rm H'
  simp-implicitDefEqProofs(disch:=try exact aj)only[reduceAdd,reduceLeDiff,reduceIte,ax,u,Int.reduceBEq,ap,sz,E];refine aO (gG (B) rfl [[114,101,116,117,114,110,32],flat (bp e),[59]] (by simp) (by simp) af (by simp only[List.flatten_cons,List.flatten_nil,List.length_append,List.length_cons,List.length_nil];omega) rfl rfl rfl) ?_;rintro _ A ⟨v,m7,j,i⟩;refine⟨v,?_⟩;refine bb.2 (fin _ _ _ j i ?_);show _=pad deep++(flat (wd j5::(cf::bp e++[bO [59]]))++[10]);rw[eV,List.cons_append,dq,cv,cu,ch];simp[j5]
 | @print d G e n=>
  have O:=eY n;have Q:=N rfl;have E:jl [e] 0=flat (bp e):=rfl;simp-implicitDefEqProofs(disch:=try exact aj)only[reduceAdd,reduceLeDiff,reduceIte,ax,u,Int.reduceBEq,sz,E];refine aO (gG (B) rfl [[112,114,105,110,116,32],flat (bp e),[59]] (by simp) (by simp) af (by simp only[List.flatten_cons,List.flatten_nil,List.length_append,List.length_cons,List.length_nil];omega) rfl rfl rfl) ?_;rintro _ A ⟨v,m7,j,i⟩;refine⟨v,?_⟩;refine bb.2 (fin _ _ _ j i ?_);show _=pad deep++(flat (wd nT::cf::(bp e++[bO [59]]))++[10]);rw[eV,dq,cv,cu,ch];simp[nT]
 | @call d G e bx n=>
  have O:=eY n;have Q:=N rfl;have E:jl [e] 0=flat (bp e):=rfl;simp-implicitDefEqProofs(disch:=try exact aj)only[reduceAdd,reduceLeDiff,reduceIte,ax,u,Int.reduceBEq,Pl,E];refine aO (gG (B) rfl [flat (bp e),[59]] (by simp) (by simp) af (by simp only[List.flatten_cons,List.flatten_nil,List.length_append,List.length_cons,List.length_nil];omega) rfl rfl rfl) ?_;rintro _ A ⟨v,m7,j,i⟩;refine⟨v,?_⟩;refine bb.2 (fin _ _ _ j i ?_);show _=pad deep++(flat (bp e++[bO [59]])++[10]);rw[cv,cu,ch];simp
section
variable {N:Nat}{H0:ae}{L i n:Nat}{cap:Option Nat}{ro:Bool}{els:List (List ad)}{ok:Nat->Prop}{d deep n0 p m0:Nat}{acc:aG}
def DA(o:deep+d<=51)(y:∀l,ok l->l<n0)(B:ok L)(ad:n<=1000000000)(ab:n0<=m0):∀(es:List br) (j k:Nat) (done:aG) (m:Nat) (H:ae),(∀a ks b c,br.mk a ks b c∈es->kO b/\kO c)->(∀s∈es,ei d s)->H.get L=D (.row ro 9 els)->dM H ok es (els.drop (i+j))->dn es<=1000000000->acc.length+done.length+dn es<=500000000000->n=j+es.length->es.length<k->e4 n0 p m H (acc++done)->cR p m0 H0 m H->
  W (mg (aE P aA) N k (.ptr p 0 0) (I J deep) (.aD L i n 9 cap) (I J n) (I J j) H) λ_ H'=>∃m',e4 n0 p m' H' (acc++(done++flat (cc deep es)))/\cR p m0 H0 m' H'
 |_,_,0,_,_,_,_,_,_,_,_,_,_,x,_,_=>af
 |[],j,k+1,done,m,H,aB,hw,q,he,F,E,u,x,e,w=>by
  have v:¬((j:Int)<(n:Int)):=by simp at u;omega
  simp-implicitDefEqProofs(disch:=try exact aj)only[mg,qv,reduceAdd,reduceLeDiff,reduceIte,ax,v,decide_false];exact bb.2 ⟨m,by rw[cc,ch,List.append_nil];exact e,w⟩
 | .mk a ks b c::es,j,k+1,done,m,H,aB,hw,q,he,F,E,u,x,e,w=>by
  simp only[List.length_cons]at u x;have v:(j:Int)<(n:Int):=af;have ag:((j:Int)).toNat=j:=af;have V:(0:Int)<=(j:Int):=af;have am:IntKind.i64.wrap ((j:Int)+1)=((j+1:Nat):Int):=by rw[wrap_i64 af af];omega
  obtain⟨cs,aT,ak,al⟩:=he.cons;obtain⟨b9,bv,S,T,v1,v2,v3⟩:=lK.1 ak;cases T;obtain⟨ah,ai⟩:=aB a ks b c (List.mem_cons_self ..);have G:=hw (.mk a ks b c) (List.mem_cons_self ..);have hlen:=tz G deep o;rw[dn]at F E;have bz:=v1.eb;have bH:=v2.eb;have bZ:=v3.eb;have pp:=aP.push H (.row U 9 [a.cells b9 bv S]);have A:=Pt ah ai G o af (z:=deep) rfl (v1.aL pp) (v2.aL pp) (v3.aL pp) y (e.aL pp) (by rw[List.length_append];omega);simp only[b2.cells]at aT pp A;simp-implicitDefEqProofs(disch:=try exact aj)only[mg,qv,reduceAdd,reduceLeDiff,reduceIte,ax,v,decide_true,V,ag,q,aT,bz,bH,bZ];refine aO A ?_;rintro _ R ⟨m2,K,O⟩
  refine⟨O.next,?_⟩;simp-implicitDefEqProofs(disch:=try exact aj)only[bg,bx,cZ,am];have Q:=(cR.aL (p:=p) (m:=m) pp).trans O;have M:=Q.aW e.aC e.hm y;have g2:=(M L _ B q).2;have aa:flat (cc deep (.mk a ks b c::es))=flat (fo deep (.mk a ks b c))++flat (cc deep es):=by rw[cc,cv]
  rw[List.append_assoc]at K;rw[aa,<-List.append_assoc done];exact DA o y B ad ab es (j+1) k (done++flat (fo deep (.mk a ks b c))) m2 R (λa ks b c h=>aB a ks b c (List.mem_cons_of_mem _ h)) (λs h=>hw s (List.mem_cons_of_mem _ h)) g2 (by rw[show i+(j+1)=i+j+1 by omega];exact dM.aW M.s _ _ al) af (by rw[List.length_append];omega) af af K (w.trans Q)
end
def w9{es:List br}(aB:∀a ks b c,br.mk a ks b c∈es->kO b/\kO c):kO es:=by
 intro d deep hw s o H ok v z n0 p m acc e h u j n;subst e;refine cG (λ_=>Ml (es.length+1)) ?_;have q:=h.pL;rw[uD];simp-implicitDefEqProofs(disch:=try exact aj)only[reduceAdd,reduceLeDiff,reduceIte,ax,q];by_cases e:es.length=0
 ·obtain rfl:=List.length_eq_zero_iff.1 e;have k:¬((0:Int)<((0:Nat):Int)):=af;simp only[List.length_nil];simp-implicitDefEqProofs(disch:=try exact aj)only[mg,qv,reduceAdd,reduceLeDiff,reduceIte,ax,k,decide_false];exact bb.2 ⟨m,by rw[cc,ch,List.append_nil];exact j,cR.aL (.refl _)⟩
 ·obtain⟨L,i,cap,ro,els,rfl,l,g1,w⟩:=h.row e;have x:=w8 es;exact DA (N:=es.length+1) s u l af j.hm es 0 (es.length+1) [] m H aB hw g1 (by rw[Nat.add_zero];exact w) o (by simpa using n) af af (by rw[List.append_nil];exact j) (cR.aL (.refl _))
def vr(e:br):Prop:=∀(a:b2) (ks:List aJ) (b c:List br),e= .mk a ks b c->kO b/\kO c
def xC:∀(e:br),vr e
 | .mk a ks b c=>by
  have i:∀e∈b,vr e:=λe he=>xC e
  have j:∀e∈c,vr e:=λe he=>xC e
  intro b4 d cy c' h;cases h;exact⟨w9 λb4 d cy c' h=>i _ h _ _ _ _ rfl,w9 λb4 d cy c' h=>j _ h _ _ _ _ rfl⟩
def IU(es:List br):kO es:=w9 λa ks b c _=>xC (.mk a ks b c) a ks b c rfl
section
set_option maxRecDepth 100000
noncomputable section
def oZ(G:ay)(N:Nat)(ba:ad)(H:ae):O:=j (ao P .add 9 X ba (Y [32,123])) λa=>D (a,H)
def NR(G:ay)(N:Nat):∀aa H,bl P G N (o (o (o (o (o (bs Tryd.f30)))))) (bf Tryd.f30) [] (bf Tryd.f30) aa H=oZ G N (aa 6) H:=by
 refine bC (aF _) λaa H=> ?_
 delta oZ;kernel_rfl
def nu(G:ay)(N:Nat)(ar l:ad)(H:ae):O:=aI H (G 59 [l,Y [44,32]] H) λm a=>j (aH P 73 ar 0) λc=>j (aq P a 9 c) λd=>j (ao P .add 9 X (Y [102,117,110,99,32]) d) λi=>j (ao P .add 9 X i (Y [40])) λk=>j (ao P .add 9 U k m) λn=>j (ao P .add 9 X n (Y [41])) λe=>bif ((bh (aq P H 9 c) d&&bh (aq P a 9 c) d)&&X)then(j (aH P 73 ar 2) λo=>j (aq P a 4 o) λp=>aU (D p) (j (aH P 73 ar 3) λq=>j (aq P a 40 q) λs=>aI a (G 20 [s] a) λu h=>j (ao P .add 9 X (Y [58,32]) u) λv=>j (ao P .add 9 U e v) λw=>oZ G N w h) (oZ G N e a))else Z
def NQ(G:ay)(N:Nat):∀aa H,bl P G N (o (o (o (bs Tryd.f30)))) (bf Tryd.f30) [] (bf Tryd.f30) aa H=nu G N (aa 1) (aa 3) H:=by
 refine bC ((aM ah ((aM ah (NR G N) (aF _))) (aF _))) λaa H=> ?_
 delta nu;generalize oZ G N=a;revert a;refine id ?_;intro a;kernel_rfl
def qu(G:ay)(N:Nat)(o:ad->ad->ad->ad->ad->ae->O)(ar l:ad)(m n d:ad)(H:ae):O:=j (ao P .lss 3 U d n) λq=>aU (D q) (j (cl P 23 m d) λs=>j (aq P H 68 s) λu=>cT H [Y [],Y [],I J 0,I J 0] λh i=>bd i (aY P i 68 h u) λa=>j (aH P 68 h 1) λw=>j (aq P a 40 w) λx=>aI a (G 20 [x] a) λy c=>j (aH P 68 h 0) λe=>j (aq P c 9 e) λbS=>j (ao P .add 9 X bS (Y [58,32])) λv=>j (ao P .add 9 U v y) λz=>b1 c (b6 P (c).next 50 1 [(0,z)]) λA k=>aI k (c0 P k [50,50] l A) λB p=>bif ((bh (aq P a 9 e) bS&&(bh (aq P c 9 e) bS&&X))&&X)then(j (ao P .add 3 X d (I J 1)) λE=>o ar B m n E p)else Z) (nu G N ar l H)
def mf(G:ay)(N:Nat):Nat->ad->ad->ad->ad->ad->ae->O
 |0,_,_,_,_,_,_=>Z
 |n+1,ar,c,d,e,a,H=>qu G N (mf G N n) ar c d e a H
def NP(G:ay)(N:Nat)(c:ad->ad->ad->ad->ad->ae->O):∀aa H,bl P G N (aN (aN (o (aN (o (o (bs Tryd.f30))))))) (λaa H=>c (aa 1) (aa 3) (aa 8) (aa 9) (aa 10) H) [(0,(λaa H=>nu G N (aa 1) (aa 3) H))] (bf Tryd.f30) aa H=qu G N c (aa 1) (aa 3) (aa 8) (aa 9) (aa 10) H:=by
 refine bC (aF _) λaa H=> ?_
 delta qu;generalize nu G N=a;revert a;refine id ?_;intro a;kernel_rfl
def uC(G:ay)(N:Nat)(ag:ad)(H:ae):O:=b1 H (d_ (H).next ag) λar a=>j (aH P 73 ar 1) λd=>j (aq P a 23 d) λc=>bg P .len [23] [c] a λe=>mf G N N ar ad.az c e (I J 0) a
def Mk(N:Nat){ag:ad}{H:ae}{r:ad×ae}(h:uC (aE P aA) N ag H=D r):aE P aA 30 [ag] H=D r:=cS N (S:=λG=>uC G N ag H) Tryd.func30 (λG=>dX ((aM ah ((aM ah ((aM ah (NQ G N) ((aM ah ((cX ah ((dW (k:=λm aa H=>mf G N m (aa 1) (aa 3) (aa 8) (aa 9) (aa 10) H) ah (λaa H=>ah) (λm=>NP G N (mf G N m)))))) (aF _))))) (aF _))) (aF _))) (by delta uC;generalize mf G N N=a;revert a;refine id ?_;intro a;kernel_rfl)) h
def nj(G:ay)(N:Nat)(c:ad)(H:ae):O:=j (b7 c) λd=>j (aH P 81 d 0) λe=>aI H (G 32 [e] H) λh a=>D (h,a)
def Nc(G:ay)(N:Nat):∀aa H,bl P G N (o (o (o (o (o (bs Tryd.f10)))))) (bf Tryd.f10) [] (bf Tryd.f10) aa H=nj G N (aa 3) H:=by
 refine bC (aF _) λaa H=> ?_
 delta nj;kernel_rfl
def qk(G:ay)(N:Nat)(q:ad->ad->ad->ad->ae->O)(a o:ad)(p h:ad)(H:ae):O:=j (ao P .lss 3 U h p) λu=>aU (D u) (j (cl P 24 o h) λv=>j (aq P H 73 v) λw=>cT H [Y [],ad.az,.bool U,Y [],I J 0,ad.az,I J 0] λe i=>bd i (aY P i 73 e w) λc=>j (aq P c 73 e) λx=>aI c (G 30 [x] c) λy k=>b1 k (b6 P (k).next 50 1 [(0,y)]) λz l=>aI l (G 29 [a,I J 0,z] l) λK d=>j (aH P 73 e 4) λA=>j (aq P d 71 A) λB=>aI d (G 31 [a,I J 1,B] d) λL m=>b1 m (D (.aD (m).next 0 1 1 (D 1),.row U 1 [[Y [125]]])) λE n=>aI n (G 29 [a,I J 0,E] n) λM s=>j (ao P .add 3 X h (I J 1)) λF=>q a o p F s) (nj G N a H)
def l6(G:ay)(N:Nat):Nat->ad->ad->ad->ad->ae->O
 |0,_,_,_,_,_=>Z
 |n+1,a,c,d,e,H=>qk G N (l6 G N n) a c d e H
def M7(G:ay)(N:Nat)(c:ad->ad->ad->ad->ae->O):∀aa H,bl P G N (aN (aN (o (aN (o (o (o (o (bs Tryd.f10))))))))) (λaa H=>c (aa 3) (aa 63) (aa 64) (aa 65) H) [(6,(λaa H=>nj G N (aa 3) H))] (bf Tryd.f10) aa H=qk G N c (aa 3) (aa 63) (aa 64) (aa 65) H:=by
 refine bC (aF _) λaa H=> ?_
 delta qk;generalize nj G N=a;revert a;refine id ?_;intro a;kernel_rfl
def ni(G:ay)(N:Nat)(ar c:ad)(H:ae):O:=j (aH P 26 ar 2) λd=>j (aq P H 24 d) λa=>bg P .len [24] [a] H λe=>l6 G N N c a e (I J 0) H
def Nb(G:ay)(N:Nat):∀aa H,bl P G N (o (o (o (o (bs Tryd.f10))))) (bf Tryd.f10) [] (bf Tryd.f10) aa H=ni G N (aa 1) (aa 3) H:=by
 refine bC ((aM ah (Nc G N) ((aM ah ((cX ah ((dW (k:=λm aa H=>l6 G N m (aa 3) (aa 63) (aa 64) (aa 65) H) ah (λaa H=>ah) (λm=>M7 G N (l6 G N m)))))) (aF _))))) λaa H=> ?_
 delta ni;generalize l6 G N N=a;revert a;refine id ?_;intro a;kernel_rfl
def ql(G:ay)(N:Nat)(p:ad->ad->ad->ad->ad->ae->O)(ar d:ad)(n o e:ad)(H:ae):O:=j (ao P .lss 3 U e o) λs=>aU (D s) (j (cl P 23 n e) λu=>j (aq P H 68 u) λv=>cT H [Y [],Y [],I J 0,I J 0] λk l=>bd l (aY P l 68 k v) λa=>j (aH P 68 k 1) λw=>j (aq P a 40 w) λx=>aI a (G 20 [x] a) λy c=>j (aH P 68 k 0) λh=>j (aq P c 9 h) λi=>b1 c (b6 P (c).next 50 5 [(0,(Y [103,108,111,98,97,108,32])),(1,i),(2,(Y [58,32])),(3,y),(4,(Y [59]))]) λz m=>aI m (G 29 [d,I J 0,z] m) λB q=>bif ((bh (aq P a 9 h) i&&(bh (aq P c 9 h) i&&X))&&X)then(j (ao P .add 3 X e (I J 1)) λA=>p ar d n o A q)else Z) (ni G N ar d H)
def l7(G:ay)(N:Nat):Nat->ad->ad->ad->ad->ad->ae->O
 |0,_,_,_,_,_,_=>Z
 |n+1,ar,a,c,d,e,H=>ql G N (l7 G N n) ar a c d e H
def M8(G:ay)(N:Nat)(c:ad->ad->ad->ad->ad->ae->O):∀aa H,bl P G N (aN (aN (o (aN (o (o (o (bs Tryd.f10)))))))) (λaa H=>c (aa 1) (aa 3) (aa 47) (aa 48) (aa 49) H) [(4,(λaa H=>ni G N (aa 1) (aa 3) H))] (bf Tryd.f10) aa H=ql G N c (aa 1) (aa 3) (aa 47) (aa 48) (aa 49) H:=by
 refine bC (aF _) λaa H=> ?_
 delta ql;generalize ni G N=a;revert a;refine id ?_;intro a;kernel_rfl
def kt(G:ay)(N:Nat)(ar c:ad)(H:ae):O:=j (aH P 26 ar 1) λd=>j (aq P H 23 d) λa=>bg P .len [23] [a] H λe=>l7 G N N ar c a e (I J 0) H
def Na(G:ay)(N:Nat):∀aa H,bl P G N (o (o (o (bs Tryd.f10)))) (bf Tryd.f10) [] (bf Tryd.f10) aa H=kt G N (aa 1) (aa 3) H:=by
 refine bC ((aM ah (Nb G N) ((aM ah ((cX ah ((dW (k:=λm aa H=>l7 G N m (aa 1) (aa 3) (aa 47) (aa 48) (aa 49) H) ah (λaa H=>ah) (λm=>M8 G N (l7 G N m)))))) (aF _))))) λaa H=> ?_
 delta kt;generalize l7 G N N=a;revert a;refine id ?_;intro a;kernel_rfl
def l5(G:ay)(N:Nat)(a:ad->ad->ad->ad->ad->ae->O)(ar e:ad)(c bS d:ad)(H:ae):O:=j (ao P .add 3 X d (I J 1)) λh=>a ar e c bS h H
def Nd(G:ay)(N:Nat)(a:ad->ad->ad->ad->ad->ae->O):∀aa H,bl P G N (o (o (o (aN (aN (o (aN (o (o (bs Tryd.f10)))))))))) (λaa H=>a (aa 1) (aa 3) (aa 15) (aa 16) (aa 17) H) [(0,(λaa H=>kt G N (aa 1) (aa 3) H))] (bf Tryd.f10) aa H=l5 G N a (aa 1) (aa 3) (aa 15) (aa 16) (aa 17) H:=by
 refine bC (aF _) λaa H=> ?_
 delta l5;kernel_rfl
def nk(G:ay)(N:Nat)(d:ad->ad->ad->ad->ad->ae->O)(ar c:ad)(h bS i:ad)(H:ae):O:=b1 H (D (.aD (H).next 0 1 1 (D 1),.row U 1 [[Y [125]]])) λj a=>aI a (G 29 [c,I J 0,j] a) λk e=>l5 G N d ar c h bS i e
def Nf(G:ay)(N:Nat)(a:ad->ad->ad->ad->ad->ae->O):∀aa H,bl P G N (o (o (o (aN (aN (o (o (aN (aN (o (aN (o (o (bs Tryd.f10)))))))))))))) (λaa H=>l5 G N a (aa 1) (aa 3) (aa 15) (aa 16) (aa 17) H) [(1,(λaa H=>l5 G N a (aa 1) (aa 3) (aa 15) (aa 16) (aa 17) H)),(0,(λaa H=>kt G N (aa 1) (aa 3) H))] (bf Tryd.f10) aa H=nk G N a (aa 1) (aa 3) (aa 15) (aa 16) (aa 17) H:=by
 refine bC (aF _) λaa H=> ?_
 delta nk;generalize l5 G N a=c;revert c;refine id ?_;intro c;kernel_rfl
def qn(G:ay)(N:Nat)(s:ad->ad->ad->ad->ad->ae->O)(u:ad->ad->ad->ad->ad->ad->ad->ad->ae->O)(ar e:ad)(n bS:ad)(o p:ad)(q d:ad)(H:ae):O:=j (ao P .lss 3 U d q) λw=>aU (D w) (j (cl P 23 p d) λx=>j (aq P H 68 x) λy=>cT H [Y [],Y [],I J 0,I J 0] λk l=>bd l (aY P l 68 k y) λa=>j (aH P 68 k 1) λz=>j (aq P a 40 z) λA=>aI a (G 20 [A] a) λB c=>j (aH P 68 k 0) λh=>j (aq P c 9 h) λi=>b1 c (b6 P (c).next 50 4 [(0,i),(1,(Y [58,32])),(2,B),(3,(Y [59]))]) λE m=>aI m (G 29 [e,I J 1,E] m) λK v=>bif ((bh (aq P a 9 h) i&&(bh (aq P c 9 h) i&&X))&&X)then(j (ao P .add 3 X d (I J 1)) λF=>u ar e n bS o p q F v)else Z) (nk G N s ar e n bS o H)
def l8(G:ay)(N:Nat)(a:ad->ad->ad->ad->ad->ae->O):Nat->ad->ad->ad->ad->ad->ad->ad->ad->ae->O
 |0,_,_,_,_,_,_,_,_,_=>Z
 |n+1,ar,j,c,bS,d,e,h,i,H=>qn G N a (l8 G N a n) ar j c bS d e h i H
def M_(G:ay)(N:Nat)(a:ad->ad->ad->ad->ad->ae->O)(d:ad->ad->ad->ad->ad->ad->ad->ad->ae->O):∀aa H,bl P G N (aN (aN (o (aN (o (o (aN (aN (o (o (aN (aN (o (aN (o (o (bs Tryd.f10))))))))))))))))) (λaa H=>d (aa 1) (aa 3) (aa 15) (aa 16) (aa 17) (aa 27) (aa 28) (aa 29) H) [(2,(λaa H=>nk G N a (aa 1) (aa 3) (aa 15) (aa 16) (aa 17) H)),(1,(λaa H=>l5 G N a (aa 1) (aa 3) (aa 15) (aa 16) (aa 17) H)),(0,(λaa H=>kt G N (aa 1) (aa 3) H))] (bf Tryd.f10) aa H=qn G N a d (aa 1) (aa 3) (aa 15) (aa 16) (aa 17) (aa 27) (aa 28) (aa 29) H:=by
 refine bC (aF _) λaa H=> ?_
 delta qn;generalize nk G N a=c;revert c;refine id ?_;intro c;kernel_rfl
def qm(G:ay)(N:Nat)(n:ad->ad->ad->ad->ad->ae->O)(ar e:ad)(l bS d:ad)(H:ae):O:=j (ao P .lss 3 U d bS) λo=>aU (D o) (j (cl P 22 l d) λp=>j (aq P H 65 p) λq=>cT H [Y [],ad.az,I J 0] λh i=>bd i (aY P i 65 h q) λa=>j (aH P 65 h 0) λs=>j (aq P a 9 s) λu=>b1 a (b6 P (a).next 50 3 [(0,(Y [114,101,99,111,114,100,32])),(1,u),(2,(Y [32,123]))]) λv k=>aI k (G 29 [e,I J 0,v] k) λy c=>j (aH P 65 h 1) λw=>j (aq P c 23 w) λm=>bg P .len [23] [m] c λx=>l8 G N n N ar e l bS d m x (I J 0) c) (kt G N ar e H)
def k_(G:ay)(N:Nat):Nat->ad->ad->ad->ad->ad->ae->O
 |0,_,_,_,_,_,_=>Z
 |n+1,ar,d,a,bS,c,H=>qm G N (k_ G N n) ar d a bS c H
def M9(G:ay)(N:Nat)(a:ad->ad->ad->ad->ad->ae->O):∀aa H,bl P G N (aN (aN (o (aN (o (o (bs Tryd.f10))))))) (λaa H=>a (aa 1) (aa 3) (aa 15) (aa 16) (aa 17) H) [(0,(λaa H=>kt G N (aa 1) (aa 3) H))] (bf Tryd.f10) aa H=qm G N a (aa 1) (aa 3) (aa 15) (aa 16) (aa 17) H:=by
 refine bC ((aM ah ((aM ah ((aM ah (Nd G N a) ((cX ah ((aM ah ((aM ah ((aM ah (Nf G N a) ((aM ah ((cX ah ((dW (k:=λm aa H=>l8 G N a m (aa 1) (aa 3) (aa 15) (aa 16) (aa 17) (aa 27) (aa 28) (aa 29) H) ah (λaa H=>ah) (λm=>M_ G N a (l8 G N a m)))))) (aF _))))) (aF _))) (aF _))))))) (aF _))) (aF _))) λaa H=> ?_
 delta qm;generalize kt G N=c;generalize l8 G N a N=d;revert c d;refine id ?_;intro c d;kernel_rfl
def uk(G:ay)(N:Nat)(ag:ad)(H:ae):O:=b1 H (d_ (H).next ag) λar c=>b1 c (pK (D 81) (c).next (.agg [ad.nilPtr,ad.az])) λe a=>j (aH P 26 ar 0) λh=>j (aq P a 22 h) λd=>bg P .len [22] [d] a λbS=>k_ G N N ar e d bS (I J 0) a
def L6(N:Nat){ag:ad}{H:ae}{r:ad×ae}(h:uk (aE P aA) N ag H=D r):aE P aA 10 [ag] H=D r:=cS N (S:=λG=>uk G N ag H) Tryd.func10 (λG=>dX ((aM ah ((aM ah ((aM ah (Na G N) ((aM ah ((cX ah ((dW (k:=λm aa H=>k_ G N m (aa 1) (aa 3) (aa 15) (aa 16) (aa 17) H) ah (λaa H=>ah) (λm=>M9 G N (k_ G N m)))))) (aF _))))) (aF _))) (aF _))) (by delta uk;generalize k_ G N N=a;revert a;refine id ?_;intro a;kernel_rfl)) h
end
end
section
set_option maxRecDepth 100000
noncomputable section
def jw(G:ay)(N:Nat)(a:ad)(H:ae):O:=some (a,H)
def Nq(G:ay)(N:Nat):∀aa H,bl P G N (o (o (o (o (o (bs Tryd.f11)))))) (bf Tryd.f11) [] (bf Tryd.f11) aa H=jw G N (aa 3) H:=by
 refine bC (aF _) λaa H=> ?_
 delta jw;kernel_rfl
def jU(G:ay)(N:Nat)(a:ad->ad->ad->ae->O)(ar c d:ad)(H:ae):O:=j (ao P .add 3 X d (I J 1)) λe=>a ar c e H
def Nr(G:ay)(N:Nat)(a:ad->ad->ad->ae->O):∀aa H,bl P G N (o (o (aN (aN (o (aN (o (o (o (o (bs Tryd.f11))))))))))) (λaa H=>a (aa 1) (aa 3) (aa 7) H) [(6,(λaa H=>jw G N (aa 3) H))] (bf Tryd.f11) aa H=jU G N a (aa 1) (aa 3) (aa 7) H:=by
 refine bC (aF _) λaa H=> ?_
 delta jU;kernel_rfl
def oO(G:ay)(N:Nat)(a:ad->ad->ad->ae->O)(ar m:ad)(n o:ad)(H:ae):O:=j (ao P .add 9 X m (Y [32,123,10])) λd=>j (aH P 73 o 4) λe=>j (aq P H 71 e) λh=>aI H (G 35 [h,I J 1] H) λi c=>j (ao P .add 9 U d i) λk=>j (ao P .add 9 X k (Y [125,10])) λl=>jU G N a ar l n c
def Nt(G:ay)(N:Nat)(a:ad->ad->ad->ae->O):∀aa H,bl P G N (o (o (o (o (o (aN (aN (o (aN (aN (o (aN (o (o (o (o (bs Tryd.f11))))))))))))))))) (λaa H=>jU G N a (aa 1) (aa 3) (aa 7) H) [(7,(λaa H=>jU G N a (aa 1) (aa 3) (aa 7) H)),(6,(λaa H=>jw G N (aa 3) H))] (bf Tryd.f11) aa H=oO G N a (aa 1) (aa 3) (aa 7) (aa 8) H:=by
 refine bC (aF _) λaa H=> ?_
 delta oO;generalize jU G N a=c;revert c;refine id ?_;intro c;kernel_rfl
def kx(G:ay)(N:Nat)(c:ad->ad->ad->ae->O)(ar q:ad)(e a:ad)(H:ae):O:=j (ao P .add 9 X q (Y [41])) λd=>j (aH P 73 a 2) λi=>j (aq P H 4 i) λk=>aU (D k) (j (ao P .add 9 X d (Y [58,32])) λl=>j (aH P 73 a 3) λm=>j (aq P H 40 m) λn=>aI H (G 34 [n] H) λo h=>j (ao P .add 9 U l o) λp=>oO G N c ar p e a h) (oO G N c ar d e a H)
def Ns(G:ay)(N:Nat)(a:ad->ad->ad->ae->O):∀aa H,bl P G N (o (o (o (aN (aN (o (aN (aN (o (aN (o (o (o (o (bs Tryd.f11))))))))))))))) (λaa H=>jU G N a (aa 1) (aa 3) (aa 7) H) [(7,(λaa H=>jU G N a (aa 1) (aa 3) (aa 7) H)),(6,(λaa H=>jw G N (aa 3) H))] (bf Tryd.f11) aa H=kx G N a (aa 1) (aa 3) (aa 7) (aa 8) H:=by
 refine bC ((aM ah ((aM ah (Nt G N a) (aF _))) (aF _))) λaa H=> ?_
 delta kx;generalize oO G N a=c;revert c;refine id ?_;intro c;kernel_rfl
def oP(G:ay)(N:Nat)(k:ad->ad->ad->ae->O)(a:ad->ad->ad->ad->ad->ae->O)(ar c:ad)(d e h:ad)(H:ae):O:=j (ao P .add 3 X h (I J 1)) λi=>a ar c d e i H
def Nu(G:ay)(N:Nat)(a:ad->ad->ad->ae->O)(c:ad->ad->ad->ad->ad->ae->O):∀aa H,bl P G N (o (o (aN (aN (o (aN (o (o (aN (aN (o (aN (aN (o (aN (o (o (o (o (bs Tryd.f11)))))))))))))))))))) (λaa H=>c (aa 1) (aa 3) (aa 7) (aa 8) (aa 9) H) [(8,(λaa H=>kx G N a (aa 1) (aa 3) (aa 7) (aa 8) H)),(7,(λaa H=>jU G N a (aa 1) (aa 3) (aa 7) H)),(6,(λaa H=>jw G N (aa 3) H))] (bf Tryd.f11) aa H=oP G N a c (aa 1) (aa 3) (aa 7) (aa 8) (aa 9) H:=by
 refine bC (aF _) λaa H=> ?_
 delta oP;kernel_rfl
def oQ(G:ay)(N:Nat)(d:ad->ad->ad->ae->O)(e:ad->ad->ad->ad->ad->ae->O)(ar p:ad)(q a c:ad)(H:ae):O:=j (aH P 73 a 1) λi=>j (aq P H 23 i) λk=>j (cl P 23 k c) λl=>j (aq P H 68 l) λm=>aI H (G 33 [m] H) λn h=>j (ao P .add 9 U p n) λo=>oP G N d e ar o q a c h
def Nv(G:ay)(N:Nat)(a:ad->ad->ad->ae->O)(c:ad->ad->ad->ad->ad->ae->O):∀aa H,bl P G N (o (aN (aN (o (aN (aN (o (aN (o (o (aN (aN (o (aN (aN (o (aN (o (o (o (o (bs Tryd.f11)))))))))))))))))))))) (λaa H=>oP G N a c (aa 1) (aa 3) (aa 7) (aa 8) (aa 9) H) [(9,(λaa H=>oP G N a c (aa 1) (aa 3) (aa 7) (aa 8) (aa 9) H)),(8,(λaa H=>kx G N a (aa 1) (aa 3) (aa 7) (aa 8) H)),(7,(λaa H=>jU G N a (aa 1) (aa 3) (aa 7) H)),(6,(λaa H=>jw G N (aa 3) H))] (bf Tryd.f11) aa H=oQ G N a c (aa 1) (aa 3) (aa 7) (aa 8) (aa 9) H:=by
 refine bC (aF _) λaa H=> ?_
 delta oQ;generalize oP G N a c=d;revert d;refine id ?_;intro d;kernel_rfl
def oN(G:ay)(N:Nat)(d:ad->ad->ad->ae->O)(i:ad->ad->ad->ad->ad->ae->O)(ar e:ad)(h a c:ad)(H:ae):O:=j (aH P 73 a 1) λk=>j (aq P H 23 k) λl=>bg P .len [23] [l] H λm=>j (ao P .lss 3 U c m) λn=>aU (D n) (j (ao P .gtr 3 X c (I J 0)) λo=>aU (D o) (j (ao P .add 9 X e (Y [44,32])) λp=>oQ G N d i ar p h a c H) (oQ G N d i ar e h a c H)) (kx G N d ar e h a H)
def kz(G:ay)(N:Nat)(a:ad->ad->ad->ae->O):Nat->ad->ad->ad->ad->ad->ae->O
 |0,_,_,_,_,_,_=>Z
 |n+1,ar,c,d,e,h,H=>oN G N a (kz G N a n) ar c d e h H
def Nk(G:ay)(N:Nat)(a:ad->ad->ad->ae->O)(c:ad->ad->ad->ad->ad->ae->O):∀aa H,bl P G N (aN (aN (o (aN (o (o (aN (aN (o (aN (aN (o (aN (o (o (o (o (bs Tryd.f11)))))))))))))))))) (λaa H=>c (aa 1) (aa 3) (aa 7) (aa 8) (aa 9) H) [(8,(λaa H=>kx G N a (aa 1) (aa 3) (aa 7) (aa 8) H)),(7,(λaa H=>jU G N a (aa 1) (aa 3) (aa 7) H)),(6,(λaa H=>jw G N (aa 3) H))] (bf Tryd.f11) aa H=oN G N a c (aa 1) (aa 3) (aa 7) (aa 8) (aa 9) H:=by
 refine bC ((aM ah ((aM ah (Nu G N a c) ((cX ah ((aM ah (Nv G N a c) (aF _))))))) (aF _))) λaa H=> ?_
 delta oN;generalize kx G N a=d;generalize oQ G N a c=e;revert d e;refine id ?_;intro d e;kernel_rfl
def qs(G:ay)(N:Nat)(i:ad->ad->ad->ae->O)(ar h a:ad)(H:ae):O:=j (aH P 26 ar 2) λk=>j (aq P H 24 k) λl=>bg P .len [24] [l] H λm=>j (ao P .lss 3 U a m) λn=>aU (D n) (j (aH P 26 ar 2) λo=>j (aq P H 24 o) λp=>j (cl P 24 p a) λq=>j (aq P H 73 q) λs=>cT H [Y [],ad.az,.bool U,Y [],I J 0,ad.az,I J 0] λc d=>bd d (aY P d 73 c s) λe=>j (ao P .add 9 X h (Y [102,117,110,99,32])) λu=>j (aH P 73 c 0) λv=>j (aq P e 9 v) λw=>j (ao P .add 9 U u w) λx=>j (ao P .add 9 X x (Y [40])) λy=>kz G N i N ar y a c (I J 0) e) (jw G N h H)
def ky(G:ay)(N:Nat):Nat->ad->ad->ad->ae->O
 |0,_,_,_,_=>Z
 |n+1,ar,a,c,H=>qs G N (ky G N n) ar a c H
def Nj(G:ay)(N:Nat)(a:ad->ad->ad->ae->O):∀aa H,bl P G N (aN (aN (o (aN (o (o (o (o (bs Tryd.f11))))))))) (λaa H=>a (aa 1) (aa 3) (aa 7) H) [(6,(λaa H=>jw G N (aa 3) H))] (bf Tryd.f11) aa H=qs G N a (aa 1) (aa 3) (aa 7) H:=by
 refine bC ((aM ah ((aM ah (Nr G N a) ((cX ah ((aM ah ((aM ah ((aM ah (Ns G N a) ((aM ah ((cX ah ((dW (k:=λm aa H=>kz G N a m (aa 1) (aa 3) (aa 7) (aa 8) (aa 9) H) ah (λaa H=>ah) (λm=>Nk G N a (kz G N a m)))))) (aF _))))) (aF _))) (aF _))))))) (aF _))) λaa H=> ?_
 delta qs;generalize jw G N=c;generalize kz G N a N=d;revert c d;refine id ?_;intro c d;kernel_rfl
def nm(G:ay)(N:Nat)(ar a:ad)(H:ae):O:=ky G N N ar a (I J 0) H
def Np(G:ay)(N:Nat):∀aa H,bl P G N (o (o (o (o (bs Tryd.f11))))) (bf Tryd.f11) [] (bf Tryd.f11) aa H=nm G N (aa 1) (aa 3) H:=by
 refine bC ((aM ah (Nq G N) ((aM ah ((cX ah ((dW (k:=λm aa H=>ky G N m (aa 1) (aa 3) (aa 7) H) ah (λaa H=>ah) (λm=>Nj G N (ky G N m)))))) (aF _))))) λaa H=> ?_
 delta nm;generalize ky G N N=a;revert a;refine id ?_;intro a;kernel_rfl
def qo(G:ay)(N:Nat)(c:ad->ad->ad->ae->O)(ar a ba:ad)(H:ae):O:=j (aH P 26 ar 1) λe=>j (aq P H 23 e) λh=>bg P .len [23] [h] H λi=>j (ao P .lss 3 U ba i) λk=>aU (D k) (j (ao P .add 9 X a (Y [103,108,111,98,97,108,32])) λm=>j (aH P 26 ar 1) λn=>j (aq P H 23 n) λo=>j (cl P 23 o ba) λp=>j (aq P H 68 p) λq=>aI H (G 33 [q] H) λs d=>j (ao P .add 9 U m s) λu=>j (ao P .add 9 X u (Y [59,10])) λv=>j (ao P .add 3 X ba (I J 1)) λl=>c ar v l d) (nm G N ar a H)
def l9(G:ay)(N:Nat):Nat->ad->ad->ad->ae->O
 |0,_,_,_,_=>Z
 |n+1,ar,a,ba,H=>qo G N (l9 G N n) ar a ba H
def Ng(G:ay)(N:Nat)(c:ad->ad->ad->ae->O):∀aa H,bl P G N (aN (aN (o (aN (o (o (o (bs Tryd.f11)))))))) (λaa H=>c (aa 1) (aa 3) (aa 6) H) [(4,(λaa H=>nm G N (aa 1) (aa 3) H))] (bf Tryd.f11) aa H=qo G N c (aa 1) (aa 3) (aa 6) H:=by
 refine bC (aF _) λaa H=> ?_
 delta qo;generalize nm G N=a;revert a;refine id ?_;intro a;kernel_rfl
def ku(G:ay)(N:Nat)(ar a:ad)(H:ae):O:=l9 G N N ar a (I J 0) H
def Nl(G:ay)(N:Nat):∀aa H,bl P G N (o (o (o (bs Tryd.f11)))) (bf Tryd.f11) [] (bf Tryd.f11) aa H=ku G N (aa 1) (aa 3) H:=by
 refine bC ((aM ah (Np G N) ((aM ah ((cX ah ((dW (k:=λm aa H=>l9 G N m (aa 1) (aa 3) (aa 6) H) ah (λaa H=>ah) (λm=>Ng G N (l9 G N m)))))) (aF _))))) λaa H=> ?_
 delta ku;generalize l9 G N N=a;revert a;refine id ?_;intro a;kernel_rfl
def nn(G:ay)(N:Nat)(a:ad->ad->ad->ae->O)(ar c d:ad)(H:ae):O:=j (ao P .add 3 X d (I J 1)) λbS=>a ar c bS H
def Nn(G:ay)(N:Nat)(a:ad->ad->ad->ae->O):∀aa H,bl P G N (o (o (aN (aN (o (aN (o (o (bs Tryd.f11))))))))) (λaa H=>a (aa 1) (aa 3) (aa 4) H) [(0,(λaa H=>ku G N (aa 1) (aa 3) H))] (bf Tryd.f11) aa H=nn G N a (aa 1) (aa 3) (aa 4) H:=by
 refine bC (aF _) λaa H=> ?_
 delta nn;kernel_rfl
def np(G:ay)(N:Nat)(a:ad->ad->ad->ae->O)(ar c d:ad)(H:ae):O:=j (ao P .add 9 X c (Y [125,10])) λe=>nn G N a ar e d H
def No(G:ay)(N:Nat)(a:ad->ad->ad->ae->O):∀aa H,bl P G N (o (o (aN (aN (o (aN (aN (o (aN (o (o (bs Tryd.f11)))))))))))) (λaa H=>nn G N a (aa 1) (aa 3) (aa 4) H) [(1,(λaa H=>nn G N a (aa 1) (aa 3) (aa 4) H)),(0,(λaa H=>ku G N (aa 1) (aa 3) H))] (bf Tryd.f11) aa H=np G N a (aa 1) (aa 3) (aa 4) H:=by
 refine bC (aF _) λaa H=> ?_
 delta np;generalize nn G N a=c;revert c;refine id ?_;intro c;kernel_rfl
def qq(G:ay)(N:Nat)(e:ad->ad->ad->ae->O)(h:ad->ad->ad->ad->ae->O)(ar d:ad)(a c:ad)(H:ae):O:=j (aH P 26 ar 0) λk=>j (aq P H 22 k) λl=>j (cl P 22 l a) λm=>j (aH P 65 m 1) λn=>j (aq P H 23 n) λo=>bg P .len [23] [o] H λp=>j (ao P .lss 3 U c p) λq=>aU (D q) (j (ao P .add 9 X d (Y [32,32])) λu=>j (aH P 26 ar 0) λv=>j (aq P H 22 v) λw=>j (cl P 22 w a) λx=>j (aH P 65 x 1) λy=>j (aq P H 23 y) λz=>j (cl P 23 z c) λA=>j (aq P H 68 A) λB=>aI H (G 33 [B] H) λE i=>j (ao P .add 9 U u E) λF=>j (ao P .add 9 X F (Y [59,10])) λK=>j (ao P .add 3 X c (I J 1)) λs=>h ar K a s i) (np G N e ar d a H)
def l_(G:ay)(N:Nat)(a:ad->ad->ad->ae->O):Nat->ad->ad->ad->ad->ae->O
 |0,_,_,_,_,_=>Z
 |n+1,ar,c,d,e,H=>qq G N a (l_ G N a n) ar c d e H
def Ni(G:ay)(N:Nat)(a:ad->ad->ad->ae->O)(d:ad->ad->ad->ad->ae->O):∀aa H,bl P G N (aN (aN (o (aN (o (aN (aN (o (aN (aN (o (aN (o (o (bs Tryd.f11))))))))))))))) (λaa H=>d (aa 1) (aa 3) (aa 4) (aa 5) H) [(2,(λaa H=>np G N a (aa 1) (aa 3) (aa 4) H)),(1,(λaa H=>nn G N a (aa 1) (aa 3) (aa 4) H)),(0,(λaa H=>ku G N (aa 1) (aa 3) H))] (bf Tryd.f11) aa H=qq G N a d (aa 1) (aa 3) (aa 4) (aa 5) H:=by
 refine bC (aF _) λaa H=> ?_
 delta qq;generalize np G N a=c;revert c;refine id ?_;intro c;kernel_rfl
def qp(G:ay)(N:Nat)(d:ad->ad->ad->ae->O)(ar c a:ad)(H:ae):O:=j (aH P 26 ar 0) λe=>j (aq P H 22 e) λh=>bg P .len [22] [h] H λi=>j (ao P .lss 3 U a i) λk=>aU (D k) (j (ao P .add 9 X c (Y [114,101,99,111,114,100,32])) λl=>j (aH P 26 ar 0) λm=>j (aq P H 22 m) λn=>j (cl P 22 n a) λo=>j (aH P 65 o 0) λp=>j (aq P H 9 p) λq=>j (ao P .add 9 U l q) λs=>j (ao P .add 9 X s (Y [32,123,10])) λu=>l_ G N d N ar u a (I J 0) H) (ku G N ar c H)
def la(G:ay)(N:Nat):Nat->ad->ad->ad->ae->O
 |0,_,_,_,_=>Z
 |n+1,ar,a,c,H=>qp G N (la G N n) ar a c H
def Nh(G:ay)(N:Nat)(a:ad->ad->ad->ae->O):∀aa H,bl P G N (aN (aN (o (aN (o (o (bs Tryd.f11))))))) (λaa H=>a (aa 1) (aa 3) (aa 4) H) [(0,(λaa H=>ku G N (aa 1) (aa 3) H))] (bf Tryd.f11) aa H=qp G N a (aa 1) (aa 3) (aa 4) H:=by
 refine bC ((aM ah ((aM ah (Nn G N a) ((cX ah ((aM ah ((aM ah (No G N a) ((aM ah ((cX ah ((dW (k:=λm aa H=>l_ G N a m (aa 1) (aa 3) (aa 4) (aa 5) H) ah (λaa H=>ah) (λm=>Ni G N a (l_ G N a m)))))) (aF _))))) (aF _))))))) (aF _))) λaa H=> ?_
 delta qp;generalize ku G N=c;generalize l_ G N a N=d;revert c d;refine id ?_;intro c d;kernel_rfl
def um(G:ay)(N:Nat)(ag:ad)(H:ae):O:=b1 H (d_ (H).next ag) λar a=>la G N N ar (Y []) (I J 0) a
def L7(N:Nat){ag:ad}{H:ae}{r:ad×ae}(h:um (aE P aA) N ag H=D r):aE P aA 11 [ag] H=D r:=cS N (S:=λG=>um G N ag H) Tryd.func11 (λG=>dX ((aM ah ((aM ah ((aM ah (Nl G N) ((aM ah ((cX ah ((dW (k:=λm aa H=>la G N m (aa 1) (aa 3) (aa 4) H) ah (λaa H=>ah) (λm=>Nh G N (la G N m)))))) (aF _))))) (aF _))) (aF _))) (by delta um;generalize la G N N=a;revert a;refine id ?_;intro a;kernel_rfl)) h
end
end
section
def cx{α:Type}(F:an->aa α):Prop:=∀s x,F s=D x->x.2.ak=0->s.ak=0/\(0<=s.a8->x.2.a8=s.a8/\x.2.bD=s.bD)
def dj(f:an->an):Prop:=∀s,(f s).ak=0->s.ak=0/\(f s).a8=s.a8/\(f s).bD=s.bD
def cx.bind{α β:Type}{F:an->aa α}{G:α->an->aa β}(h:cx F)(m:∀x,cx (G x)):cx λs=>(F s).bind λp=>G p.1 p.2:=by
 intro s x n l;obtain⟨p,j,k⟩:=ew n;obtain⟨g1,g2⟩:=m p.1 p.2 x k l;obtain⟨f1,f2⟩:=h s p j g1;refine⟨f1,λc=> ?_⟩;obtain⟨a,d⟩:=f2 c;obtain⟨e,i⟩:=g2 (by rw[a];exact c);exact⟨e.trans a,i.trans d⟩
def cx.none{α:Type}{F:an->aa α}(h:∀s,F s=Z):cx F:=λs x a=>by rw[h]at a;cases a
def cx.D4{α:Type}{f:an->α×an}(h:dj λs=>(f s).2):cx λs=>D (f s):=λs x e d=>by
 cases e;obtain⟨a,c⟩:=h s d;exact⟨a,λ_=>c⟩
def dj.comp{f g:an->an}(h:dj f)(k:dj g):dj λs=>g (f s):=λs aB=>by
 obtain⟨aQ,a2,a3⟩:=k _ aB;obtain⟨a,c,b3⟩:=h _ aQ;exact⟨a,a2.trans c,a3.trans b3⟩
def cx.pre{α:Type}{F:an->aa α}{f:an->an}(h:dj f)(k:cx F):cx λs=>F (f s):=λs x l i=>by
 obtain⟨aQ,a2⟩:=k _ x l i;obtain⟨c,a,b3⟩:=h s aQ;refine⟨c,λj=> ?_⟩;obtain⟨d,e⟩:=a2 (by rw[a];exact j);exact⟨d.trans a,e.trans b3⟩
def dj.go:dj av:=λs h=>⟨h,rfl,rfl⟩
def dj.id:dj λs=>s:=λs h=>⟨h,rfl,rfl⟩
variable {T:List Tok}
def iJ{s:an}{e:Int}(he:e≠0)(h:(bE T e s).ak=0):False:=by
 unfold bE at h;split at h
 ·exact he h
 ·rename_i aB;exact aB h
def dj.kI(x:aG):dj λs=>(bR T x s).2:=λs h=>by
 have h:(bR T x s).2.ak=0:=h;show s.ak=0/\(bR T x s).2.a8=s.a8/\(bR T x s).2.bD=s.bD;cases a:bo T s 4 x with
 |true=>
  have e:(bR T x s).2=av s:=by simp[bR,a]
  rw[e]at h ⊢;exact⟨h,rfl,rfl⟩
 |false=>
  have e:(bR T x s).2=bE T 2 s:=by simp[bR,a]
  rw[e]at h;exact(iJ bk h).elim
def dj.iX(x:aG):∀n:Nat,dj (iX T x n)
 |0=>dj.id
 |n+1=>dj.comp (f:=λs=>(bR T x s).2) (g:=YtghmbpmaafnodaaDoor.iX T x n) (dj.kI x) (dj.iX x n)
def DQ:∀(n:Nat) (d:Int) (s:an),(∀c s',fF T n d s= .inl (c,s')->s'.ak=0->s.ak=0/\s'.a8=s.a8/\s'.bD=s.bD)/\∀s',fF T n d s= .inr s'->s'.ak≠0
 |0,d,s=>by
  simp only[fF];cases bo T s 4 [91]with
  |true=>exact⟨λ_ _ h=>(by cases h),λs' h e=>by cases h;exact iJ bk e⟩
  |false=>exact⟨λ_ _ h a=>(by cases h;exact⟨a,rfl,rfl⟩),λ_ h=>(by cases h)⟩
 |n+1,d,s=>by
  simp only[fF];cases bo T s 4 [91]with
  |true=>exact DQ n (d+1) (av s)
  |false=>exact⟨λ_ _ h a=>(by cases h;exact⟨a,rfl,rfl⟩),λ_ h=>(by cases h)⟩
def dj.of:dj λs=>(dD T s).2:=λs h=>by
 obtain⟨i1,i2⟩:=DQ (T:=T) 3 0 s;have a1:(dD T s).2.ak=0:=h;show s.ak=0/\(dD T s).2.a8=s.a8/\(dD T s).2.bD=s.bD;unfold dD at a1 ⊢;cases a:fF T 3 0 s with
 |inr s'=>rw[a]at a1;exact absurd a1 (i2 s' a)
 |inl p=>
  obtain⟨d,s1⟩:=p;rw[a]at a1;simp only at a1 ⊢;cases c:((al T s1.at_).kind != 1&&(!bo T s1 3 [105,110,116]&& !bo T s1 3 [98,111,111,108]))with
  |true=>
   simp only[iO,c,aR]at a1;exact(iJ bk a1).elim
  |false=>
   simp only[iO,c,aK]at a1 ⊢;obtain⟨aQ,a2,a3⟩:=dj.comp dj.go (dj.iX [93] d.toNat) s1 a1;obtain⟨e,i,b3⟩:=i1 d s1 a aQ;exact⟨e,a2.trans i,a3.trans b3⟩
def DR{s:an}{x:aG}(h:(cV T x s).1=X):s.ak=0/\s.a8<50/\(cV T x s).2={s with at_:=eH (s.at_+1),a8:=eH (s.a8+1)}:=by
 unfold cV at h ⊢;cases a:bo T s 4 x with
 |false=>rw[a]at h;cases h
 |true=>
  rw[a]at h;simp only[aR]at h ⊢;split at h
  ·cases h
  ·rename_i c;rw[if_neg c];exact⟨(k0 a).1,af,rfl⟩
def DP{s:an}{x:aG}(h:(cV T x s).1=U):(cV T x s).2.ak≠0:=by
 unfold cV at h ⊢;cases c:bo T s 4 x with
 |false=>exactλa=>iJ bk a
 |true=>
  rw[c]at h;simp only[aR]at h ⊢;split at h
  ·rename_i d;rw[if_pos d];exactλa=>iJ bk a
  ·cases h
def u9{o:Int}(a:0<=o)(c:o<50):eH (o+1)=o+1/\eH (o+1-1)=o:=⟨wrap_i64 af af,by rw[show o+1-1=o by omega];exact wrap_i64 af af⟩
def cx.within{α β:Type}{F:an->aa α}{g:an->α->β}{v:β}{w:an->an}{x:aG}(h:cx F)(hw:∀s,(w s).ak=0->s.ak=0/\(w s).a8=eH (s.a8-1)/\(w s).bD=s.bD):
  cx λs=>bif (cV T x s).1 then(F (cV T x s).2).bind λp=>D (g s p.1,w p.2)else D (v,(cV T x s).2):=by
 intro s y c j;cases a:(cV T x s).1 with
 |false=>
  simp only[a,aK,aS]at c;subst c;exact absurd j (DP a)
 |true=>
  obtain⟨bz,bH,bZ⟩:=DR a;simp only[a,aR]at c;obtain⟨p,m,i⟩:=ew c;simp only[aS]at i;subst i;obtain⟨aQ,a2,a3⟩:=hw p.2 j;obtain⟨n,d⟩:=h _ p m aQ;refine⟨bz,λl=> ?_⟩;obtain⟨e,k⟩:=u9 l bH;rw[bZ]at d;obtain⟨d1,d2⟩:=d (by simp only;rw[e];omega);refine⟨?_,a3.trans d2⟩;show(w p.2).a8=s.a8;rw[a2,d1];simp only
  rw[e,k]
def tH(y:aG)(s:an)(h:(gE T y s).2.ak=0):s.ak=0/\(gE T y s).2.a8=eH (s.a8-1)/\(gE T y s).2.bD=s.bD:=by
 obtain⟨aQ,a2,a3⟩:=dj.kI (T:=T) y (dQ s) h;exact⟨aQ,a2,a3⟩
structure Hu(T:List Tok)(n:Nat):Prop where
 row:∀lev,cx (fJ T n lev)
 hI:∀lev e,cx (hI T n lev e)
 unary:cx (kG T n)
 sign:∀x q,cx (nP T n x q)
 chain:cx (mL T n)
 fl:∀e,cx (fl T n e)
 single:∀x y,cx (h7 T n x y)
 first:cx (jo T n)
 name:cx (oD T n)
 fresh:cx (ow T n)
 list:cx (lY T n)
 hX:∀l s x,hX T n l s=some x->x.2.ak=0->s.ak=0/\(1<=s.a8/\s.a8<=50->x.2.a8=s.a8-1/\x.2.bD=s.bD)
def cx.ite{α:Type}{F G:an->aa α}(c:an->Bool)(h:cx F)(k:cx G):cx λs=>bif c s then F s else G s:=λs x a=>by
 cases d:c s with
 |true=>simp only[d,aR]at a;exact h s x a
 |false=>simp only[d,aK]at a;exact k s x a
def cx.bad{α:Type}{v:α}:cx λs=>D (v,bE T 2 s):=λs x c a=>by
 cases c;exact(iJ bk a).elim
def cx.eq{α:Type}{F G:an->aa α}(h:cx F)(e:∀s,G s=F s):cx G:=λs x a=>h s x (by rw[<-e];exact a)
def DO(T:List Tok):∀n,Hu T n
 |0=>by
  refine⟨?_,?_,?_,?_,?_,?_,?_,?_,?_,?_,?_,?_⟩
  all_goals intros
  all_goals first|exact cx.none λ_=>rfl|(rename_i h _;cases h)
 |n+1=>by
  have i:=DO T n;refine⟨λlev=> ?_,λlev e=> ?_,?_,λx q=> ?_,?_,λe=> ?_,λx y=> ?_,?_,?_,?_,?_,λl=> ?_⟩
  ·by_cases S:lev=5
   ·exact i.unary.eq λs=>by rw[fJ,if_pos S]
   ·exact(cx.bind (i.row (lev+1)) λe=>i.hI lev e).eq λs=>by rw[fJ,if_neg S]
  ·intro s x c d;rw[hI]at c;by_cases B:k1 T lev s=0
   ·rw[if_pos B]at c;cases c;exact⟨d,λ_=>⟨rfl,rfl⟩⟩
   ·rw[if_neg B]at c;exact cx.pre dj.go (cx.bind (i.row (lev+1)) λb=>i.hI lev (.mk {kind:=k1 T lev s,pos:=(al T s.at_).pos} [e,b])) s x c d
  ·exact(cx.ite (λs=>bo T s 4 [45]) (i.sign [45] 12) (cx.ite (λs=>bo T s 4 [33]) (i.sign [33] 13) i.chain)).eq λs=>by rw[kG]
  ·exact(cx.within (T:=T) (x:=x) (g:=λs a=> .mk {kind:=q,pos:=(al T s.at_).pos} [a]) (v:=aJ.zero) (w:=dQ) i.unary λs h=>⟨h,rfl,rfl⟩).eq λs=>by rw[nP]
  ·exact(cx.bind i.first λe=>i.fl e).eq λs=>by rw[mL]
  ·intro s x c d;rw[fl]at c;cases V:(s.ak==0&&(al T s.at_).kind==4)with
   |false=>simp only[V,aK,aS]at c;subst c;exact⟨d,λ_=>⟨rfl,rfl⟩⟩
   |true=>
    simp only[V,aR]at c;cases W:(al T s.at_).text==[46]with
    |true=>
     simp only[W,aR]at c;obtain⟨aQ,a2⟩:=i.fl _ _ x c d;have ag:(hS T e s).2.ak=0->s.ak=0/\(hS T e s).2.a8=s.a8/\(hS T e s).2.bD=s.bD:=by
      unfold hS;cases B:((al T (av s).at_).kind != 1)with
      |true=>exactλh=>(iJ (T:=T) (s:=av s) (e:=2) bk h).elim
      |false=>exactλh=>⟨h,rfl,rfl⟩
     obtain⟨G,o,b3⟩:=ag aQ;refine⟨G,λE=> ?_⟩;obtain⟨A,H⟩:=a2 (by rw[o];exact E);exact⟨A.trans o,H.trans b3⟩
    |false=>
     simp only[W,aK]at c;cases aa:(al T s.at_).text==[91]with
     |true=>
      simp only[aa,aR]at c;exact cx.bind (i.single [91] [93]) (λb=>i.fl (.mk {kind:=6,pos:=(al T s.at_).pos} [e,b])) s x c d
     |false=>simp only[aa,aK,aS]at c;subst c;exact⟨d,λ_=>⟨rfl,rfl⟩⟩
  ·exact(cx.within (T:=T) (x:=x) (g:=λ_ a=>a) (v:=aJ.zero) (w:=λs=>(gE T y s).2) (i.row 0) (tH y)).eq λs=>by rw[h7]
  ·intro s x c d;rw[jo]at c;by_cases N:s.ak=0
   ·rw[if_neg (by simp[N])]at c;by_cases ad:(al T s.at_).kind=2
    ·rw[if_pos ad]at c;cases c;exact⟨d,λ_=>⟨rfl,rfl⟩⟩
    ·rw[if_neg ad]at c;by_cases ab:(al T s.at_).kind=1
     ·rw[if_pos ab]at c;exact i.name s x c d
     ·rw[if_neg ab]at c;by_cases ae:(al T s.at_).kind=3\/(al T s.at_).kind=4
      ·rw[if_pos ae]at c;have aj:cx λs=>D (yl T s):=cx.D4 λs h=>⟨h,rfl,rfl⟩
       have ah:cx λs=>D (xm T s):=cx.D4 (dj.comp dj.go (dj.of (T:=T)))
       have ai:cx λs=>D (oM T s):=by
        refine cx.eq (F:=λs=>(λs=>bif (cV T [40] s).1 then(D ((),(cV T [40] s).2)).bind λp=>D ((),(gE T [41] p.2).2)else D ((),(cV T [40] s).2)) (av s)|>.bind λp=>D (.mk {kind:=11,pos:=(al T s.at_).pos} [],p.2)) ?_ λs=> ?_
        ·intro s y P Q;obtain⟨p,k,m⟩:=ew P;cases m;exact cx.pre dj.go (cx.within (T:=T) (x:=[40]) (F:=λs=>D ((),s)) (g:=λ_ _=>()) (v:=()) (w:=λs=>(gE T [41] s).2) (λs z am an=>by cases am;exact⟨an,λ_=>⟨rfl,rfl⟩⟩) (tH [41])) s p k Q
        ·simp only[oM];cases(cV T [40] (av s)).1<;>rfl
       have hlen:cx λs=>(h7 T n [40] [41] (av s)).bind λp=>D (aJ.mk {kind:=10,pos:=(al T s.at_).pos} [p.1],p.2):=by
        intro s y P Q;obtain⟨p,k,m⟩:=ew P;cases m;exact cx.pre dj.go (i.single [40] [41]) s p k Q
       exact cx.ite (λs=>(al T s.at_).kind==4) (cx.ite (λs=>(al T s.at_).text==[40]) (i.single [40] [41]) cx.bad)
        (cx.ite (λs=>(al T s.at_).text==[116,114,117,101]||(al T s.at_).text==[102,97,108,115,101]) aj (cx.ite (λs=>(al T s.at_).text==[110,117,108,108]) ah
         (cx.ite (λs=>(al T s.at_).text==[110,101,119]) i.fresh (cx.ite (λs=>(al T s.at_).text==[108,101,110]) hlen (cx.ite (λs=>(al T s.at_).text==[114,101,97,100]) ai cx.bad))))) s x c d
      ·rw[if_neg ae]at c;exact cx.bad s x c d
   ·rw[if_pos (by simpa using N)]at c;cases c;exact absurd d N
  ·intro s x c d;rw[oD]at c;cases j:bo T (av s) 4 [40]with
   |true=>
    simp only[j,aR]at c;obtain⟨p,k,m⟩:=ew c;cases m;exact cx.pre dj.go i.list s p k d
   |false=>simp only[j,aK,aS]at c;subst c;exact dj.go s d|>.imp id λh _=>h
  ·intro s x c d;rw[ow]at c;cases j:bo T (av s) 4 [91]with
   |true=>
    simp only[j,aR]at c;obtain⟨p,k,m⟩:=ew c;cases m;exact cx.pre (dj.comp (dj.comp (dj.comp dj.go dj.go) (dj.of (T:=T))) (dj.kI (T:=T) [93])) (i.single [40] [41]) s p k d
   |false=>
    simp only[j,aK,aS]at c;subst c;cases B:((al T (av s).at_).kind != 1)with
    |true=>
     simp only[B,aR]at d;exact(iJ (T:=T) (s:=av s) (e:=2) bk d).elim
    |false=>simp only[B,aK]at d ⊢;exact⟨d,λ_=>⟨rfl,rfl⟩⟩
  ·intro s x c d;rw[lY]at c;cases E:(cV T [40] s).1 with
   |false=>simp only[E,aK,aS]at c;subst c;exact absurd d (DP E)
   |true=>
    obtain⟨bz,bH,bZ⟩:=DR E;simp only[E,aR]at c;cases j:bo T (cV T [40] s).2 4 [41]with
    |true=>
     simp only[j,aR,aS]at c;subst c;obtain⟨aQ,a2,a3⟩:=tH [41] _ d;refine⟨bz,λM=> ?_⟩;obtain⟨A,H⟩:=u9 M bH;rw[bZ]at a2 a3;simp only[A]at a2 a3;rw[H]at a2;rw[bZ];simp only[A];exact⟨a2,a3⟩
    |false=>
     simp only[j,aK]at c;obtain⟨p,k,m⟩:=ew c;obtain⟨aQ,a2⟩:=i.hX [p.1] p.2 x m d;obtain⟨G,o⟩:=i.row 0 _ p k aQ;refine⟨bz,λM=> ?_⟩;obtain⟨A,H⟩:=u9 M bH;rw[bZ]at o;simp only[A]at o;obtain⟨d1,d2⟩:=o af;obtain⟨K,L⟩:=a2 (by rw[d1];omega);exact⟨by rw[K,d1];omega,L.trans d2⟩
  ·intro s x c d;rw[hX]at c;cases u:(e_ T 4 [44] s).1 with
   |false=>
    simp only[u,aK,aS]at c;subst c;have O:(e_ T 4 [44] s).2=s:=by
     unfold e_ at u ⊢;cases j:bo T s 4 [44]with
     |true=>rw[j]at u;cases u
     |false=>rfl
    simp only[O]at d ⊢;obtain⟨aQ,a2,a3⟩:=tH [41] s d;exact⟨aQ,λh=>⟨by rw[a2];exact wrap_i64 af af,a3⟩⟩
   |true=>
    simp only[u,aR]at c;obtain⟨p,k,m⟩:=ew c;have O:(e_ T 4 [44] s).2=av s:=by
     unfold e_ at u ⊢;cases j:bo T s 4 [44]with
     |true=>rfl
     |false=>rw[j]at u;cases u
    rw[O]at k;obtain⟨aQ,a2⟩:=i.hX _ p.2 x m d;obtain⟨G,o⟩:=i.row 0 _ p k aQ;refine⟨G,λh=> ?_⟩;obtain⟨d1,d2⟩:=o (by show(0:Int)<=s.a8;omega);have R:p.2.a8=s.a8:=d1;obtain⟨K,L⟩:=a2 (by rw[R];exact h);exact⟨by rw[K,R],L.trans d2⟩
end
def jS(l:List br)(s:an):List br×Int×Int×Int:=if s.ak=0 then(l,s.at_,0,0)else([],0,s.ak,s.bD)
