/-
  Texts of one proof, laid together: Ve Vf Vg Vh Vi ShVc ShRc T2 T3.
-/
import Derived.Test.YtghmbpmaafnodaaDoorMN
set_option linter.unusedVariables false
set_option linter.unusedSimpArgs false
set_option linter.defProp false
open Option renaming some→D,none→Z
open Bool renaming true→X,false→U
open Go.b9.aa renaming int→I,str→Y
open Go.IntKind renaming i64→J
namespace Go.Proofs.YtghmbpmaafnodaaDoor
open Go.b9
open Nat (reduceAdd reduceLeDiff)
def et(l:aK):List (List aa):=l.map λc=>[I .u8 c.toNat]
def x3(a b:aK):et (a++b)=et a++et b:=List.map_append
def kG(a:aK):(et a).length=a.length:=List.length_map ..
def jm(H:ad)(m:Nat)(acc:aK)(b:aa):Prop:=(acc=[]/\b= .ar)\/(acc≠[]/\b= .aA m 0 acc.length 1 Z/\H.get m=D (.bU 5 1 (et acc)))
def fB(H:ad)(p m:Nat)(acc:aK):Prop:=(acc≠[]->p≠m)/\p<H.next/\∃a b,H.get p=D (.bU 81 2 [[a,b]])/\(a= .nilPtr\/a= .ptr p 0 0)/\jm H m acc b
def cG(p m:Nat)(H:ad)(m':Nat)(H':ad):Prop:=(m'=m\/H.next<=m')/\cP (λl=>l=p\/l=m) H H'
def cG.trans{p m m1 m2:Nat}{H H1 c:ad}(h:cG p m H m1 H1)(k:cG p m1 H1 m2 c):cG p m H m2 c:=by
 obtain⟨aS,a⟩:=h;obtain⟨a2,d⟩:=k;have:=a.1;refine⟨af,Nat.le_trans a.1 d.1,λl e aB=> ?_⟩;simp only[not_or]at aB;rw[d.2 l af (by simp only[not_or];exact⟨aB.1,af⟩)];exact a.2 l e (by simp only[not_or];exact aB)
def cG.aM{p m:Nat}{H H':ad}(h:aO H H'):cG p m H m H':=⟨.inl rfl,h.mut _⟩
def cG.next{p m m':Nat}{H H':ad}(h:cG p m H m' H'):H.next<=H'.next:=h.2.1
def cG.get{p m m':Nat}{H H':ad}(h:cG p m H m' H'){l:Nat}{b:bO}(d:H.get l=D b)(a:l≠p)(c:l≠m):H'.get l=D b:=h.2.get d (by simp only[not_or];exact⟨a,c⟩)
def jm.one{H:ad}{m:Nat}{acc:aK}{b:aa}(h:jm H m acc b):b.one=true:=by rcases h with⟨_,rfl⟩|⟨_,rfl,_⟩<;>rfl
def fB.aM{H H':ad}{p m:Nat}{acc:aK}(h:fB H p m acc)(q:aO H H'):fB H' p m acc:=by
 obtain⟨j,k,a,b,l,n,c⟩:=h;refine⟨j,Nat.lt_of_lt_of_le k q.1,a,b,q.get l,n,?_⟩;rcases c with c|⟨d,e,i⟩
 ·exact .inl c
 ·exact .inr ⟨d,e,q.get i⟩
def pc:P.underlying 77=D (.slice 5):=ah
def q2:P.underlying 9=D .string:=ah
def pJ:hf P 5=D 1:=ah
def pH:eF P 5=D (I .u8 0):=ah
def F2{H:ad}{m:Nat}{acc s:aK}{b:aa}(h:jm H m acc b)(o:acc.length+s.length<=10000000000000):
  ∃j H' m',cQ P H [77,9] b (Y s)=D (j,H')/\jm H' m' (acc++s) j/\((m'=m/\s=[])\/H.next<=m')/\H.next<=H'.next/\∀l,l<H.next->(l≠m\/acc=[])->H'.get l=H.get l:=by
 have d:hH P H 9 1 (Y s)=D (et s):=by simp[hH,q2,et]
 rcases h with⟨rfl,rfl⟩|⟨e,rfl,c⟩
 ·by_cases aB:s=[]
  ·subst aB;refine⟨.ar,H,m,?_,.inl ⟨rfl,rfl⟩,.inl ⟨rfl,rfl⟩,bj _,λ_ _ _=>rfl⟩;simp[cQ,hk,pc,q2,nL,pJ,pH,d,aa.cells,et]
  ·have p:¬s.length=0:=by simpa using aB
   simp only[List.length_nil,Nat.zero_add]at o;refine⟨.aA H.next 0 s.length 1 Z,H.push (.bU 5 1 (et s)),H.next,?_,.inr ⟨by simpa using aB,rfl,ad.bC _ _⟩,.inr (bj _),by simp,λl i _=>ad.dp af⟩;simp[cQ,hk,pc,q2,nL,pJ,pH,d,aa.cells,kG,aB,iR,dx];omega
 ·by_cases aB:s=[]
  ·subst aB;refine⟨.aA m 0 acc.length 1 Z,H,m,?_,.inr (by rw[List.append_nil];exact⟨e,rfl,c⟩),.inl ⟨rfl,rfl⟩,bj _,λ_ _ _=>rfl⟩;simp[cQ,hk,pc,q2,nL,pJ,pH,d,aa.cells,et]
  ·have hm:=ad.aR c;have n:er H m 0 acc.length 1=D (et acc):=by
    unfold er;rw[c];simp[kG];rw[List.take_of_length_le (by rw[kG];omega)]
   refine⟨.aA H.next 0 (acc.length+s.length) 1 Z,(H.set m .dead).push (.bU 5 1 (et acc++et s)),H.next,?_,.inr ⟨by simp[aB],by rw[List.length_append],by rw[x3];simpa only[ad.dj]using ad.bC (H.set m .dead) (.bU 5 1 (et acc++et s))⟩,.inr (bj _),by simp,λl i a=>by
    have a:l≠m:=by rcases a with a|a<;>first|exact a|exact absurd a e
    rw[ad.dp (by simp only[ad.dj];omega),ad.get_set_other af]⟩
   have i:¬s.length=0:=by simpa using aB
   have a:acc.length+s.length<=140737488355328:=af;have k:acc.length+s.length<=9223372036854775807:=af;simp[cQ,hk,pc,q2,nL,pJ,pH,d,aa.cells,kG,a,k,n,c,aB]
def F3{H:ad}{m:Nat}{acc:aK}{b:aa}{c:UInt8}{k:Nat}(h:jm H m acc b)(i:acc≠[])(u:acc.length<=10000000000000)(p:H.get k=D (.row U 1 [[I .u8 c.toNat]])):
  ∃e H' m',cQ P H [77,77] b (.aA k 0 1 1 (D 1))=D (e,H')/\jm H' m' (acc++[c]) e/\H.next<=m'/\H.next<=H'.next/\∀l,l<H.next->l≠m->H'.get l=H.get l:=by
 have q:hH P H 77 1 (.aA k 0 1 1 (D 1))=D (et [c]):=by simp[hH,pc,er,p,et]
 rcases h with⟨rfl,_⟩|⟨_,rfl,a⟩
 ·exact absurd rfl i
 ·have hm:=ad.aR a;have o:er H m 0 acc.length 1=D (et acc):=by
   unfold er;rw[a];simp[kG];rw[List.take_of_length_le (by rw[kG];omega)]
  refine⟨.aA H.next 0 (acc.length+1) 1 Z,(H.set m .dead).push (.bU 5 1 (et acc++et [c])),H.next,?_,.inr ⟨by simp,by rw[List.length_append];rfl,by rw[x3];simpa only[ad.dj]using ad.bC (H.set m .dead) (.bU 5 1 (et acc++et [c]))⟩,bj _,by simp,λl s d=>by rw[ad.dp (by simp only[ad.dj];omega),ad.get_set_other af]⟩;have d:acc.length+1<=140737488355328:=af;have j:acc.length+1<=9223372036854775807:=af;have n:(et [c]).length=1:=rfl;simp[cQ,hk,pc,nL,pJ,pH,q,aa.cells,d,j,n,o,a]
open Classical in
def x8{H:ad}{p m:Nat}{acc:aK}(h:fB H p m acc):∃b H1,aC P ay 80 [.ptr p 0 0] H=D (.tuple [],H1)/\H1.next=H.next/\H1.get p=D (.bU 81 2 [[.ptr p 0 0,b]])/\jm H1 m acc b/\∀l,l≠p->H1.get l=H.get l:=by
 obtain⟨n,o,a,b,d,q,c⟩:=h;rcases q with rfl|rfl
 ·refine⟨b,H.set p (.bU 81 2 [[.ptr p 0 0,b]]),lA ?_,by simp,ad.get_set_same o,?_,λl s=>ad.get_set_other (λe=>s e.symm)⟩
  ·show(match H.get p with
    |some (.bU 81 2 [[.nilPtr,b]])=>if b.one=X then D (aa.tuple [],H.set p (.bU 81 2 [[.ptr p 0 0,b]]))else Z
    |some (.bU 81 2 [[.ptr l' 0 0,_]])=>if l'=p then D (aa.tuple [],H)else Z
    |_=>Z)=_
   rw[d];simp only
   rw[if_pos c.one]
  ·rcases c with c|⟨i,j,k⟩
   ·exact .inl c
   ·exact .inr ⟨i,j,by rw[ad.get_set_other (n i)];exact k⟩
 ·refine⟨b,H,lA ?_,rfl,d,c,λ_ _=>rfl⟩;show(match H.get p with
   |some (.bU 81 2 [[.nilPtr,b]])=>if b.one=X then D (aa.tuple [],H.set p (.bU 81 2 [[.ptr p 0 0,b]]))else Z
   |some (.bU 81 2 [[.ptr l' 0 0,_]])=>if l'=p then D (aa.tuple [],H)else Z
   |_=>Z)=_
  rw[d];simp only
  rw[if_pos trivial]
def EL{H:ad}{p m:Nat}{acc s:aK}(h:fB H p m acc)(u:acc.length+s.length<=10000000000000):W (aC P ay 57 [.ptr p 0 0,Y s] H) λ_ H'=>∃m',fB H' p m' (acc++s)/\cG p m H m' H':=by
 have o:=h.1;have B:=h.2.1;obtain⟨b,H1,k,F,g1,y,z⟩:=x8 h;obtain⟨G,a,m',n,i,hm,n2,w⟩:=F2 y u;have E:=i.one;have c:a.get p=D (.bU 81 2 [[.ptr p 0 0,b]]):=by rw[w p af ((Decidable.em (acc=[])).elim .inr λh=> .inl (o h))];exact g1
 have x:=ad.aR c;have j:H.next<=H1.next:=af
 refine cz (λ_=>JT 0) ?_;rw[sH];have fin:∀cw,jm a m' (acc++s) cw->∃m',fB (a.set p (.bU 81 2 [[.ptr p 0 0,cw]])) p m' (acc++s)/\cG p m H m' (a.set p (.bU 81 2 [[.ptr p 0 0,cw]])):=by
  intro cw d;have v:acc++s≠[]->p≠m':=by
   intro h;rcases hm with⟨rfl,rfl⟩|hm
   ·rw[List.append_nil]at h;exact o h
   ·omega
  refine⟨m',⟨v,by simpa using x,.ptr p 0 0,cw,ad.get_set_same x,.inr rfl,?_⟩,af,by simp only[ad.dj];omega,λl u aB=> ?_⟩
  ·rcases d with d|⟨gb,aY,A⟩
   ·exact .inl d
   ·exact .inr ⟨gb,aY,by rw[ad.get_set_other (v gb)];exact A⟩
  ·simp only[not_or]at aB;rw[ad.get_set_other (λe=>aB.1 e.symm),w l af (.inl aB.2),z l aB.1]
 have q:=i;rcases i with⟨_,rfl⟩|⟨_,rfl,_⟩
 ·simp-implicitDefEqProofs(disch:=try exact al)only[reduceAdd,reduceLeDiff,reduceIte,ax,k,eK,j,g1,n,n2,c];exact bb.2 (fin _ q)
 ·simp-implicitDefEqProofs(disch:=try exact al)only[reduceAdd,reduceLeDiff,reduceIte,ax,k,eK,j,g1,n,n2,c];exact bb.2 (fin _ q)
def Mg(l:Nat)(c:Int):bV P l 77 1 [(0,I .u8 c)]=D (.aA l 0 1 1 (D 1),.row U 1 [[I .u8 c]]):=ah
def MT{H:ad}{p m:Nat}{acc:aK}{c:UInt8}(h:fB H p m acc)(w:acc≠[])(y:acc.length<=10000000000000):W (aC P ay 58 [.ptr p 0 0,I .u8 c.toNat] H) λ_ H'=>∃m',fB H' p m' (acc++[c])/\cG p m H m' H':=by
 have E:=h.1 w;have K:=h.2.1;obtain⟨b,H1,u,M,g1,i,G⟩:=x8 h;have B:=aO.push H1 (.row U 1 [[I .u8 c.toNat]]);have F:jm (H1.push (.row U 1 [[I .u8 c.toNat]])) m acc b:=by
  rcases i with i|⟨gb,aY,o⟩
  ·exact .inl i
  ·exact .inr ⟨gb,aY,B.get o⟩
 obtain⟨N,a,m',v,k,hm,n2,n⟩:=F3 (c:=c) F w y (ad.bC H1 _);simp only[ad.bT]at hm n2 n;have L:=k.one;have d:a.get p=D (.bU 81 2 [[.ptr p 0 0,b]]):=by rw[n p af E];exact B.get g1
 have A:=ad.aR d;have q:H.next<=H1.next:=af
 have s:(H1.push (.row U 1 [[I .u8 c.toNat]])).next<=a.next:=by simp only[ad.bT];omega
 have z:=Mg H1.next c.toNat
 refine cz (λ_=>JU 0) ?_;rw[sI];have fin:∀cw,jm a m' (acc++[c]) cw->∃m',fB (a.set p (.bU 81 2 [[.ptr p 0 0,cw]])) p m' (acc++[c])/\cG p m H m' (a.set p (.bU 81 2 [[.ptr p 0 0,cw]])):=by
  intro cw j;refine⟨m',⟨λ_=>af,by simpa using A,.ptr p 0 0,cw,ad.get_set_same A,.inr rfl,?_⟩,af,by simp only[ad.dj];omega,λl y aB=> ?_⟩
  ·rcases j with j|⟨gb,aY,o⟩
   ·exact .inl j
   ·exact .inr ⟨gb,aY,by rw[ad.get_set_other af];exact o⟩
  ·simp only[not_or]at aB;rw[ad.get_set_other (λe=>aB.1 e.symm),n l af aB.2,ad.dp af,G l aB.1]
 have x:=k;rcases k with⟨_,rfl⟩|⟨_,rfl,_⟩
 ·simp-implicitDefEqProofs(disch:=try exact al)only[reduceAdd,reduceLeDiff,reduceIte,ax,u,eK,q,g1,z,v,s,d];exact bb.2 (fin _ x)
 ·simp-implicitDefEqProofs(disch:=try exact al)only[reduceAdd,reduceLeDiff,reduceIte,ax,u,eK,q,g1,z,v,s,d];exact bb.2 (fin _ x)
def B7:∀n:Nat,(List.replicate n ([32,32]:aK)).flatten=pad n
 |0=>rfl
 |n+1=>by
  rw[List.replicate_succ,List.flatten_cons,B7 n];unfold pad;rw[show 2*(n+1)=2*n+1+1 by omega,List.replicate_succ,List.replicate_succ];rfl
def fB.lt{H:ad}{p m:Nat}{acc:aK}(h:fB H p m acc):p<H.next:=h.2.1
section
variable {N:Nat}{H:ad}{p m k:Nat}{acc:aK}{parts:List aK}{cap:Option Nat}{ro:Bool}
def Bu(u:H.get k=D (.row ro 1 (parts.map λs=>[Y s])))(A:k≠p)(z:k≠m)(x:acc++parts.flatten≠[])(w:parts.length<=1000)(v:acc.length+parts.flatten.length<=10000000000000):∀(rest:List aK) (j n:Nat) (done:List aK) (m1:Nat) (H1:ad),parts=done++rest->done.length=j->rest.length<n->fB H1 p m1 (acc++done.flatten)->cG p m H m1 H1->
  W (lS (aC P ay) N n (.ptr p 0 0) (.aA k 0 parts.length 1 cap) (I J parts.length) (I J j) H1) λ_ H'=>∃m',fB H' p m' (acc++(parts.flatten++[10]))/\cG p m H m' H'
 |_,_,0,_,_,_,_,_,w,_,_=>af
 |[],j,n+1,done,m1,H1,aG,o,y,h,hw=>by
  rw[List.append_nil]at aG;subst aG;have i:¬((j:Int)<(parts.length:Int)):=af;have l:=MT (c:=10) h x (by rw[List.length_append];omega);have B:(((10:UInt8).toNat:Nat):Int)=10:=rfl;rw[B]at l;simp-implicitDefEqProofs(disch:=try exact al)only[lS,qI,oP,reduceAdd,reduceLeDiff,reduceIte,ax,i,decide_false];refine aN l ?_;rintro _ d ⟨m2,e,a⟩;refine⟨a.next,bb.2 ⟨m2,?_,hw.trans a⟩⟩;rw[<-List.append_assoc];exact e
 |s::rest,j,n+1,done,m1,H1,aG,o,y,h,hw=>by
  simp only[List.length_cons]at y;have Q:parts.length=done.length+(rest.length+1):=by rw[aG,List.length_append,List.length_cons]
  have i:(j:Int)<(parts.length:Int):=af;have F:(0:Int)<=(j:Int):=af;have L:((j:Int)).toNat=j:=af;have O:IntKind.i64.wrap ((j:Int)+1)=((j+1:Nat):Int):=by rw[wrap_i64 af af];omega
  have E:=hw.get u A z;have aY:(parts.map λs=>[aa.str s])[0+j]? =D [Y s]:=by
   rw[Nat.zero_add,List.getElem?_map,aG,List.getElem?_append_right af,show j-done.length=0 by omega];rfl
  have M:(parts.map λs=>[aa.str s])[j]? =D [Y s]:=by rw[Nat.zero_add]at aY;exact aY
  have q:parts.flatten=done.flatten++(s++rest.flatten):=by rw[aG];simp
  rw[q]at v;simp only[List.length_append]at v;have G:=EL (s:=s) h (by rw[List.length_append];omega);simp-implicitDefEqProofs(disch:=try exact al)only[lS,qI,reduceAdd,reduceLeDiff,reduceIte,ax,i,decide_true,F,L,E,aY,M];refine aN G ?_;rintro _ d ⟨m2,e,a⟩;refine⟨a.next,?_⟩;simp-implicitDefEqProofs(disch:=try exact al)only[bg,br,c5,O];have K:fB d p m2 (acc++(done++[s]).flatten):=by
   rw[List.flatten_append,<-List.append_assoc];simpa using e
  exact Bu u A z x w (by rw[q];simp only[List.length_append];omega) rest (j+1) n (done++[s]) m2 d (by rw[aG,List.append_assoc];rfl) (by rw[List.length_append,o];rfl) af K (hw.trans a)
def Ih{deep:Nat}{z:Int}(w:z=deep)(l:fB H p m acc)(c:H.get k=D (.row ro 1 (parts.map λs=>[Y s])))(d:k≠p)(x:k≠m)(q:parts.flatten≠[])(o:parts.length<=1000)(B:deep<=1000)(E:acc.length+parts.flatten.length<=1000000000000){n:Nat}(u:n=parts.length):
  W (aC P ay 29 [.ptr p 0 0,I J z,.aA k 0 n 1 cap] H) λ_ H'=>∃m',fB H' p m' (acc++(pad deep++(parts.flatten++[10])))/\cG p m H m' H':=by
 subst w;subst u;refine cz (λ_=>JB (parts.length+1)) ?_;have i:aC P ay 54 [Y [32,32],I J deep] H=D (Y (pad deep),H):=by
  rw[<-B7];exact vC (by simp only[List.length_cons,List.length_nil];omega) af
 have F:=hl deep;have j:=EL (s:=pad deep) l af;rw[su];simp-implicitDefEqProofs(disch:=try exact al)only[reduceAdd,reduceLeDiff,reduceIte,ax,i,eK,bj];refine aN j ?_;rintro _ e ⟨m2,h,a⟩;refine⟨a.next,?_⟩;simp-implicitDefEqProofs(disch:=try exact al)only[reduceAdd,reduceLeDiff,reduceIte,ax];have G:=ad.aR c;have y:k≠m2:=by have:=a.1;omega
 refine(Bu (N:=parts.length+1) (acc:=acc++pad deep) (a.get c d x) d y (by simp[q]) o (by rw[List.length_append];omega) parts 0 (parts.length+1) [] m2 e rfl rfl af (by simpa using h) (cG.aM (.refl _))).mono ?_;rintro v H' ⟨m',b3,A⟩;exact⟨m',by rw[List.append_assoc]at b3;exact b3,a.trans A⟩
end
def mh:bM:={kind:=0,pos:=0}
def M1{H:ad}:W (aC P ay 16 [.agg (bM.cells mh .ar)] H) λr H'=>r= Y []/\aO H H':=by
 have d:∀l,dS l (.agg (bM.cells mh .ar))=D (.ptr l 0 0,.row U 11 [bM.cells mh .ar]):=λl=>hh l _ rfl
 have pp:=aO.push H (.row U 11 [bM.cells mh .ar]);have di:=ad.bC H (.row U 11 [bM.cells mh .ar]);have e:=AP (H:=H.push (.row U 11 [bM.cells mh .ar])) (ok:=λ_=>True) (ks:=[]) (kv:= .ar) (.inl ⟨rfl,rfl⟩) (by simp);refine cz (λ_=>CX 0) ?_;simp only[bM.cells,mh]at d pp di e ⊢;rw[qH];simp-implicitDefEqProofs(disch:=try exact al)only[reduceAdd,reduceLeDiff,reduceIte,ax,d];refine aN e ?_;rintro _ k ⟨b,i,rfl,bH,-,h⟩;refine⟨h.1,?_⟩;have a:=h.bt (.row U 11 [b.cells i]);have c:=a.get di;simp only[bM.cells]at a c;have s0:∀H,aC P ay 46 [I J 0] H=D (Y [],H):=λH=>vL 0 rfl
 have j:aq P .neq 9 X (Y []) (Y [])=D (.bool U):=rfl;simp-implicitDefEqProofs(disch:=try exact al)only[reduceAdd,reduceLeDiff,reduceIte,ax,bH,c,Int.reduceBEq,kW,lQ,s0,eK,bj,j];exact bb.2 ⟨rfl,pp.trans a⟩
def ix(ks:List aL)(j:Nat):aK:=match ks[j]? with
 |some e=>flat (bn e)
 |none=>[]
def ym{H:ad}{ok:Nat->Prop}{ks:List aL}{kv:aa}(h:b8 H ok ks kv)(F:ks.length<=1000000000)(hw:∀e∈ks,∃d,cm d 0 e)(u:∀e∈ks,cF e<=1000000000)(x:e0.hC H)(j:Nat){z:Int}(B:z=j):
  W (aC P ay 41 [kv,I J z] H) λv H1=>∃cs,v= .agg cs/\aO H H1/\∀c,aO H1 c->W (aC P ay 16 [.agg cs] c) λr q=>r= Y (ix ks j)/\aO c q:=by
 subst B;by_cases k:j<ks.length
 ·obtain⟨e,he⟩:∃e,ks[j]? =D e:=⟨ks[j],List.getElem?_eq_getElem k⟩;obtain⟨a,es⟩:=e;obtain⟨l,i,cap,ro,els,E,rfl,g1,aY,m⟩:=h.iX (n:=ks.length) rfl he;refine(rJ rfl k m.eb g1 aY).mono ?_;rintro v H1 ⟨rfl,p⟩;have hm:=List.mem_of_getElem? he;obtain⟨d,y⟩:=hw _ hm;refine⟨_,rfl,p,λc o=> ?_⟩;have:=bx _ d 0 y (u _ hm) a es rfl c ok E (m.aM (p.trans o)) (x.aM (p.trans o));unfold ix;rw[he];exact this
 ·have A:ix ks j=[]:=by unfold ix;rw[List.getElem?_eq_none af]
  rw[A];refine cz (λ_=>vK 0) ?_;have w:=λH'=>h.pN H'
  have s:(ks.length:Int)<=(j:Int):=af;unfold oU;simp-implicitDefEqProofs(disch:=try exact al)only[reduceAdd,reduceLeDiff,reduceIte,ax,w,s,decide_true];exact bb.2 ⟨bM.cells mh .ar,rfl,aO.push _ _,λc _=>M1⟩
def Dj(l:Nat)(a b c d e:aK):bV P l 50 5 [(0,Y a),(1,Y b),(2,Y c),(3,Y d),(4,Y e)]=D (.aA l 0 5 1 (D 5),.row U 1 [[Y a],[Y b],[Y c],[Y d],[Y e]]):=ah
def Md(l:Nat)(a b c d e f g:aK):bV P l 50 7 [(0,Y a),(1,Y b),(2,Y c),(3,Y d),(4,Y e),(5,Y f),(6,Y g)]=D (.aA l 0 7 1 (D 7),.row U 1 [[Y a],[Y b],[Y c],[Y d],[Y e],[Y f],[Y g]]):=ah
def vX(l:Nat)(a b c d:aK):bV P l 50 4 [(0,Y a),(1,Y b),(2,Y c),(3,Y d)]=D (.aA l 0 4 1 (D 4),.row U 1 [[Y a],[Y b],[Y c],[Y d]]):=ah
def qT(l:Nat)(a b c:aK):bV P l 50 3 [(0,Y a),(1,Y b),(2,Y c)]=D (.aA l 0 3 1 (D 3),.row U 1 [[Y a],[Y b],[Y c]]):=ah
def Mc(l:Nat)(a b:aK):bV P l 50 2 [(0,Y a),(1,Y b)]=D (.aA l 0 2 1 (D 2),.row U 1 [[Y a],[Y b]]):=ah
def Ii{H:ad}{p m:Nat}{acc:aK}{deep:Nat}{z:Int}(w:z=deep)(e:fB H p m acc)(hm:m<H.next)(parts:List aK)(q:parts.flatten≠[])(o:parts.length<=1000)(k:deep<=1000)(l:acc.length+parts.flatten.length<=1000000000000){n:Nat}{cap:Option Nat}(u:n=parts.length){ae:List (List aa)}(j:ae=parts.map λs=>[Y s]):
  W (aC P ay 29 [.ptr p 0 0,I J z,.aA H.next 0 n 1 cap] (H.push (.row U 1 ae))) λ_ H'=>∃m',fB H' p m' (acc++(pad deep++(parts.flatten++[10])))/\cG p m H m' H'/\m'<H'.next/\H.next+1<=H'.next:=by
 subst j;have h:=aO.push H (.row U 1 (parts.map λs=>[Y s]));have:=e.lt;refine(Ih w (e.aM h) (ad.bC H _) af af q o k l u).mono ?_;rintro v H' ⟨m',d,i⟩;refine⟨m',d,(cG.aM h).trans i,?_,by have:=i.next;simpa only[ad.bT]using this⟩;obtain⟨_,_,a,b,_,_,c⟩:=d;rcases c with⟨c,_⟩|⟨_,_,c⟩
 ·simp at c
 ·exact ad.aR c
structure eN(n0 p m:Nat)(H:ad)(acc:aK):Prop where
 pos:0<n0
 aG:n0<=p
 hm:n0<=m
 lm:m<H.next
 iu:fB H p m acc
 kK:e0.hC H
def cG.kK{n0 p m m':Nat}{H H':ad}(w:cG p m H m' H')(a:0<n0)(aG:n0<=p)(hm:n0<=m)(g:e0.hC H):e0.hC H':=⟨w.get g.sT af af⟩
def cG.aX{n0 p m m':Nat}{H H':ad}{ok:Nat->Prop}(w:cG p m H m' H')(aG:n0<=p)(hm:n0<=m)(c:∀l,ok l->l<n0):df H ok H' ok:=df.mut w.2 λl h a=>by
 have:=c l h;rcases a with a|a<;>omega
def eN.aM{n0 p m:Nat}{H H':ad}{acc:aK}(h:eN n0 p m H acc)(q:aO H H'):eN n0 p m H' acc:=⟨h.pos,h.aG,h.hm,Nat.lt_of_lt_of_le h.lm q.1,h.iu.aM q,h.kK.aM q⟩
section
variable {n0 p m:Nat}{H:ad}{acc:aK}
def ga(h:eN n0 p m H acc){deep:Nat}{z:Int}(q:z=deep)(parts:List aK)(k:parts.flatten≠[])(j:parts.length<=1000)(e:deep<=1000)(i:acc.length+parts.flatten.length<=1000000000000){n:Nat}{cap:Option Nat}(l:n=parts.length){ae:List (List aa)}(d:ae=parts.map λs=>[Y s]){t:aK}(o:t=pad deep++(parts.flatten++[10])):
  W (aC P ay 29 [.ptr p 0 0,I J z,.aA H.next 0 n 1 cap] (H.push (.row U 1 ae))) λ_ H'=>(H.push (.row U 1 ae)).next<=H'.next/\∃m',eN n0 p m' H' (acc++t)/\cG p m H m' H':=by
 subst o;refine(Ii q h.iu h.lm parts k j e i l d).mono ?_;rintro v H' ⟨m',c,a,u,n2⟩;have hm:=h.hm;have:=a.1;have:=h.lm;exact⟨by simpa only[ad.bT]using n2,m',⟨h.pos,h.aG,af,u,c,a.kK h.pos h.aG h.hm h.kK⟩,a⟩
end
def jV(b:List bE):Prop:=∀(d deep:Nat),(∀s∈b,ea d s)->deep+d<=51->dv b<=1000000000->∀(H:ad) (ok:Nat->Prop) (v:aa) (z:Int) (n0 p m:Nat) (acc:aK),z=deep->c1 H ok b v->(∀l,ok l->l<n0)->eN n0 p m H acc->acc.length+dv b<=500000000000->W (aC P ay 31 [.ptr p 0 0,I J z,v] H) λ_ H'=>∃m',eN n0 p m' H' (acc++flat (cI deep b))/\cG p m H m' H'
def Gx(a:b2)(b6 bv c:aa)(d:b6.one=X)(e:bv.one=X)(h:c.one=X)(l:Nat):dS l (.agg (a.cells b6 bv c))=D (.ptr l 0 0,.row U 9 [a.cells b6 bv c]):=
 hh l _ (by simp only[b2.cells,List.all_cons,List.all_nil,gJ,hq,d,e,h,Bool.and_self])
def Mk{a:b2}{ks:List aL}{b c:List bE}(a7:jV b)(bL:jV c){d deep:Nat}(aq:ea d (.mk a ks b c))(bt:deep+d<=51)(hle:dY (.mk a ks b c)<=1000000000){H:ad}{ok:Nat->Prop}{b6 bv T:aa}{n0 p m:Nat}{acc:aK}{z:Int}(bF:z=deep)(v1:b8 H ok ks b6)(v2:c1 H ok b bv)(v3:c1 H ok c T)(L:∀l,ok l->l<n0)(ah:eN n0 p m H acc)(bp:acc.length+dY (.mk a ks b c)<=500000000000):
  W (aC P ay 60 [.ptr p 0 0,I J z,.agg (a.cells b6 bv T)] H) λ_ H'=>∃m',eN n0 p m' H' (acc++flat (gr deep (.mk a ks b c)))/\cG p m H m' H':=by
 subst bF;have hlen:=uZ aq deep bt;have bW:=hl deep;have bA:b1 ks+dv b+dv c+400<=dY (.mk a ks b c):=by rw[dY];omega
 have bH:=v1.eb;have bX:=v2.eb;have cj:=v3.eb;have aJ:=Gx a b6 bv T bH bX cj;have pp:=aO.push H (.row U 9 [a.cells b6 bv T]);have di:=ad.bC H (.row U 9 [a.cells b6 bv T]);have n:∀e∈ks,∃d,cm d 0 e:=by
  intro e he;cases aq<;>simp only[List.mem_cons,List.not_mem_nil,or_false]at he<;>first|exact he.elim|(subst he;exact⟨_,by assumption⟩)|(rcases he with rfl|rfl<;>exact⟨_,by assumption⟩)
 have bD:=p8 ks;have a3:∀e∈ks,cF e<=1000000000:=by
  intro e he;have:cF e<=b1 ks:=by
   clear bD n hlen bA hle bp aq v1
   induction ks with
   |nil=>cases he
   |cons k r bI=>
    rw[b1];rcases List.mem_cons.1 he with rfl|he
    ·omega
    ·have:=bI he;omega
  omega
 have a1:ks.length<=1000000000:=af;have aZ:=λ(H':ad) (q:aO H H')=>ym (v1.aM q) a1 n a3 (ah.kK.aM q) 0 (z:=0) rfl
 have a0:=λ(H':ad) (q:aO H H')=>ym (v1.aM q) a1 n a3 (ah.kK.aM q) 1 (z:=1) rfl
 have a8:=I1 v1.beq;refine cz (λ_=>JV 0) ?_;simp only[b2.cells]at aJ pp di ⊢;rw[sJ];simp-implicitDefEqProofs(disch:=try exact al)only[reduceAdd,reduceLeDiff,reduceIte,ax,aJ];refine aN (aZ _ pp) ?_;rintro _ bd ⟨bi,rfl,au,ag⟩;refine⟨au.1,?_⟩;refine aN (ag _ (.refl _)) ?_;rintro _ be ⟨rfl,av⟩;refine⟨av.1,?_⟩;have aH:=au.get di;have an:=av.get aH;have aU:=(pp.trans au).trans av;simp-implicitDefEqProofs(disch:=try exact al)only[reduceAdd,reduceLeDiff,reduceIte,ax,an];refine aN (a0 _ aU) ?_;rintro _ bf ⟨bj,rfl,az,aw⟩;refine⟨az.1,?_⟩;refine aN (aw _ (.refl _)) ?_;rintro _ aE ⟨rfl,aB⟩;refine⟨aB.1,?_⟩;have o:=aB.get (az.get an)
 have ab:=(aU.trans az).trans aB;simp-implicitDefEqProofs(disch:=try exact al)only[reduceAdd,reduceLeDiff,reduceIte,ax,di,aH,an,o,a8];have A:=ah.aM ab;have bO:cG p m H m aE:=cG.aM ab;have a9:=v1.aM ab;have a_:=v2.aM ab;have bM:=v3.aM ab;have S:H.next≠p/\H.next≠m/\H.next<aE.next:=by
  have:=ah.lm;have:=ah.iu.lt;have:=ad.aR o;omega
 generalize H.next=y at o S ⊢
 clear aZ a0 ag aw au av az aB aU ab di aH an pp aJ a8 v1 v2 v3;clear bd be bf bi bj;obtain⟨S,bc,bY⟩:=S;have aV:IntKind.i64.wrap ((deep:Int)+1)=((deep+1:Nat):Int):=by rw[wrap_i64 af af];omega
 have a2:gr deep (.mk a ks b c)= .b (pad deep)::(hN a ks (cI (deep+1) b) c.isEmpty (cI (deep+1) c) (pad deep)++[nl]):=by rw[gr]
 have aS:flat (gr deep (.mk a ks b c))=pad deep++(flat (hN a ks (cI (deep+1) b) c.isEmpty (cI (deep+1) c) (pad deep))++[10]):=by rw[a2,ug,c3,mH,cY];rfl
 have M:∀{e:aL} {r:List aL},ks=e::r->cF e<=b1 ks:=by intro e r h;rw[h,b1];omega
 have bu:∀{e f:aL} {r:List aL},ks=e::f::r->cF e+cF f<=b1 ks:=by intro e f r h;rw[h,b1,b1];omega
 rw[aS];clear a2 aS;have fin:∀(t:aK) (v:ad) (m7:Nat),eN n0 p m7 v (acc++t)->cG p m aE m7 v->t=pad deep++(flat (hN a ks (cI (deep+1) b) c.isEmpty (cI (deep+1) c) (pad deep))++[10])->∃m',eN n0 p m' v (acc++(pad deep++(flat (hN a ks (cI (deep+1) b) c.isEmpty (cI (deep+1) c) (pad deep))++[10])))/\cG p m H m' v:=λt v m7 k w e=>⟨m7,by rw[<-e];exact k,bO.trans w⟩
 have ac:∀x y:aK,acc++(x++y)=acc++x++y:=λx y=>(List.append_assoc _ _ _).symm
 clear n;cases aq with
 | @var d x ai z F ak E=>
  have a5:=eO ak;have bx:=gq E;have bG:=E.2.1;have bz:=iD ai z;simp-implicitDefEqProofs(disch:=try exact al)only[reduceAdd,reduceLeDiff,reduceIte,ax,o,Int.reduceBEq];refine aN (type20 E.1 E.2.1 af) ?_;rintro _ bg ⟨rfl,G⟩;refine⟨G.1,?_⟩;have ae:=G.get o;simp-implicitDefEqProofs(disch:=try exact al)only[reduceAdd,reduceLeDiff,reduceIte,ax,ae,Dj];refine aN (ga (A.aM G) rfl [[118,97,114,32],x,[58,32],flat (cX ai z),[59]] (by simp) (by simp) af (by simp only[List.flatten_cons,List.flatten_nil,List.length_append,List.length_cons,List.length_nil];omega) rfl rfl rfl) ?_;rintro _ v ⟨u,m7,j,i⟩;refine⟨u,?_⟩
  simp-implicitDefEqProofs(disch:=try exact al)only[reduceAdd,reduceLeDiff,reduceIte,ax,o,ae];refine bb.2 (fin _ _ _ j ((cG.aM G).trans i) ?_);show _=pad deep++(flat (wd pf::cq::(jE x ai z++[bQ [59]]))++[10]);rw[gF,dV,ui,cT,cY];simp[pf]
 | @lets d x ai z F e ak E n=>
  have a5:=eO ak;have bx:=gq E;have bG:=E.2.1;have bz:=iD ai z;have N:=gH n;have O:=M rfl;have B:ix [e] 0=flat (bn e):=rfl;simp-implicitDefEqProofs(disch:=try exact al)only[reduceAdd,reduceLeDiff,reduceIte,ax,o,Int.reduceBEq];refine aN (type20 E.1 E.2.1 af) ?_;rintro _ bg ⟨rfl,G⟩;refine⟨G.1,?_⟩;have ae:=G.get o;simp-implicitDefEqProofs(disch:=try exact al)only[reduceAdd,reduceLeDiff,reduceIte,ax,ae,Md,B];refine aN (ga (A.aM G) rfl [[108,101,116,32],x,[58,32],flat (cX ai z),[32,61,32],flat (bn e),[59]] (by simp) (by simp) af (by simp only[List.flatten_cons,List.flatten_nil,List.length_append,List.length_cons,List.length_nil];omega) rfl rfl rfl) ?_
  rintro _ v ⟨u,m7,j,i⟩;refine⟨u,?_⟩;simp-implicitDefEqProofs(disch:=try exact al)only[reduceAdd,reduceLeDiff,reduceIte,ax,o,ae];refine bb.2 (fin _ _ _ j ((cG.aM G).trans i) ?_);show _=pad deep++(flat (wd pd::cq::(jE x ai z++cq::bQ [61]::cq::(bn e++[bQ [59]])))++[10]);rw[gF,dV,ui,dV,cT,dV,c3,cT,cY];simp[pd]
 | @set d x F e ak n=>
  have a5:=eO ak;have N:=gH n;have O:=M rfl;have B:ix [e] 0=flat (bn e):=rfl;simp-implicitDefEqProofs(disch:=try exact al)only[reduceAdd,reduceLeDiff,reduceIte,ax,o,Int.reduceBEq,vX,B];refine aN (ga (A) rfl [x,[32,61,32],flat (bn e),[59]] (by simp) (by simp) af (by simp only[List.flatten_cons,List.flatten_nil,List.length_append,List.length_cons,List.length_nil];omega) rfl rfl rfl) ?_;rintro _ v ⟨u,m7,j,i⟩;refine⟨u,?_⟩;refine bb.2 (fin _ _ _ j i ?_);show _=pad deep++(flat (cg x::cq::bQ [61]::cq::(bn e++[bQ [59]]))++[10]);rw[iA,dV,cT,dV,c3,cT,cY];simp
 | @put d F e f bw n bB=>
  have O:=bu rfl;have N:=gH n;have aS:=gH bB;have B:ix [e,f] 0=flat (bn e):=rfl;have bm:ix [e,f] 1=flat (bn f):=rfl;simp-implicitDefEqProofs(disch:=try exact al)only[reduceAdd,reduceLeDiff,reduceIte,ax,o,Int.reduceBEq,vX,B,bm];refine aN (ga (A) rfl [flat (bn e),[32,61,32],flat (bn f),[59]] (by simp) (by simp) af (by simp only[List.flatten_cons,List.flatten_nil,List.length_append,List.length_cons,List.length_nil];omega) rfl rfl rfl) ?_;rintro _ v ⟨u,m7,j,i⟩;refine⟨u,?_⟩;refine bb.2 (fin _ _ _ j i ?_);show _=pad deep++(flat (bn e++cq::bQ [61]::cq::(bn f++[bQ [59]]))++[10]);rw[c3,dV,cT,dV,c3,cT,cY]
  simp
 | @ifs d F e b c n aj a4=>
  have O:=M rfl;have N:=gH n;have bq:=p6 (deep:=deep+1) aj af;have bV:=p6 (deep:=deep+1) a4 af;have B:ix [e] 0=flat (bn e):=rfl;simp-implicitDefEqProofs(disch:=try exact al)only[reduceAdd,reduceLeDiff,reduceIte,ax,o,Int.reduceBEq,qT,B];refine aN (ga (A) rfl [[105,102,32],flat (bn e),[32,123]] (by simp) (by simp) af (by simp only[List.flatten_cons,List.flatten_nil,List.length_append,List.length_cons,List.length_nil];omega) rfl rfl rfl) ?_;rintro _ v ⟨u,m7,j,i⟩;refine⟨u,?_⟩;have ao:=i.get o S bc;have bP:y≠m7:=by have:=i.1;omega
  have aF:=(a_.aX (i.aX A.aG A.hm L).s);have bl:=(bM.aX (i.aX A.aG A.hm L).s);simp-implicitDefEqProofs(disch:=try exact al)only[reduceAdd,reduceLeDiff,reduceIte,ax,ao,aV];refine aN (a7 d (deep+1) aj af af v ok bv _ n0 p m7 _ rfl aF L j (by simp only[List.flatten_cons,List.flatten_nil,List.length_append,List.length_cons,List.length_nil];omega)) ?_;rintro _ bh ⟨m8,V,K⟩;refine⟨K.next,?_⟩;have aI:=K.get ao S bP;have bR:y≠m8:=by have:=K.1;have:=i.next;omega
  have aW:=(bl.aX (K.aX j.aG j.hm L).s);have aQ:=aW.tW;by_cases aP:c=[]
  ·subst aP;have aY:¬((0:Int)<((0:Nat):Int)):=af;simp only[List.length_nil]at aQ;simp-implicitDefEqProofs(disch:=try exact al)only[reduceAdd,reduceLeDiff,reduceIte,ax,aI,aQ,aY,decide_false,ny];refine aN (ga (V) rfl [[125]] (by simp) (by simp) af (by simp only[List.flatten_cons,List.flatten_nil,List.length_append,List.length_cons,List.length_nil];omega) rfl rfl rfl) ?_;rintro _ aD ⟨am,m10,Q,R⟩;refine⟨am,?_⟩;rw[List.append_assoc,List.append_assoc]at Q;refine bb.2 (fin _ _ _ Q ((i.trans K).trans R) ?_);show _=pad deep++(flat (wd lg::cq::(bn e++(hM (pad deep) (cI (deep+1) b)++[])))++[10]);rw[gF,dV,c3,pS,cY]
   simp[lg]
  ·have bs:(0:Int)<(c.length:Int):=by have:=List.length_pos_iff.2 aP;omega
   have br:c.isEmpty=false:=by cases c<;>first|exact absurd rfl aP|rfl
   simp-implicitDefEqProofs(disch:=try exact al)only[reduceAdd,reduceLeDiff,reduceIte,ax,aI,aQ,bs,decide_true];refine aN (ga (V) rfl [[125,32,101,108,115,101,32,123]] (by simp) (by simp) af (by simp only[List.flatten_cons,List.flatten_nil,List.length_append,List.length_cons,List.length_nil];omega) rfl rfl rfl) ?_;rintro _ aD ⟨am,m10,Q,R⟩;refine⟨am,?_⟩;have bo:=R.get aI S bR;have bk:=(aW.aX (R.aX V.aG V.hm L).s);simp-implicitDefEqProofs(disch:=try exact al)only[reduceAdd,reduceLeDiff,reduceIte,ax,bo,aV];refine aN (bL d (deep+1) a4 af af aD ok T _ n0 p m10 _ rfl bk L Q (by simp only[List.flatten_cons,List.flatten_nil,List.length_append,List.length_cons,List.length_nil];omega)) ?_
   rintro _ bS ⟨m11,bJ,ba⟩;refine⟨ba.next,?_⟩;simp-implicitDefEqProofs(disch:=try exact al)only[reduceAdd,reduceLeDiff,reduceIte,ax,ny];refine aN (ga (bJ) rfl [[125]] (by simp) (by simp) af (by simp only[List.flatten_cons,List.flatten_nil,List.length_append,List.length_cons,List.length_nil];omega) rfl rfl rfl) ?_;rintro _ bT ⟨bK,m12,a6,bN⟩;refine⟨bK,?_⟩;rw[List.append_assoc,List.append_assoc,List.append_assoc,List.append_assoc]at a6;refine bb.2 (fin _ _ _ a6 ((((i.trans K).trans R).trans ba).trans bN) ?_);show _=pad deep++(flat (wd lg::cq::(bn e++(hM (pad deep) (cI (deep+1) b)++bif c.isEmpty then[]else cq::wd q3::hM (pad deep) (cI (deep+1) c))))++[10])
   have:=pS (pad deep) (cI (deep+1) c) [];rw[List.append_nil,cY]at this;rw[br,aT,gF,dV,c3,pS,dV,gF,this];simp[lg,q3]
 | @«while» d F e b n aj=>
  have O:=M rfl;have N:=gH n;have bq:=p6 (deep:=deep+1) aj af;have B:ix [e] 0=flat (bn e):=rfl;simp-implicitDefEqProofs(disch:=try exact al)only[reduceAdd,reduceLeDiff,reduceIte,ax,o,Int.reduceBEq,qT,B];refine aN (ga (A) rfl [[119,104,105,108,101,32],flat (bn e),[32,123]] (by simp) (by simp) af (by simp only[List.flatten_cons,List.flatten_nil,List.length_append,List.length_cons,List.length_nil];omega) rfl rfl rfl) ?_;rintro _ v ⟨u,m7,j,i⟩;refine⟨u,?_⟩;have ao:=i.get o S bc;have aF:=(a_.aX (i.aX A.aG A.hm L).s);simp-implicitDefEqProofs(disch:=try exact al)only[reduceAdd,reduceLeDiff,reduceIte,ax,ao,aV]
  refine aN (a7 d (deep+1) aj af af v ok bv _ n0 p m7 _ rfl aF L j (by simp only[List.flatten_cons,List.flatten_nil,List.length_append,List.length_cons,List.length_nil];omega)) ?_;rintro _ bh ⟨m8,V,K⟩;refine⟨K.next,?_⟩;simp-implicitDefEqProofs(disch:=try exact al)only[reduceAdd,reduceLeDiff,reduceIte,ax];refine aN (ga (V) rfl [[125]] (by simp) (by simp) af (by simp only[List.flatten_cons,List.flatten_nil,List.length_append,List.length_cons,List.length_nil];omega) rfl rfl rfl) ?_;rintro _ aD ⟨am,m10,Q,R⟩;refine⟨am,?_⟩;rw[List.append_assoc,List.append_assoc]at Q;refine bb.2 (fin _ _ _ Q ((i.trans K).trans R) ?_)
  show _=pad deep++(flat (wd pg::cq::(bn e++hM (pad deep) (cI (deep+1) b)))++[10]);have:=pS (pad deep) (cI (deep+1) b) [];rw[List.append_nil,cY]at this;rw[gF,dV,c3,this];simp[pg]
 | @mZ d F=>
  have ap:=a9.pN;have aY:((0:Nat):Int)==0:=rfl;simp only[List.length_nil]at ap;simp-implicitDefEqProofs(disch:=try exact al)only[reduceAdd,reduceLeDiff,reduceIte,ax,o,Int.reduceBEq,ap,Int.natCast_zero];refine aN (ga (A) rfl [[114,101,116,117,114,110,59]] (by simp) (by simp) af (by simp only[List.flatten_cons,List.flatten_nil,List.length_append,List.length_cons,List.length_nil];omega) rfl rfl rfl) ?_;rintro _ v ⟨u,m7,j,i⟩;refine⟨u,?_⟩;refine bb.2 (fin _ _ _ j i ?_);show _=pad deep++(flat (wd mf::[bQ [59]])++[10]);rw[gF,cT,cY];simp[mf]
 | @m_ d F e n=>
  have N:=gH n;have O:=M rfl;have B:ix [e] 0=flat (bn e):=rfl;have ap:∀H',bZ P H' .len [41] [b6]=D (I J 1):=λH'=>a9.pN H'
  simp-implicitDefEqProofs(disch:=try exact al)only[reduceAdd,reduceLeDiff,reduceIte,ax,o,Int.reduceBEq,ap,qT,B];refine aN (ga (A) rfl [[114,101,116,117,114,110,32],flat (bn e),[59]] (by simp) (by simp) af (by simp only[List.flatten_cons,List.flatten_nil,List.length_append,List.length_cons,List.length_nil];omega) rfl rfl rfl) ?_;rintro _ v ⟨u,m7,j,i⟩;refine⟨u,?_⟩;refine bb.2 (fin _ _ _ j i ?_);show _=pad deep++(flat (wd mf::(cq::bn e++[bQ [59]]))++[10]);rw[gF,List.cons_append,dV,c3,cT,cY];simp[mf]
 | @print d F e n=>
  have N:=gH n;have O:=M rfl;have B:ix [e] 0=flat (bn e):=rfl;simp-implicitDefEqProofs(disch:=try exact al)only[reduceAdd,reduceLeDiff,reduceIte,ax,o,Int.reduceBEq,qT,B];refine aN (ga (A) rfl [[112,114,105,110,116,32],flat (bn e),[59]] (by simp) (by simp) af (by simp only[List.flatten_cons,List.flatten_nil,List.length_append,List.length_cons,List.length_nil];omega) rfl rfl rfl) ?_;rintro _ v ⟨u,m7,j,i⟩;refine⟨u,?_⟩;refine bb.2 (fin _ _ _ j i ?_);show _=pad deep++(flat (wd pe::cq::(bn e++[bQ [59]]))++[10]);rw[gF,dV,c3,cT,cY];simp[pe]
 | @call d F e bw n=>
  have N:=gH n;have O:=M rfl;have B:ix [e] 0=flat (bn e):=rfl;simp-implicitDefEqProofs(disch:=try exact al)only[reduceAdd,reduceLeDiff,reduceIte,ax,o,Int.reduceBEq,Mc,B];refine aN (ga (A) rfl [flat (bn e),[59]] (by simp) (by simp) af (by simp only[List.flatten_cons,List.flatten_nil,List.length_append,List.length_cons,List.length_nil];omega) rfl rfl rfl) ?_;rintro _ v ⟨u,m7,j,i⟩;refine⟨u,?_⟩;refine bb.2 (fin _ _ _ j i ?_);show _=pad deep++(flat (bn e++[bQ [59]])++[10]);rw[c3,cT,cY];simp
section
variable {N:Nat}{H0:ad}{L i n:Nat}{cap:Option Nat}{ro:Bool}{els:List (List aa)}{ok:Nat->Prop}{d deep n0 p m0:Nat}{acc:aK}
def Bw(o:deep+d<=51)(y:∀l,ok l->l<n0)(B:ok L)(ae:n<=1000000000)(ab:n0<=m0):∀(es:List bE) (j k:Nat) (done:aK) (m:Nat) (H:ad),(∀a ks b c,bE.mk a ks b c∈es->jV b/\jV c)->(∀s∈es,ea d s)->H.get L=D (.row ro 9 els)->dA H ok es (els.drop (i+j))->dv es<=1000000000->acc.length+done.length+dv es<=500000000000->n=j+es.length->es.length<k->eN n0 p m H (acc++done)->cG p m0 H0 m H->
  W (k0 (aC P ay) N k (.ptr p 0 0) (I J deep) (.aA L i n 9 cap) (I J n) (I J j) H) λ_ H'=>∃m',eN n0 p m' H' (acc++(done++flat (cI deep es)))/\cG p m0 H0 m' H'
 |_,_,0,_,_,_,_,_,_,_,_,_,_,x,_,_=>af
 |[],j,k+1,done,m,H,aB,hw,q,he,F,E,u,x,e,w=>by
  have v:¬((j:Int)<(n:Int)):=by simp at u;omega
  simp-implicitDefEqProofs(disch:=try exact al)only[k0,oR,reduceAdd,reduceLeDiff,reduceIte,ax,v,decide_false];exact bb.2 ⟨m,by rw[cI,cY,List.append_nil];exact e,w⟩
 | .mk a ks b c::es,j,k+1,done,m,H,aB,hw,q,he,F,E,u,x,e,w=>by
  simp only[List.length_cons]at u x;have v:(j:Int)<(n:Int):=af;have ag:((j:Int)).toNat=j:=af;have V:(0:Int)<=(j:Int):=af;have am:IntKind.i64.wrap ((j:Int)+1)=((j+1:Nat):Int):=by rw[wrap_i64 af af];omega
  obtain⟨cs,aY,aj,ak⟩:=he.cons;obtain⟨b6,bv,S,T,v1,v2,v3⟩:=lj.1 aj;cases T;obtain⟨ah,ai⟩:=aB a ks b c (List.mem_cons_self ..);have G:=hw (.mk a ks b c) (List.mem_cons_self ..);have hlen:=uZ G deep o;rw[dv]at F E;have bH:=v1.eb;have bX:=v2.eb;have cj:=v3.eb;have pp:=aO.push H (.row U 9 [a.cells b6 bv S]);have A:=Mk ah ai G o af (z:=deep) rfl (v1.aM pp) (v2.aM pp) (v3.aM pp) y (e.aM pp) (by rw[List.length_append];omega);simp only[b2.cells]at aY pp A;simp-implicitDefEqProofs(disch:=try exact al)only[k0,oR,reduceAdd,reduceLeDiff,reduceIte,ax,v,decide_true,V,ag,q,aY,bH,bX,cj];refine aN A ?_;rintro _ R ⟨m2,K,O⟩
  refine⟨O.next,?_⟩;simp-implicitDefEqProofs(disch:=try exact al)only[bg,br,c5,am];have Q:=(cG.aM (p:=p) (m:=m) pp).trans O;have M:=Q.aX e.aG e.hm y;have g2:=(M L _ B q).2;have aa:flat (cI deep (.mk a ks b c::es))=flat (gr deep (.mk a ks b c))++flat (cI deep es):=by rw[cI,c3]
  rw[List.append_assoc]at K;rw[aa,<-List.append_assoc done];exact Bw o y B ae ab es (j+1) k (done++flat (gr deep (.mk a ks b c))) m2 R (λa ks b c h=>aB a ks b c (List.mem_cons_of_mem _ h)) (λs h=>hw s (List.mem_cons_of_mem _ h)) g2 (by rw[show i+(j+1)=i+j+1 by omega];exact dA.aX M.s _ _ ak) af (by rw[List.length_append];omega) af af K (w.trans Q)
end
def u2{es:List bE}(aB:∀a ks b c,bE.mk a ks b c∈es->jV b/\jV c):jV es:=by
 intro d deep hw s o H ok v z n0 p m acc e h u j n;subst e;refine cz (λ_=>JD (es.length+1)) ?_;have q:=h.tW;rw[sw];simp-implicitDefEqProofs(disch:=try exact al)only[reduceAdd,reduceLeDiff,reduceIte,ax,q];by_cases e:es.length=0
 ·obtain rfl:=List.length_eq_zero_iff.1 e;have k:¬((0:Int)<((0:Nat):Int)):=af;simp only[List.length_nil];simp-implicitDefEqProofs(disch:=try exact al)only[k0,oR,reduceAdd,reduceLeDiff,reduceIte,ax,k,decide_false];exact bb.2 ⟨m,by rw[cI,cY,List.append_nil];exact j,cG.aM (.refl _)⟩
 ·obtain⟨L,i,cap,ro,els,rfl,l,g1,w⟩:=h.row e;have x:=A_ es;exact Bw (N:=es.length+1) s u l af j.hm es 0 (es.length+1) [] m H aB hw g1 (by rw[Nat.add_zero];exact w) o (by simpa using n) af af (by rw[List.append_nil];exact j) (cG.aM (.refl _))
def tj(e:bE):Prop:=∀(a:b2) (ks:List aL) (b c:List bE),e= .mk a ks b c->jV b/\jV c
def vp:∀(e:bE),tj e
 | .mk a ks b c=>by
  have i:∀e∈b,tj e:=λe he=>vp e
  have j:∀e∈c,tj e:=λe he=>vp e
  intro b0 d cw c' h;cases h;exact⟨u2 λb0 d cw c' h=>i _ h _ _ _ _ rfl,u2 λb0 d cw c' h=>j _ h _ _ _ _ rfl⟩
def Gn(es:List bE):jV es:=u2 λa ks b c _=>vp (.mk a ks b c) a ks b c rfl
section
set_option maxRecDepth 100000
noncomputable section
def nn(G:az)(N:Nat)(bo:aa)(H:ad):O:=j (aq P .add 9 X bo (Y [32,123])) λa=>D (a,H)
def KO(G:az)(N:Nat):∀ae H,bp P G N (ak (ak (ak (ak (ak (bs Tryd.f30)))))) (bk Tryd.f30) [] (bk Tryd.f30) ae H=nn G N (ae 6) H:=by
 refine bL (aJ _) λae H=> ?_
 delta nn;kernel_rfl
def lT(G:az)(N:Nat)(aw l:aa)(H:ad):O:=aH H (G 59 [l,Y [44,32]] H) λm a=>j (aI P 73 aw 0) λc=>j (an P a 9 c) λd=>j (aq P .add 9 X (Y [102,117,110,99,32]) d) λi=>j (aq P .add 9 X i (Y [40])) λk=>j (aq P .add 9 U k m) λn=>j (aq P .add 9 X n (Y [41])) λe=>bif ((bh (an P H 9 c) d&&bh (an P a 9 c) d)&&X)then(j (aI P 73 aw 2) λo=>j (an P a 4 o) λp=>aW (D p) (j (aI P 73 aw 3) λq=>j (an P a 40 q) λs=>aH a (G 20 [s] a) λu h=>j (aq P .add 9 X (Y [58,32]) u) λv=>j (aq P .add 9 U e v) λw=>nn G N w h) (nn G N e a))else Z
def KN(G:az)(N:Nat):∀ae H,bp P G N (ak (ak (ak (bs Tryd.f30)))) (bk Tryd.f30) [] (bk Tryd.f30) ae H=lT G N (ae 1) (ae 3) H:=by
 refine bL ((aP ah ((aP ah (KO G N) (aJ _))) (aJ _))) λae H=> ?_
 delta lT;generalize nn G N=a;revert a;refine id ?_;intro a;kernel_rfl
def oQ(G:az)(N:Nat)(o:aa->aa->aa->aa->aa->ad->O)(aw l:aa)(m n d:aa)(H:ad):O:=j (aq P .lss 3 U d n) λq=>aW (D q) (j (cB P 23 m d) λs=>j (an P H 68 s) λu=>cf H [Y [],Y [],I J 0,I J 0] λh i=>a7 i (aV P i 68 h u) λa=>j (aI P 68 h 1) λw=>j (an P a 40 w) λx=>aH a (G 20 [x] a) λy c=>j (aI P 68 h 0) λe=>j (an P c 9 e) λbx=>j (aq P .add 9 X bx (Y [58,32])) λv=>j (aq P .add 9 U v y) λz=>bS c (bV P (c).next 50 1 [(0,z)]) λA k=>aH k (cQ P k [50,50] l A) λB p=>bif ((bh (an P a 9 e) bx&&(bh (an P c 9 e) bx&&X))&&X)then(j (aq P .add 3 X d (I J 1)) λE=>o aw B m n E p)else Z) (lT G N aw l H)
def kZ(G:az)(N:Nat):Nat->aa->aa->aa->aa->aa->ad->O
 |0,_,_,_,_,_,_=>Z
 |n+1,aw,c,d,e,a,H=>oQ G N (kZ G N n) aw c d e a H
def KM(G:az)(N:Nat)(c:aa->aa->aa->aa->aa->ad->O):∀ae H,bp P G N (a6 (a6 (ak (a6 (ak (ak (bs Tryd.f30))))))) (λae H=>c (ae 1) (ae 3) (ae 8) (ae 9) (ae 10) H) [(0,(λae H=>lT G N (ae 1) (ae 3) H))] (bk Tryd.f30) ae H=oQ G N c (ae 1) (ae 3) (ae 8) (ae 9) (ae 10) H:=by
 refine bL (aJ _) λae H=> ?_
 delta oQ;generalize lT G N=a;revert a;refine id ?_;intro a;kernel_rfl
def sv(G:az)(N:Nat)(ag:aa)(H:ad):O:=bS H (dS (H).next ag) λaw a=>j (aI P 73 aw 1) λd=>j (an P a 23 d) λc=>bg P .len [23] [c] a λe=>kZ G N N aw aa.ar c e (I J 0) a
def JC(N:Nat){ag:aa}{H:ad}{r:aa×ad}(h:sv (aC P ay) N ag H=D r):aC P ay 30 [ag] H=D r:=cO N (S:=λG=>sv G N ag H) Tryd.func30 (λG=>dN ((aP ah ((aP ah ((aP ah (KN G N) ((aP ah ((dc ah ((ei (k:=λm ae H=>kZ G N m (ae 1) (ae 3) (ae 8) (ae 9) (ae 10) H) ah (λae H=>ah) (λm=>KM G N (kZ G N m)))))) (aJ _))))) (aJ _))) (aJ _))) (by delta sv;generalize kZ G N N=a;revert a;refine id ?_;intro a;kernel_rfl)) h
def lN(G:az)(N:Nat)(c:aa)(H:ad):O:=j (bW c) λd=>j (aI P 81 d 0) λe=>aH H (G 32 [e] H) λh a=>D (h,a)
def Kr(G:az)(N:Nat):∀ae H,bp P G N (ak (ak (ak (ak (ak (bs Tryd.f10)))))) (bk Tryd.f10) [] (bk Tryd.f10) ae H=lN G N (ae 3) H:=by
 refine bL (aJ _) λae H=> ?_
 delta lN;kernel_rfl
def oL(G:az)(N:Nat)(q:aa->aa->aa->aa->ad->O)(a o:aa)(p h:aa)(H:ad):O:=j (aq P .lss 3 U h p) λu=>aW (D u) (j (cB P 24 o h) λv=>j (an P H 73 v) λw=>cf H [Y [],aa.ar,.bool U,Y [],I J 0,aa.ar,I J 0] λe i=>a7 i (aV P i 73 e w) λc=>j (an P c 73 e) λx=>aH c (G 30 [x] c) λy k=>bS k (bV P (k).next 50 1 [(0,y)]) λz l=>aH l (G 29 [a,I J 0,z] l) λK d=>j (aI P 73 e 4) λA=>j (an P d 71 A) λB=>aH d (G 31 [a,I J 1,B] d) λL m=>bS m (D (.aA (m).next 0 1 1 (D 1),.row U 1 [[Y [125]]])) λE n=>aH n (G 29 [a,I J 0,E] n) λM s=>j (aq P .add 3 X h (I J 1)) λF=>q a o p F s) (lN G N a H)
def kS(G:az)(N:Nat):Nat->aa->aa->aa->aa->ad->O
 |0,_,_,_,_,_=>Z
 |n+1,a,c,d,e,H=>oL G N (kS G N n) a c d e H
def Kl(G:az)(N:Nat)(c:aa->aa->aa->aa->ad->O):∀ae H,bp P G N (a6 (a6 (ak (a6 (ak (ak (ak (ak (bs Tryd.f10))))))))) (λae H=>c (ae 3) (ae 63) (ae 64) (ae 65) H) [(6,(λae H=>lN G N (ae 3) H))] (bk Tryd.f10) ae H=oL G N c (ae 3) (ae 63) (ae 64) (ae 65) H:=by
 refine bL (aJ _) λae H=> ?_
 delta oL;generalize lN G N=a;revert a;refine id ?_;intro a;kernel_rfl
def lM(G:az)(N:Nat)(aw c:aa)(H:ad):O:=j (aI P 26 aw 2) λd=>j (an P H 24 d) λa=>bg P .len [24] [a] H λe=>kS G N N c a e (I J 0) H
def Kq(G:az)(N:Nat):∀ae H,bp P G N (ak (ak (ak (ak (bs Tryd.f10))))) (bk Tryd.f10) [] (bk Tryd.f10) ae H=lM G N (ae 1) (ae 3) H:=by
 refine bL ((aP ah (Kr G N) ((aP ah ((dc ah ((ei (k:=λm ae H=>kS G N m (ae 3) (ae 63) (ae 64) (ae 65) H) ah (λae H=>ah) (λm=>Kl G N (kS G N m)))))) (aJ _))))) λae H=> ?_
 delta lM;generalize kS G N N=a;revert a;refine id ?_;intro a;kernel_rfl
def oM(G:az)(N:Nat)(p:aa->aa->aa->aa->aa->ad->O)(aw d:aa)(n o e:aa)(H:ad):O:=j (aq P .lss 3 U e o) λs=>aW (D s) (j (cB P 23 n e) λu=>j (an P H 68 u) λv=>cf H [Y [],Y [],I J 0,I J 0] λk l=>a7 l (aV P l 68 k v) λa=>j (aI P 68 k 1) λw=>j (an P a 40 w) λx=>aH a (G 20 [x] a) λy c=>j (aI P 68 k 0) λh=>j (an P c 9 h) λi=>bS c (bV P (c).next 50 5 [(0,(Y [103,108,111,98,97,108,32])),(1,i),(2,(Y [58,32])),(3,y),(4,(Y [59]))]) λz m=>aH m (G 29 [d,I J 0,z] m) λB q=>bif ((bh (an P a 9 h) i&&(bh (an P c 9 h) i&&X))&&X)then(j (aq P .add 3 X e (I J 1)) λA=>p aw d n o A q)else Z) (lM G N aw d H)
def kT(G:az)(N:Nat):Nat->aa->aa->aa->aa->aa->ad->O
 |0,_,_,_,_,_,_=>Z
 |n+1,aw,a,c,d,e,H=>oM G N (kT G N n) aw a c d e H
def Km(G:az)(N:Nat)(c:aa->aa->aa->aa->aa->ad->O):∀ae H,bp P G N (a6 (a6 (ak (a6 (ak (ak (ak (bs Tryd.f10)))))))) (λae H=>c (ae 1) (ae 3) (ae 47) (ae 48) (ae 49) H) [(4,(λae H=>lM G N (ae 1) (ae 3) H))] (bk Tryd.f10) ae H=oM G N c (ae 1) (ae 3) (ae 47) (ae 48) (ae 49) H:=by
 refine bL (aJ _) λae H=> ?_
 delta oM;generalize lM G N=a;revert a;refine id ?_;intro a;kernel_rfl
def jI(G:az)(N:Nat)(aw c:aa)(H:ad):O:=j (aI P 26 aw 1) λd=>j (an P H 23 d) λa=>bg P .len [23] [a] H λe=>kT G N N aw c a e (I J 0) H
def Kp(G:az)(N:Nat):∀ae H,bp P G N (ak (ak (ak (bs Tryd.f10)))) (bk Tryd.f10) [] (bk Tryd.f10) ae H=jI G N (ae 1) (ae 3) H:=by
 refine bL ((aP ah (Kq G N) ((aP ah ((dc ah ((ei (k:=λm ae H=>kT G N m (ae 1) (ae 3) (ae 47) (ae 48) (ae 49) H) ah (λae H=>ah) (λm=>Km G N (kT G N m)))))) (aJ _))))) λae H=> ?_
 delta jI;generalize kT G N N=a;revert a;refine id ?_;intro a;kernel_rfl
def kR(G:az)(N:Nat)(a:aa->aa->aa->aa->aa->ad->O)(aw e:aa)(c bx d:aa)(H:ad):O:=j (aq P .add 3 X d (I J 1)) λh=>a aw e c bx h H
def Ks(G:az)(N:Nat)(a:aa->aa->aa->aa->aa->ad->O):∀ae H,bp P G N (ak (ak (ak (a6 (a6 (ak (a6 (ak (ak (bs Tryd.f10)))))))))) (λae H=>a (ae 1) (ae 3) (ae 15) (ae 16) (ae 17) H) [(0,(λae H=>jI G N (ae 1) (ae 3) H))] (bk Tryd.f10) ae H=kR G N a (ae 1) (ae 3) (ae 15) (ae 16) (ae 17) H:=by
 refine bL (aJ _) λae H=> ?_
 delta kR;kernel_rfl
def lO(G:az)(N:Nat)(d:aa->aa->aa->aa->aa->ad->O)(aw c:aa)(h bx i:aa)(H:ad):O:=bS H (D (.aA (H).next 0 1 1 (D 1),.row U 1 [[Y [125]]])) λj a=>aH a (G 29 [c,I J 0,j] a) λk e=>kR G N d aw c h bx i e
def Kt(G:az)(N:Nat)(a:aa->aa->aa->aa->aa->ad->O):∀ae H,bp P G N (ak (ak (ak (a6 (a6 (ak (ak (a6 (a6 (ak (a6 (ak (ak (bs Tryd.f10)))))))))))))) (λae H=>kR G N a (ae 1) (ae 3) (ae 15) (ae 16) (ae 17) H) [(1,(λae H=>kR G N a (ae 1) (ae 3) (ae 15) (ae 16) (ae 17) H)),(0,(λae H=>jI G N (ae 1) (ae 3) H))] (bk Tryd.f10) ae H=lO G N a (ae 1) (ae 3) (ae 15) (ae 16) (ae 17) H:=by
 refine bL (aJ _) λae H=> ?_
 delta lO;generalize kR G N a=c;revert c;refine id ?_;intro c;kernel_rfl
def oO(G:az)(N:Nat)(s:aa->aa->aa->aa->aa->ad->O)(u:aa->aa->aa->aa->aa->aa->aa->aa->ad->O)(aw e:aa)(n bx:aa)(o p:aa)(q d:aa)(H:ad):O:=j (aq P .lss 3 U d q) λw=>aW (D w) (j (cB P 23 p d) λx=>j (an P H 68 x) λy=>cf H [Y [],Y [],I J 0,I J 0] λk l=>a7 l (aV P l 68 k y) λa=>j (aI P 68 k 1) λz=>j (an P a 40 z) λA=>aH a (G 20 [A] a) λB c=>j (aI P 68 k 0) λh=>j (an P c 9 h) λi=>bS c (bV P (c).next 50 4 [(0,i),(1,(Y [58,32])),(2,B),(3,(Y [59]))]) λE m=>aH m (G 29 [e,I J 1,E] m) λK v=>bif ((bh (an P a 9 h) i&&(bh (an P c 9 h) i&&X))&&X)then(j (aq P .add 3 X d (I J 1)) λF=>u aw e n bx o p q F v)else Z) (lO G N s aw e n bx o H)
def kU(G:az)(N:Nat)(a:aa->aa->aa->aa->aa->ad->O):Nat->aa->aa->aa->aa->aa->aa->aa->aa->ad->O
 |0,_,_,_,_,_,_,_,_,_=>Z
 |n+1,aw,j,c,bx,d,e,h,i,H=>oO G N a (kU G N a n) aw j c bx d e h i H
def Ko(G:az)(N:Nat)(a:aa->aa->aa->aa->aa->ad->O)(d:aa->aa->aa->aa->aa->aa->aa->aa->ad->O):∀ae H,bp P G N (a6 (a6 (ak (a6 (ak (ak (a6 (a6 (ak (ak (a6 (a6 (ak (a6 (ak (ak (bs Tryd.f10))))))))))))))))) (λae H=>d (ae 1) (ae 3) (ae 15) (ae 16) (ae 17) (ae 27) (ae 28) (ae 29) H) [(2,(λae H=>lO G N a (ae 1) (ae 3) (ae 15) (ae 16) (ae 17) H)),(1,(λae H=>kR G N a (ae 1) (ae 3) (ae 15) (ae 16) (ae 17) H)),(0,(λae H=>jI G N (ae 1) (ae 3) H))] (bk Tryd.f10) ae H=oO G N a d (ae 1) (ae 3) (ae 15) (ae 16) (ae 17) (ae 27) (ae 28) (ae 29) H:=by
 refine bL (aJ _) λae H=> ?_
 delta oO;generalize lO G N a=c;revert c;refine id ?_;intro c;kernel_rfl
def oN(G:az)(N:Nat)(n:aa->aa->aa->aa->aa->ad->O)(aw e:aa)(l bx d:aa)(H:ad):O:=j (aq P .lss 3 U d bx) λo=>aW (D o) (j (cB P 22 l d) λp=>j (an P H 65 p) λq=>cf H [Y [],aa.ar,I J 0] λh i=>a7 i (aV P i 65 h q) λa=>j (aI P 65 h 0) λs=>j (an P a 9 s) λu=>bS a (bV P (a).next 50 3 [(0,(Y [114,101,99,111,114,100,32])),(1,u),(2,(Y [32,123]))]) λv k=>aH k (G 29 [e,I J 0,v] k) λy c=>j (aI P 65 h 1) λw=>j (an P c 23 w) λm=>bg P .len [23] [m] c λx=>kU G N n N aw e l bx d m x (I J 0) c) (jI G N aw e H)
def kb(G:az)(N:Nat):Nat->aa->aa->aa->aa->aa->ad->O
 |0,_,_,_,_,_,_=>Z
 |n+1,aw,d,a,bx,c,H=>oN G N (kb G N n) aw d a bx c H
def Kn(G:az)(N:Nat)(a:aa->aa->aa->aa->aa->ad->O):∀ae H,bp P G N (a6 (a6 (ak (a6 (ak (ak (bs Tryd.f10))))))) (λae H=>a (ae 1) (ae 3) (ae 15) (ae 16) (ae 17) H) [(0,(λae H=>jI G N (ae 1) (ae 3) H))] (bk Tryd.f10) ae H=oN G N a (ae 1) (ae 3) (ae 15) (ae 16) (ae 17) H:=by
 refine bL ((aP ah ((aP ah ((aP ah (Ks G N a) ((dc ah ((aP ah ((aP ah ((aP ah (Kt G N a) ((aP ah ((dc ah ((ei (k:=λm ae H=>kU G N a m (ae 1) (ae 3) (ae 15) (ae 16) (ae 17) (ae 27) (ae 28) (ae 29) H) ah (λae H=>ah) (λm=>Ko G N a (kU G N a m)))))) (aJ _))))) (aJ _))) (aJ _))))))) (aJ _))) (aJ _))) λae H=> ?_
 delta oN;generalize jI G N=c;generalize kU G N a N=d;revert c d;refine id ?_;intro c d;kernel_rfl
def sh(G:az)(N:Nat)(ag:aa)(H:ad):O:=bS H (dS (H).next ag) λaw c=>bS c (n7 (D 81) (c).next (.agg [aa.nilPtr,aa.ar])) λe a=>j (aI P 26 aw 0) λh=>j (an P a 22 h) λd=>bg P .len [22] [d] a λbx=>kb G N N aw e d bx (I J 0) a
def Jn(N:Nat){ag:aa}{H:ad}{r:aa×ad}(h:sh (aC P ay) N ag H=D r):aC P ay 10 [ag] H=D r:=cO N (S:=λG=>sh G N ag H) Tryd.func10 (λG=>dN ((aP ah ((aP ah ((aP ah (Kp G N) ((aP ah ((dc ah ((ei (k:=λm ae H=>kb G N m (ae 1) (ae 3) (ae 15) (ae 16) (ae 17) H) ah (λae H=>ah) (λm=>Kn G N (kb G N m)))))) (aJ _))))) (aJ _))) (aJ _))) (by delta sh;generalize kb G N N=a;revert a;refine id ?_;intro a;kernel_rfl)) h
end
end
section
set_option maxRecDepth 100000
noncomputable section
end
end
section
def iN{α:Type}(F:av->ae α):Prop:=∀s x,F s=D x->x.2.aF=0->s.aF=0/\(0<=s.bP->x.2.bP=s.bP/\x.2.cS=s.cS)
def fa(f:av->av):Prop:=∀s,(f s).aF=0->s.aF=0/\(f s).bP=s.bP/\(f s).cS=s.cS
def iN.bind{α β:Type}{F:av->ae α}{G:α->av->ae β}(h:iN F)(m:∀x,iN (G x)):iN λs=>(F s).bind λp=>G p.1 p.2:=by
 intro s x n l;obtain⟨p,j,k⟩:=Gm n;obtain⟨g1,g2⟩:=m p.1 p.2 x k l;obtain⟨f1,f2⟩:=h s p j g1;refine⟨f1,λc=> ?_⟩;obtain⟨a,d⟩:=f2 c;obtain⟨e,i⟩:=g2 (by rw[a];exact c);exact⟨e.trans a,i.trans d⟩
def iN.none{α:Type}{F:av->ae α}(h:∀s,F s=Z):iN F:=λs x a=>by rw[h]at a;cases a
def fa.comp{f g:av->av}(h:fa f)(k:fa g):fa λs=>g (f s):=λs aB=>by
 obtain⟨aS,a2,a3⟩:=k _ aB;obtain⟨a,c,b3⟩:=h _ aS;exact⟨a,a2.trans c,a3.trans b3⟩
def iN.pre{α:Type}{F:av->ae α}{f:av->av}(h:fa f)(k:iN F):iN λs=>F (f s):=λs x l i=>by
 obtain⟨aS,a2⟩:=k _ x l i;obtain⟨c,a,b3⟩:=h s aS;refine⟨c,λj=> ?_⟩;obtain⟨d,e⟩:=a2 (by rw[a];exact j);exact⟨d.trans a,e.trans b3⟩
def fa.go:fa aD:=λs h=>⟨h,rfl,rfl⟩
def fa.id:fa λs=>s:=λs h=>⟨h,rfl,rfl⟩
variable {T:List Tok}
def ud{s:av}{e:Int}(he:e≠0)(h:(cL T e s).aF=0):False:=by
 unfold cL at h;split at h
 ·exact he h
 ·rename_i aB;exact aB h
def fa.MS(x:aK):fa λs=>(ej T x s).2:=λs h=>by
 have h:(ej T x s).2.aF=0:=h;show s.aF=0/\(ej T x s).2.bP=s.bP/\(ej T x s).2.cS=s.cS;cases a:b_ T s 4 x with
 |true=>
  have e:(ej T x s).2=aD s:=by simp[ej,a]
  rw[e]at h ⊢;exact⟨h,rfl,rfl⟩
 |false=>
  have e:(ej T x s).2=cL T 2 s:=by simp[ej,a]
  rw[e]at h;exact(ud cu h).elim
def fa.jQ(x:aK):∀n:Nat,fa (jQ T x n)
 |0=>fa.id
 |n+1=>fa.comp (f:=λs=>(ej T x s).2) (g:=YtghmbpmaafnodaaDoor.jQ T x n) (fa.MS x) (fa.jQ x n)
def BI:∀(n:Nat) (d:Int) (s:av),(∀c s',gW T n d s= .inl (c,s')->s'.aF=0->s.aF=0/\s'.bP=s.bP/\s'.cS=s.cS)/\∀s',gW T n d s= .inr s'->s'.aF≠0
 |0,d,s=>by
  simp only[gW];cases b_ T s 4 [91]with
  |true=>exact⟨λ_ _ h=>(by cases h),λs' h e=>by cases h;exact ud cu e⟩
  |false=>exact⟨λ_ _ h a=>(by cases h;exact⟨a,rfl,rfl⟩),λ_ h=>(by cases h)⟩
 |n+1,d,s=>by
  simp only[gW];cases b_ T s 4 [91]with
  |true=>exact BI n (d+1) (aD s)
  |false=>exact⟨λ_ _ h a=>(by cases h;exact⟨a,rfl,rfl⟩),λ_ h=>(by cases h)⟩
def fa.of:fa λs=>(eP T s).2:=λs h=>by
 obtain⟨i1,i2⟩:=BI (T:=T) 3 0 s;have ba:(eP T s).2.aF=0:=h;show s.aF=0/\(eP T s).2.bP=s.bP/\(eP T s).2.cS=s.cS;unfold eP at ba ⊢;cases a:gW T 3 0 s with
 |inr s'=>rw[a]at ba;exact absurd ba (i2 s' a)
 |inl p=>
  obtain⟨d,s1⟩:=p;rw[a]at ba;simp only at ba ⊢;cases c:((au T s1.at_).kind != 1&&(!b_ T s1 3 [105,110,116]&& !b_ T s1 3 [98,111,111,108]))with
  |true=>
   simp only[iF,c,aZ]at ba;exact(ud cu ba).elim
  |false=>
   simp only[iF,c,aT]at ba ⊢;obtain⟨aS,a2,a3⟩:=fa.comp fa.go (fa.jQ [93] d.toNat) s1 ba;obtain⟨e,i,b3⟩:=i1 d s1 a aS;exact⟨e,a2.trans i,a3.trans b3⟩
def iN.eq{α:Type}{F G:av->ae α}(h:iN F)(e:∀s,G s=F s):iN G:=λs x a=>h s x (by rw[<-e];exact a)
