/-
  Texts of one proof, laid together: Ve Vf Vg Vh Vi ShVc ShRc T2 T3.
-/
import Derived.Test.YtghmbpmaafnodaaDoorMN
set_option linter.unusedVariables false
set_option linter.unusedSimpArgs false
set_option linter.defProp false
open Option renaming some→D,none→Z
open Bool renaming true→X,false→U
open Go.b9.aa renaming int→I,str→Y
open Go.IntKind renaming i64→J
namespace Go.Proofs.YtghmbpmaafnodaaDoor
open Go.b9
open Nat (reduceAdd reduceLeDiff)
def et(l:aJ):List (List aa):=l.map λc=>[I .u8 c.toNat]
def x5(a b:aJ):et (a++b)=et a++et b:=List.map_append
def kJ(a:aJ):(et a).length=a.length:=List.length_map ..
def jo(H:ae)(m:Nat)(acc:aJ)(b:aa):Prop:=(acc=[]/\b= .ar)\/(acc≠[]/\b= .aA m 0 acc.length 1 Z/\H.get m=D (.bU 5 1 (et acc)))
def fA(H:ae)(p m:Nat)(acc:aJ):Prop:=(acc≠[]->p≠m)/\p<H.next/\∃a b,H.get p=D (.bU 81 2 [[a,b]])/\(a= .nilPtr\/a= .ptr p 0 0)/\jo H m acc b
def cF(p m:Nat)(H:ae)(m':Nat)(H':ae):Prop:=(m'=m\/H.next<=m')/\cP (λl=>l=p\/l=m) H H'
def cF.trans{p m m1 m2:Nat}{H H1 c:ae}(h:cF p m H m1 H1)(k:cF p m1 H1 m2 c):cF p m H m2 c:=by
 obtain⟨aR,a⟩:=h;obtain⟨a2,d⟩:=k;have:=a.1;refine⟨af,Nat.le_trans a.1 d.1,λl e aB=> ?_⟩;simp only[not_or]at aB;rw[d.2 l af (by simp only[not_or];exact⟨aB.1,af⟩)];exact a.2 l e (by simp only[not_or];exact aB)
def cF.aM{p m:Nat}{H H':ae}(h:aO H H'):cF p m H m H':=⟨.inl rfl,h.mut _⟩
def cF.next{p m m':Nat}{H H':ae}(h:cF p m H m' H'):H.next<=H'.next:=h.2.1
def cF.get{p m m':Nat}{H H':ae}(h:cF p m H m' H'){l:Nat}{b:bO}(d:H.get l=D b)(a:l≠p)(c:l≠m):H'.get l=D b:=h.2.get d (by simp only[not_or];exact⟨a,c⟩)
def jo.one{H:ae}{m:Nat}{acc:aJ}{b:aa}(h:jo H m acc b):b.one=true:=by rcases h with⟨_,rfl⟩|⟨_,rfl,_⟩<;>rfl
def fA.aM{H H':ae}{p m:Nat}{acc:aJ}(h:fA H p m acc)(q:aO H H'):fA H' p m acc:=by
 obtain⟨j,k,a,b,l,n,c⟩:=h;refine⟨j,Nat.lt_of_lt_of_le k q.1,a,b,q.get l,n,?_⟩;rcases c with c|⟨d,e,i⟩
 ·exact .inl c
 ·exact .inr ⟨d,e,q.get i⟩
def pc:P.underlying 77=D (.slice 5):=ah
def q1:P.underlying 9=D .string:=ah
def pK:hf P 5=D 1:=ah
def pI:eE P 5=D (I .u8 0):=ah
def F2{H:ae}{m:Nat}{acc s:aJ}{b:aa}(h:jo H m acc b)(o:acc.length+s.length<=10000000000000):
  ∃j H' m',cQ P H [77,9] b (Y s)=D (j,H')/\jo H' m' (acc++s) j/\((m'=m/\s=[])\/H.next<=m')/\H.next<=H'.next/\∀l,l<H.next->(l≠m\/acc=[])->H'.get l=H.get l:=by
 have d:hG P H 9 1 (Y s)=D (et s):=by simp[hG,q1,et]
 rcases h with⟨rfl,rfl⟩|⟨e,rfl,c⟩
 ·by_cases aB:s=[]
  ·subst aB;refine⟨.ar,H,m,?_,.inl ⟨rfl,rfl⟩,.inl ⟨rfl,rfl⟩,bk _,λ_ _ _=>rfl⟩;simp[cQ,hk,pc,q1,nJ,pK,pI,d,aa.cells,et]
  ·have p:¬s.length=0:=by simpa using aB
   simp only[List.length_nil,Nat.zero_add]at o;refine⟨.aA H.next 0 s.length 1 Z,H.push (.bU 5 1 (et s)),H.next,?_,.inr ⟨by simpa using aB,rfl,ae.bC _ _⟩,.inr (bk _),by simp,λl i _=>ae.dp af⟩;simp[cQ,hk,pc,q1,nJ,pK,pI,d,aa.cells,kJ,aB,iT,dw];omega
 ·by_cases aB:s=[]
  ·subst aB;refine⟨.aA m 0 acc.length 1 Z,H,m,?_,.inr (by rw[List.append_nil];exact⟨e,rfl,c⟩),.inl ⟨rfl,rfl⟩,bk _,λ_ _ _=>rfl⟩;simp[cQ,hk,pc,q1,nJ,pK,pI,d,aa.cells,et]
  ·have hm:=ae.aS c;have n:er H m 0 acc.length 1=D (et acc):=by
    unfold er;rw[c];simp[kJ];rw[List.take_of_length_le (by rw[kJ];omega)]
   refine⟨.aA H.next 0 (acc.length+s.length) 1 Z,(H.set m .dead).push (.bU 5 1 (et acc++et s)),H.next,?_,.inr ⟨by simp[aB],by rw[List.length_append],by rw[x5];simpa only[ae.dj]using ae.bC (H.set m .dead) (.bU 5 1 (et acc++et s))⟩,.inr (bk _),by simp,λl i a=>by
    have a:l≠m:=by rcases a with a|a<;>first|exact a|exact absurd a e
    rw[ae.dp (by simp only[ae.dj];omega),ae.get_set_other af]⟩
   have i:¬s.length=0:=by simpa using aB
   have a:acc.length+s.length<=140737488355328:=af;have k:acc.length+s.length<=9223372036854775807:=af;simp[cQ,hk,pc,q1,nJ,pK,pI,d,aa.cells,kJ,a,k,n,c,aB]
def F3{H:ae}{m:Nat}{acc:aJ}{b:aa}{c:UInt8}{k:Nat}(h:jo H m acc b)(i:acc≠[])(u:acc.length<=10000000000000)(p:H.get k=D (.row U 1 [[I .u8 c.toNat]])):
  ∃e H' m',cQ P H [77,77] b (.aA k 0 1 1 (D 1))=D (e,H')/\jo H' m' (acc++[c]) e/\H.next<=m'/\H.next<=H'.next/\∀l,l<H.next->l≠m->H'.get l=H.get l:=by
 have q:hG P H 77 1 (.aA k 0 1 1 (D 1))=D (et [c]):=by simp[hG,pc,er,p,et]
 rcases h with⟨rfl,_⟩|⟨_,rfl,a⟩
 ·exact absurd rfl i
 ·have hm:=ae.aS a;have o:er H m 0 acc.length 1=D (et acc):=by
   unfold er;rw[a];simp[kJ];rw[List.take_of_length_le (by rw[kJ];omega)]
  refine⟨.aA H.next 0 (acc.length+1) 1 Z,(H.set m .dead).push (.bU 5 1 (et acc++et [c])),H.next,?_,.inr ⟨by simp,by rw[List.length_append];rfl,by rw[x5];simpa only[ae.dj]using ae.bC (H.set m .dead) (.bU 5 1 (et acc++et [c]))⟩,bk _,by simp,λl s d=>by rw[ae.dp (by simp only[ae.dj];omega),ae.get_set_other af]⟩;have d:acc.length+1<=140737488355328:=af;have j:acc.length+1<=9223372036854775807:=af;have n:(et [c]).length=1:=rfl;simp[cQ,hk,pc,nJ,pK,pI,q,aa.cells,d,j,n,o,a]
open Classical in
def x_{H:ae}{p m:Nat}{acc:aJ}(h:fA H p m acc):∃b H1,aC P az 80 [.ptr p 0 0] H=D (.tuple [],H1)/\H1.next=H.next/\H1.get p=D (.bU 81 2 [[.ptr p 0 0,b]])/\jo H1 m acc b/\∀l,l≠p->H1.get l=H.get l:=by
 obtain⟨n,o,a,b,d,q,c⟩:=h;rcases q with rfl|rfl
 ·refine⟨b,H.set p (.bU 81 2 [[.ptr p 0 0,b]]),lC ?_,by simp,ae.get_set_same o,?_,λl s=>ae.get_set_other (λe=>s e.symm)⟩
  ·show(match H.get p with
    |some (.bU 81 2 [[.nilPtr,b]])=>if b.one=X then D (aa.tuple [],H.set p (.bU 81 2 [[.ptr p 0 0,b]]))else Z
    |some (.bU 81 2 [[.ptr l' 0 0,_]])=>if l'=p then D (aa.tuple [],H)else Z
    |_=>Z)=_
   rw[d];simp only
   rw[if_pos c.one]
  ·rcases c with c|⟨i,j,k⟩
   ·exact .inl c
   ·exact .inr ⟨i,j,by rw[ae.get_set_other (n i)];exact k⟩
 ·refine⟨b,H,lC ?_,rfl,d,c,λ_ _=>rfl⟩;show(match H.get p with
   |some (.bU 81 2 [[.nilPtr,b]])=>if b.one=X then D (aa.tuple [],H.set p (.bU 81 2 [[.ptr p 0 0,b]]))else Z
   |some (.bU 81 2 [[.ptr l' 0 0,_]])=>if l'=p then D (aa.tuple [],H)else Z
   |_=>Z)=_
  rw[d];simp only
  rw[if_pos trivial]
def ES{H:ae}{p m:Nat}{acc s:aJ}(h:fA H p m acc)(u:acc.length+s.length<=10000000000000):W (aC P az 57 [.ptr p 0 0,Y s] H) λ_ H'=>∃m',fA H' p m' (acc++s)/\cF p m H m' H':=by
 have o:=h.1;have B:=h.2.1;obtain⟨b,H1,k,F,g1,y,z⟩:=x_ h;obtain⟨G,a,m',n,i,hm,n2,w⟩:=F2 y u;have E:=i.one;have c:a.get p=D (.bU 81 2 [[.ptr p 0 0,b]]):=by rw[w p af ((Decidable.em (acc=[])).elim .inr λh=> .inl (o h))];exact g1
 have x:=ae.aS c;have j:H.next<=H1.next:=af
 refine cz (λ_=>JW 0) ?_;rw[sG];have fin:∀cx,jo a m' (acc++s) cx->∃m',fA (a.set p (.bU 81 2 [[.ptr p 0 0,cx]])) p m' (acc++s)/\cF p m H m' (a.set p (.bU 81 2 [[.ptr p 0 0,cx]])):=by
  intro cx d;have v:acc++s≠[]->p≠m':=by
   intro h;rcases hm with⟨rfl,rfl⟩|hm
   ·rw[List.append_nil]at h;exact o h
   ·omega
  refine⟨m',⟨v,by simpa using x,.ptr p 0 0,cx,ae.get_set_same x,.inr rfl,?_⟩,af,by simp only[ae.dj];omega,λl u aB=> ?_⟩
  ·rcases d with d|⟨f_,aZ,A⟩
   ·exact .inl d
   ·exact .inr ⟨f_,aZ,by rw[ae.get_set_other (v f_)];exact A⟩
  ·simp only[not_or]at aB;rw[ae.get_set_other (λe=>aB.1 e.symm),w l af (.inl aB.2),z l aB.1]
 have q:=i;rcases i with⟨_,rfl⟩|⟨_,rfl,_⟩
 ·simp-implicitDefEqProofs(disch:=try exact al)only[reduceAdd,reduceLeDiff,reduceIte,ax,k,eI,j,g1,n,n2,c];exact bb.2 (fin _ q)
 ·simp-implicitDefEqProofs(disch:=try exact al)only[reduceAdd,reduceLeDiff,reduceIte,ax,k,eI,j,g1,n,n2,c];exact bb.2 (fin _ q)
def Mi(l:Nat)(c:Int):bV P l 77 1 [(0,I .u8 c)]=D (.aA l 0 1 1 (D 1),.row U 1 [[I .u8 c]]):=ah
def MT{H:ae}{p m:Nat}{acc:aJ}{c:UInt8}(h:fA H p m acc)(w:acc≠[])(y:acc.length<=10000000000000):W (aC P az 58 [.ptr p 0 0,I .u8 c.toNat] H) λ_ H'=>∃m',fA H' p m' (acc++[c])/\cF p m H m' H':=by
 have E:=h.1 w;have K:=h.2.1;obtain⟨b,H1,u,M,g1,i,G⟩:=x_ h;have B:=aO.push H1 (.row U 1 [[I .u8 c.toNat]]);have F:jo (H1.push (.row U 1 [[I .u8 c.toNat]])) m acc b:=by
  rcases i with i|⟨f_,aZ,o⟩
  ·exact .inl i
  ·exact .inr ⟨f_,aZ,B.get o⟩
 obtain⟨N,a,m',v,k,hm,n2,n⟩:=F3 (c:=c) F w y (ae.bC H1 _);simp only[ae.bT]at hm n2 n;have L:=k.one;have d:a.get p=D (.bU 81 2 [[.ptr p 0 0,b]]):=by rw[n p af E];exact B.get g1
 have A:=ae.aS d;have q:H.next<=H1.next:=af
 have s:(H1.push (.row U 1 [[I .u8 c.toNat]])).next<=a.next:=by simp only[ae.bT];omega
 have z:=Mi H1.next c.toNat
 refine cz (λ_=>JX 0) ?_;rw[sH];have fin:∀cx,jo a m' (acc++[c]) cx->∃m',fA (a.set p (.bU 81 2 [[.ptr p 0 0,cx]])) p m' (acc++[c])/\cF p m H m' (a.set p (.bU 81 2 [[.ptr p 0 0,cx]])):=by
  intro cx j;refine⟨m',⟨λ_=>af,by simpa using A,.ptr p 0 0,cx,ae.get_set_same A,.inr rfl,?_⟩,af,by simp only[ae.dj];omega,λl y aB=> ?_⟩
  ·rcases j with j|⟨f_,aZ,o⟩
   ·exact .inl j
   ·exact .inr ⟨f_,aZ,by rw[ae.get_set_other af];exact o⟩
  ·simp only[not_or]at aB;rw[ae.get_set_other (λe=>aB.1 e.symm),n l af aB.2,ae.dp af,G l aB.1]
 have x:=k;rcases k with⟨_,rfl⟩|⟨_,rfl,_⟩
 ·simp-implicitDefEqProofs(disch:=try exact al)only[reduceAdd,reduceLeDiff,reduceIte,ax,u,eI,q,g1,z,v,s,d];exact bb.2 (fin _ x)
 ·simp-implicitDefEqProofs(disch:=try exact al)only[reduceAdd,reduceLeDiff,reduceIte,ax,u,eI,q,g1,z,v,s,d];exact bb.2 (fin _ x)
def B9:∀n:Nat,(List.replicate n ([32,32]:aJ)).flatten=pad n
 |0=>rfl
 |n+1=>by
  rw[List.replicate_succ,List.flatten_cons,B9 n];unfold pad;rw[show 2*(n+1)=2*n+1+1 by omega,List.replicate_succ,List.replicate_succ];rfl
def fA.lt{H:ae}{p m:Nat}{acc:aJ}(h:fA H p m acc):p<H.next:=h.2.1
section
variable {N:Nat}{H:ae}{p m k:Nat}{acc:aJ}{parts:List aJ}{cap:Option Nat}{ro:Bool}
def Bw(u:H.get k=D (.row ro 1 (parts.map λs=>[Y s])))(A:k≠p)(z:k≠m)(x:acc++parts.flatten≠[])(w:parts.length<=1000)(v:acc.length+parts.flatten.length<=10000000000000):∀(rest:List aJ) (j n:Nat) (done:List aJ) (m1:Nat) (H1:ae),parts=done++rest->done.length=j->rest.length<n->fA H1 p m1 (acc++done.flatten)->cF p m H m1 H1->
  W (lU (aC P az) N n (.ptr p 0 0) (.aA k 0 parts.length 1 cap) (I J parts.length) (I J j) H1) λ_ H'=>∃m',fA H' p m' (acc++(parts.flatten++[10]))/\cF p m H m' H'
 |_,_,0,_,_,_,_,_,w,_,_=>af
 |[],j,n+1,done,m1,H1,aG,o,y,h,hw=>by
  rw[List.append_nil]at aG;subst aG;have i:¬((j:Int)<(parts.length:Int)):=af;have l:=MT (c:=10) h x (by rw[List.length_append];omega);have B:(((10:UInt8).toNat:Nat):Int)=10:=rfl;rw[B]at l;simp-implicitDefEqProofs(disch:=try exact al)only[lU,qJ,oP,reduceAdd,reduceLeDiff,reduceIte,ax,i,decide_false];refine aN l ?_;rintro _ d ⟨m2,e,a⟩;refine⟨a.next,bb.2 ⟨m2,?_,hw.trans a⟩⟩;rw[<-List.append_assoc];exact e
 |s::rest,j,n+1,done,m1,H1,aG,o,y,h,hw=>by
  simp only[List.length_cons]at y;have Q:parts.length=done.length+(rest.length+1):=by rw[aG,List.length_append,List.length_cons]
  have i:(j:Int)<(parts.length:Int):=af;have F:(0:Int)<=(j:Int):=af;have L:((j:Int)).toNat=j:=af;have O:IntKind.i64.wrap ((j:Int)+1)=((j+1:Nat):Int):=by rw[wrap_i64 af af];omega
  have E:=hw.get u A z;have aZ:(parts.map λs=>[aa.str s])[0+j]? =D [Y s]:=by
   rw[Nat.zero_add,List.getElem?_map,aG,List.getElem?_append_right af,show j-done.length=0 by omega];rfl
  have M:(parts.map λs=>[aa.str s])[j]? =D [Y s]:=by rw[Nat.zero_add]at aZ;exact aZ
  have q:parts.flatten=done.flatten++(s++rest.flatten):=by rw[aG];simp
  rw[q]at v;simp only[List.length_append]at v;have G:=ES (s:=s) h (by rw[List.length_append];omega);simp-implicitDefEqProofs(disch:=try exact al)only[lU,qJ,reduceAdd,reduceLeDiff,reduceIte,ax,i,decide_true,F,L,E,aZ,M];refine aN G ?_;rintro _ d ⟨m2,e,a⟩;refine⟨a.next,?_⟩;simp-implicitDefEqProofs(disch:=try exact al)only[bf,br,c5,O];have K:fA d p m2 (acc++(done++[s]).flatten):=by
   rw[List.flatten_append,<-List.append_assoc];simpa using e
  exact Bw u A z x w (by rw[q];simp only[List.length_append];omega) rest (j+1) n (done++[s]) m2 d (by rw[aG,List.append_assoc];rfl) (by rw[List.length_append,o];rfl) af K (hw.trans a)
def Ie{deep:Nat}{z:Int}(w:z=deep)(l:fA H p m acc)(c:H.get k=D (.row ro 1 (parts.map λs=>[Y s])))(d:k≠p)(x:k≠m)(q:parts.flatten≠[])(o:parts.length<=1000)(B:deep<=1000)(E:acc.length+parts.flatten.length<=1000000000000){n:Nat}(u:n=parts.length):
  W (aC P az 29 [.ptr p 0 0,I J z,.aA k 0 n 1 cap] H) λ_ H'=>∃m',fA H' p m' (acc++(pad deep++(parts.flatten++[10])))/\cF p m H m' H':=by
 subst w;subst u;refine cz (λ_=>JE (parts.length+1)) ?_;have i:aC P az 54 [Y [32,32],I J deep] H=D (Y (pad deep),H):=by
  rw[<-B9];exact vz (by simp only[List.length_cons,List.length_nil];omega) af
 have F:=hl deep;have j:=ES (s:=pad deep) l af;rw[ss];simp-implicitDefEqProofs(disch:=try exact al)only[reduceAdd,reduceLeDiff,reduceIte,ax,i,eI,bk];refine aN j ?_;rintro _ e ⟨m2,h,a⟩;refine⟨a.next,?_⟩;simp-implicitDefEqProofs(disch:=try exact al)only[reduceAdd,reduceLeDiff,reduceIte,ax];have G:=ae.aS c;have y:k≠m2:=by have:=a.1;omega
 refine(Bw (N:=parts.length+1) (acc:=acc++pad deep) (a.get c d x) d y (by simp[q]) o (by rw[List.length_append];omega) parts 0 (parts.length+1) [] m2 e rfl rfl af (by simpa using h) (cF.aM (.refl _))).mono ?_;rintro v H' ⟨m',b3,A⟩;exact⟨m',by rw[List.append_assoc]at b3;exact b3,a.trans A⟩
end
def mf:bM:={kind:=0,pos:=0}
def M1{H:ae}:W (aC P az 16 [.agg (bM.cells mf .ar)] H) λr H'=>r= Y []/\aO H H':=by
 have d:∀l,dS l (.agg (bM.cells mf .ar))=D (.ptr l 0 0,.row U 11 [bM.cells mf .ar]):=λl=>hh l _ rfl
 have pp:=aO.push H (.row U 11 [bM.cells mf .ar]);have di:=ae.bC H (.row U 11 [bM.cells mf .ar]);have e:=AR (H:=H.push (.row U 11 [bM.cells mf .ar])) (ok:=λ_=>True) (ks:=[]) (kv:= .ar) (.inl ⟨rfl,rfl⟩) (by simp);refine cz (λ_=>C2 0) ?_;simp only[bM.cells,mf]at d pp di e ⊢;rw[qI];simp-implicitDefEqProofs(disch:=try exact al)only[reduceAdd,reduceLeDiff,reduceIte,ax,d];refine aN e ?_;rintro _ k ⟨b,i,rfl,bH,-,h⟩;refine⟨h.1,?_⟩;have a:=h.bt (.row U 11 [b.cells i]);have c:=a.get di;simp only[bM.cells]at a c;have s0:∀H,aC P az 46 [I J 0] H=D (Y [],H):=λH=>vI 0 rfl
 have j:aq P .neq 9 X (Y []) (Y [])=D (.bool U):=rfl;simp-implicitDefEqProofs(disch:=try exact al)only[reduceAdd,reduceLeDiff,reduceIte,ax,bH,c,Int.reduceBEq,kZ,lS,s0,eI,bk,j];exact bb.2 ⟨rfl,pp.trans a⟩
def ix(ks:List aL)(j:Nat):aJ:=match ks[j]? with
 |some e=>flat (bm e)
 |none=>[]
def yo{H:ae}{ok:Nat->Prop}{ks:List aL}{kv:aa}(h:b8 H ok ks kv)(F:ks.length<=1000000000)(hw:∀e∈ks,∃d,cm d 0 e)(u:∀e∈ks,cE e<=1000000000)(x:eR.gP H)(j:Nat){z:Int}(B:z=j):
  W (aC P az 41 [kv,I J z] H) λv H1=>∃cs,v= .agg cs/\aO H H1/\∀c,aO H1 c->W (aC P az 16 [.agg cs] c) λr q=>r= Y (ix ks j)/\aO c q:=by
 subst B;by_cases k:j<ks.length
 ·obtain⟨e,he⟩:∃e,ks[j]? =D e:=⟨ks[j],List.getElem?_eq_getElem k⟩;obtain⟨a,es⟩:=e;obtain⟨l,i,cap,ro,els,E,rfl,g1,aZ,m⟩:=h.iZ (n:=ks.length) rfl he;refine(rH rfl k m.eb g1 aZ).mono ?_;rintro v H1 ⟨rfl,p⟩;have hm:=List.mem_of_getElem? he;obtain⟨d,y⟩:=hw _ hm;refine⟨_,rfl,p,λc o=> ?_⟩;have:=bz _ d 0 y (u _ hm) a es rfl c ok E (m.aM (p.trans o)) (x.aM (p.trans o));unfold ix;rw[he];exact this
 ·have A:ix ks j=[]:=by unfold ix;rw[List.getElem?_eq_none af]
  rw[A];refine cz (λ_=>vH 0) ?_;have w:=λH'=>h.pO H'
  have s:(ks.length:Int)<=(j:Int):=af;unfold oU;simp-implicitDefEqProofs(disch:=try exact al)only[reduceAdd,reduceLeDiff,reduceIte,ax,w,s,decide_true];exact bb.2 ⟨bM.cells mf .ar,rfl,aO.push _ _,λc _=>M1⟩
def Dq(l:Nat)(a b c d e:aJ):bV P l 50 5 [(0,Y a),(1,Y b),(2,Y c),(3,Y d),(4,Y e)]=D (.aA l 0 5 1 (D 5),.row U 1 [[Y a],[Y b],[Y c],[Y d],[Y e]]):=ah
def Mf(l:Nat)(a b c d e f g:aJ):bV P l 50 7 [(0,Y a),(1,Y b),(2,Y c),(3,Y d),(4,Y e),(5,Y f),(6,Y g)]=D (.aA l 0 7 1 (D 7),.row U 1 [[Y a],[Y b],[Y c],[Y d],[Y e],[Y f],[Y g]]):=ah
def vU(l:Nat)(a b c d:aJ):bV P l 50 4 [(0,Y a),(1,Y b),(2,Y c),(3,Y d)]=D (.aA l 0 4 1 (D 4),.row U 1 [[Y a],[Y b],[Y c],[Y d]]):=ah
def qT(l:Nat)(a b c:aJ):bV P l 50 3 [(0,Y a),(1,Y b),(2,Y c)]=D (.aA l 0 3 1 (D 3),.row U 1 [[Y a],[Y b],[Y c]]):=ah
def Me(l:Nat)(a b:aJ):bV P l 50 2 [(0,Y a),(1,Y b)]=D (.aA l 0 2 1 (D 2),.row U 1 [[Y a],[Y b]]):=ah
def Ig{H:ae}{p m:Nat}{acc:aJ}{deep:Nat}{z:Int}(w:z=deep)(e:fA H p m acc)(hm:m<H.next)(parts:List aJ)(q:parts.flatten≠[])(o:parts.length<=1000)(k:deep<=1000)(l:acc.length+parts.flatten.length<=1000000000000){n:Nat}{cap:Option Nat}(u:n=parts.length){ad:List (List aa)}(j:ad=parts.map λs=>[Y s]):
  W (aC P az 29 [.ptr p 0 0,I J z,.aA H.next 0 n 1 cap] (H.push (.row U 1 ad))) λ_ H'=>∃m',fA H' p m' (acc++(pad deep++(parts.flatten++[10])))/\cF p m H m' H'/\m'<H'.next/\H.next+1<=H'.next:=by
 subst j;have h:=aO.push H (.row U 1 (parts.map λs=>[Y s]));have:=e.lt;refine(Ie w (e.aM h) (ae.bC H _) af af q o k l u).mono ?_;rintro v H' ⟨m',d,i⟩;refine⟨m',d,(cF.aM h).trans i,?_,by have:=i.next;simpa only[ae.bT]using this⟩;obtain⟨_,_,a,b,_,_,c⟩:=d;rcases c with⟨c,_⟩|⟨_,_,c⟩
 ·simp at c
 ·exact ae.aS c
structure eL(n0 p m:Nat)(H:ae)(acc:aJ):Prop where
 pos:0<n0
 aG:n0<=p
 hm:n0<=m
 lm:m<H.next
 iu:fA H p m acc
 kN:eR.gP H
def cF.kN{n0 p m m':Nat}{H H':ae}(w:cF p m H m' H')(a:0<n0)(aG:n0<=p)(hm:n0<=m)(g:eR.gP H):eR.gP H':=⟨w.get g.sS af af⟩
def cF.aX{n0 p m m':Nat}{H H':ae}{ok:Nat->Prop}(w:cF p m H m' H')(aG:n0<=p)(hm:n0<=m)(c:∀l,ok l->l<n0):df H ok H' ok:=df.mut w.2 λl h a=>by
 have:=c l h;rcases a with a|a<;>omega
def eL.aM{n0 p m:Nat}{H H':ae}{acc:aJ}(h:eL n0 p m H acc)(q:aO H H'):eL n0 p m H' acc:=⟨h.pos,h.aG,h.hm,Nat.lt_of_lt_of_le h.lm q.1,h.iu.aM q,h.kN.aM q⟩
section
variable {n0 p m:Nat}{H:ae}{acc:aJ}
def fZ(h:eL n0 p m H acc){deep:Nat}{z:Int}(q:z=deep)(parts:List aJ)(k:parts.flatten≠[])(j:parts.length<=1000)(e:deep<=1000)(i:acc.length+parts.flatten.length<=1000000000000){n:Nat}{cap:Option Nat}(l:n=parts.length){ad:List (List aa)}(d:ad=parts.map λs=>[Y s]){t:aJ}(o:t=pad deep++(parts.flatten++[10])):
  W (aC P az 29 [.ptr p 0 0,I J z,.aA H.next 0 n 1 cap] (H.push (.row U 1 ad))) λ_ H'=>(H.push (.row U 1 ad)).next<=H'.next/\∃m',eL n0 p m' H' (acc++t)/\cF p m H m' H':=by
 subst o;refine(Ig q h.iu h.lm parts k j e i l d).mono ?_;rintro v H' ⟨m',c,a,u,n2⟩;have hm:=h.hm;have:=a.1;have:=h.lm;exact⟨by simpa only[ae.bT]using n2,m',⟨h.pos,h.aG,af,u,c,a.kN h.pos h.aG h.hm h.kN⟩,a⟩
end
def jX(b:List bE):Prop:=∀(d deep:Nat),(∀s∈b,ea d s)->deep+d<=51->du b<=1000000000->∀(H:ae) (ok:Nat->Prop) (v:aa) (z:Int) (n0 p m:Nat) (acc:aJ),z=deep->c1 H ok b v->(∀l,ok l->l<n0)->eL n0 p m H acc->acc.length+du b<=500000000000->W (aC P az 31 [.ptr p 0 0,I J z,v] H) λ_ H'=>∃m',eL n0 p m' H' (acc++flat (cH deep b))/\cF p m H m' H'
def Gx(a:b1)(b6 bv c:aa)(d:b6.one=X)(e:bv.one=X)(h:c.one=X)(l:Nat):dS l (.agg (a.cells b6 bv c))=D (.ptr l 0 0,.row U 9 [a.cells b6 bv c]):=
 hh l _ (by simp only[b1.cells,List.all_cons,List.all_nil,gH,hq,d,e,h,Bool.and_self])
def Mm{a:b1}{ks:List aL}{b c:List bE}(a7:jX b)(bL:jX c){d deep:Nat}(aq:ea d (.mk a ks b c))(bt:deep+d<=51)(hle:dY (.mk a ks b c)<=1000000000){H:ae}{ok:Nat->Prop}{b6 bv T:aa}{n0 p m:Nat}{acc:aJ}{z:Int}(bF:z=deep)(v1:b8 H ok ks b6)(v2:c1 H ok b bv)(v3:c1 H ok c T)(L:∀l,ok l->l<n0)(ah:eL n0 p m H acc)(bp:acc.length+dY (.mk a ks b c)<=500000000000):
  W (aC P az 60 [.ptr p 0 0,I J z,.agg (a.cells b6 bv T)] H) λ_ H'=>∃m',eL n0 p m' H' (acc++flat (gp deep (.mk a ks b c)))/\cF p m H m' H':=by
 subst bF;have hlen:=uV aq deep bt;have bW:=hl deep;have bA:b0 ks+du b+du c+400<=dY (.mk a ks b c):=by rw[dY];omega
 have bH:=v1.eb;have bX:=v2.eb;have ck:=v3.eb;have aK:=Gx a b6 bv T bH bX ck;have pp:=aO.push H (.row U 9 [a.cells b6 bv T]);have di:=ae.bC H (.row U 9 [a.cells b6 bv T]);have n:∀e∈ks,∃d,cm d 0 e:=by
  intro e he;cases aq<;>simp only[List.mem_cons,List.not_mem_nil,or_false]at he<;>first|exact he.elim|(subst he;exact⟨_,by assumption⟩)|(rcases he with rfl|rfl<;>exact⟨_,by assumption⟩)
 have bD:=p_ ks;have a3:∀e∈ks,cE e<=1000000000:=by
  intro e he;have:cE e<=b0 ks:=by
   clear bD n hlen bA hle bp aq v1
   induction ks with
   |nil=>cases he
   |cons k r bI=>
    rw[b0];rcases List.mem_cons.1 he with rfl|he
    ·omega
    ·have:=bI he;omega
  omega
 have a1:ks.length<=1000000000:=af;have aZ:=λ(H':ae) (q:aO H H')=>yo (v1.aM q) a1 n a3 (ah.kN.aM q) 0 (z:=0) rfl
 have a0:=λ(H':ae) (q:aO H H')=>yo (v1.aM q) a1 n a3 (ah.kN.aM q) 1 (z:=1) rfl
 have a8:=I4 v1.beq;refine cz (λ_=>JY 0) ?_;simp only[b1.cells]at aK pp di ⊢;rw[sI];simp-implicitDefEqProofs(disch:=try exact al)only[reduceAdd,reduceLeDiff,reduceIte,ax,aK];refine aN (aZ _ pp) ?_;rintro _ bd ⟨bi,rfl,au,ag⟩;refine⟨au.1,?_⟩;refine aN (ag _ (.refl _)) ?_;rintro _ be ⟨rfl,aw⟩;refine⟨aw.1,?_⟩;have aH:=au.get di;have an:=aw.get aH;have aU:=(pp.trans au).trans aw;simp-implicitDefEqProofs(disch:=try exact al)only[reduceAdd,reduceLeDiff,reduceIte,ax,an];refine aN (a0 _ aU) ?_;rintro _ bf ⟨bj,rfl,ay,av⟩;refine⟨ay.1,?_⟩;refine aN (av _ (.refl _)) ?_;rintro _ aE ⟨rfl,aB⟩;refine⟨aB.1,?_⟩;have o:=aB.get (ay.get an)
 have ab:=(aU.trans ay).trans aB;simp-implicitDefEqProofs(disch:=try exact al)only[reduceAdd,reduceLeDiff,reduceIte,ax,di,aH,an,o,a8];have A:=ah.aM ab;have bO:cF p m H m aE:=cF.aM ab;have a9:=v1.aM ab;have a_:=v2.aM ab;have bM:=v3.aM ab;have S:H.next≠p/\H.next≠m/\H.next<aE.next:=by
  have:=ah.lm;have:=ah.iu.lt;have:=ae.aS o;omega
 generalize H.next=y at o S ⊢
 clear aZ a0 ag av au aw ay aB aU ab di aH an pp aK a8 v1 v2 v3;clear bd be bf bi bj;obtain⟨S,bc,bY⟩:=S;have aV:IntKind.i64.wrap ((deep:Int)+1)=((deep+1:Nat):Int):=by rw[wrap_i64 af af];omega
 have a2:gp deep (.mk a ks b c)= .b (pad deep)::(hM a ks (cH (deep+1) b) c.isEmpty (cH (deep+1) c) (pad deep)++[nl]):=by rw[gp]
 have aR:flat (gp deep (.mk a ks b c))=pad deep++(flat (hM a ks (cH (deep+1) b) c.isEmpty (cH (deep+1) c) (pad deep))++[10]):=by rw[a2,uc,c3,mD,cY];rfl
 have M:∀{e:aL} {r:List aL},ks=e::r->cE e<=b0 ks:=by intro e r h;rw[h,b0];omega
 have bu:∀{e f:aL} {r:List aL},ks=e::f::r->cE e+cE f<=b0 ks:=by intro e f r h;rw[h,b0,b0];omega
 rw[aR];clear a2 aR;have fin:∀(t:aJ) (v:ae) (m7:Nat),eL n0 p m7 v (acc++t)->cF p m aE m7 v->t=pad deep++(flat (hM a ks (cH (deep+1) b) c.isEmpty (cH (deep+1) c) (pad deep))++[10])->∃m',eL n0 p m' v (acc++(pad deep++(flat (hM a ks (cH (deep+1) b) c.isEmpty (cH (deep+1) c) (pad deep))++[10])))/\cF p m H m' v:=λt v m7 k w e=>⟨m7,by rw[<-e];exact k,bO.trans w⟩
 have ac:∀x y:aJ,acc++(x++y)=acc++x++y:=λx y=>(List.append_assoc _ _ _).symm
 clear n;cases aq with
 | @var d x ai z F ak E=>
  have a5:=eM ak;have bx:=gn E;have bG:=E.2.1;have bz:=iD ai z;simp-implicitDefEqProofs(disch:=try exact al)only[reduceAdd,reduceLeDiff,reduceIte,ax,o,Int.reduceBEq];refine aN (type20 E.1 E.2.1 af) ?_;rintro _ bg ⟨rfl,G⟩;refine⟨G.1,?_⟩;have ad:=G.get o;simp-implicitDefEqProofs(disch:=try exact al)only[reduceAdd,reduceLeDiff,reduceIte,ax,ad,Dq];refine aN (fZ (A.aM G) rfl [[118,97,114,32],x,[58,32],flat (cX ai z),[59]] (by simp) (by simp) af (by simp only[List.flatten_cons,List.flatten_nil,List.length_append,List.length_cons,List.length_nil];omega) rfl rfl rfl) ?_;rintro _ v ⟨u,m7,j,i⟩;refine⟨u,?_⟩
  simp-implicitDefEqProofs(disch:=try exact al)only[reduceAdd,reduceLeDiff,reduceIte,ax,o,ad];refine bb.2 (fin _ _ _ j ((cF.aM G).trans i) ?_);show _=pad deep++(flat (wd pf::ct::(jG x ai z++[bQ [59]]))++[10]);rw[gD,dV,ue,cT,cY];simp[pf]
 | @lets d x ai z F e ak E n=>
  have a5:=eM ak;have bx:=gn E;have bG:=E.2.1;have bz:=iD ai z;have N:=gF n;have O:=M rfl;have B:ix [e] 0=flat (bm e):=rfl;simp-implicitDefEqProofs(disch:=try exact al)only[reduceAdd,reduceLeDiff,reduceIte,ax,o,Int.reduceBEq];refine aN (type20 E.1 E.2.1 af) ?_;rintro _ bg ⟨rfl,G⟩;refine⟨G.1,?_⟩;have ad:=G.get o;simp-implicitDefEqProofs(disch:=try exact al)only[reduceAdd,reduceLeDiff,reduceIte,ax,ad,Mf,B];refine aN (fZ (A.aM G) rfl [[108,101,116,32],x,[58,32],flat (cX ai z),[32,61,32],flat (bm e),[59]] (by simp) (by simp) af (by simp only[List.flatten_cons,List.flatten_nil,List.length_append,List.length_cons,List.length_nil];omega) rfl rfl rfl) ?_
  rintro _ v ⟨u,m7,j,i⟩;refine⟨u,?_⟩;simp-implicitDefEqProofs(disch:=try exact al)only[reduceAdd,reduceLeDiff,reduceIte,ax,o,ad];refine bb.2 (fin _ _ _ j ((cF.aM G).trans i) ?_);show _=pad deep++(flat (wd pd::ct::(jG x ai z++ct::bQ [61]::ct::(bm e++[bQ [59]])))++[10]);rw[gD,dV,ue,dV,cT,dV,c3,cT,cY];simp[pd]
 | @set d x F e ak n=>
  have a5:=eM ak;have N:=gF n;have O:=M rfl;have B:ix [e] 0=flat (bm e):=rfl;simp-implicitDefEqProofs(disch:=try exact al)only[reduceAdd,reduceLeDiff,reduceIte,ax,o,Int.reduceBEq,vU,B];refine aN (fZ (A) rfl [x,[32,61,32],flat (bm e),[59]] (by simp) (by simp) af (by simp only[List.flatten_cons,List.flatten_nil,List.length_append,List.length_cons,List.length_nil];omega) rfl rfl rfl) ?_;rintro _ v ⟨u,m7,j,i⟩;refine⟨u,?_⟩;refine bb.2 (fin _ _ _ j i ?_);show _=pad deep++(flat (ch x::ct::bQ [61]::ct::(bm e++[bQ [59]]))++[10]);rw[iA,dV,cT,dV,c3,cT,cY];simp
 | @put d F e f bw n bB=>
  have O:=bu rfl;have N:=gF n;have aR:=gF bB;have B:ix [e,f] 0=flat (bm e):=rfl;have bn:ix [e,f] 1=flat (bm f):=rfl;simp-implicitDefEqProofs(disch:=try exact al)only[reduceAdd,reduceLeDiff,reduceIte,ax,o,Int.reduceBEq,vU,B,bn];refine aN (fZ (A) rfl [flat (bm e),[32,61,32],flat (bm f),[59]] (by simp) (by simp) af (by simp only[List.flatten_cons,List.flatten_nil,List.length_append,List.length_cons,List.length_nil];omega) rfl rfl rfl) ?_;rintro _ v ⟨u,m7,j,i⟩;refine⟨u,?_⟩;refine bb.2 (fin _ _ _ j i ?_);show _=pad deep++(flat (bm e++ct::bQ [61]::ct::(bm f++[bQ [59]]))++[10]);rw[c3,dV,cT,dV,c3,cT,cY]
  simp
 | @ifs d F e b c n aj a4=>
  have O:=M rfl;have N:=gF n;have bq:=p8 (deep:=deep+1) aj af;have bV:=p8 (deep:=deep+1) a4 af;have B:ix [e] 0=flat (bm e):=rfl;simp-implicitDefEqProofs(disch:=try exact al)only[reduceAdd,reduceLeDiff,reduceIte,ax,o,Int.reduceBEq,qT,B];refine aN (fZ (A) rfl [[105,102,32],flat (bm e),[32,123]] (by simp) (by simp) af (by simp only[List.flatten_cons,List.flatten_nil,List.length_append,List.length_cons,List.length_nil];omega) rfl rfl rfl) ?_;rintro _ v ⟨u,m7,j,i⟩;refine⟨u,?_⟩;have ao:=i.get o S bc;have bP:y≠m7:=by have:=i.1;omega
  have aF:=(a_.aX (i.aX A.aG A.hm L).s);have bl:=(bM.aX (i.aX A.aG A.hm L).s);simp-implicitDefEqProofs(disch:=try exact al)only[reduceAdd,reduceLeDiff,reduceIte,ax,ao,aV];refine aN (a7 d (deep+1) aj af af v ok bv _ n0 p m7 _ rfl aF L j (by simp only[List.flatten_cons,List.flatten_nil,List.length_append,List.length_cons,List.length_nil];omega)) ?_;rintro _ bh ⟨m8,V,K⟩;refine⟨K.next,?_⟩;have aI:=K.get ao S bP;have bR:y≠m8:=by have:=K.1;have:=i.next;omega
  have aW:=(bl.aX (K.aX j.aG j.hm L).s);have aQ:=aW.tS;by_cases aP:c=[]
  ·subst aP;have aY:¬((0:Int)<((0:Nat):Int)):=af;simp only[List.length_nil]at aQ;simp-implicitDefEqProofs(disch:=try exact al)only[reduceAdd,reduceLeDiff,reduceIte,ax,aI,aQ,aY,decide_false,nu];refine aN (fZ (V) rfl [[125]] (by simp) (by simp) af (by simp only[List.flatten_cons,List.flatten_nil,List.length_append,List.length_cons,List.length_nil];omega) rfl rfl rfl) ?_;rintro _ aD ⟨am,m10,Q,R⟩;refine⟨am,?_⟩;rw[List.append_assoc,List.append_assoc]at Q;refine bb.2 (fin _ _ _ Q ((i.trans K).trans R) ?_);show _=pad deep++(flat (wd lk::ct::(bm e++(hL (pad deep) (cH (deep+1) b)++[])))++[10]);rw[gD,dV,c3,pU,cY]
   simp[lk]
  ·have bs:(0:Int)<(c.length:Int):=by have:=List.length_pos_iff.2 aP;omega
   have br:c.isEmpty=false:=by cases c<;>first|exact absurd rfl aP|rfl
   simp-implicitDefEqProofs(disch:=try exact al)only[reduceAdd,reduceLeDiff,reduceIte,ax,aI,aQ,bs,decide_true];refine aN (fZ (V) rfl [[125,32,101,108,115,101,32,123]] (by simp) (by simp) af (by simp only[List.flatten_cons,List.flatten_nil,List.length_append,List.length_cons,List.length_nil];omega) rfl rfl rfl) ?_;rintro _ aD ⟨am,m10,Q,R⟩;refine⟨am,?_⟩;have bo:=R.get aI S bR;have bk:=(aW.aX (R.aX V.aG V.hm L).s);simp-implicitDefEqProofs(disch:=try exact al)only[reduceAdd,reduceLeDiff,reduceIte,ax,bo,aV];refine aN (bL d (deep+1) a4 af af aD ok T _ n0 p m10 _ rfl bk L Q (by simp only[List.flatten_cons,List.flatten_nil,List.length_append,List.length_cons,List.length_nil];omega)) ?_
   rintro _ bS ⟨m11,bJ,ba⟩;refine⟨ba.next,?_⟩;simp-implicitDefEqProofs(disch:=try exact al)only[reduceAdd,reduceLeDiff,reduceIte,ax,nu];refine aN (fZ (bJ) rfl [[125]] (by simp) (by simp) af (by simp only[List.flatten_cons,List.flatten_nil,List.length_append,List.length_cons,List.length_nil];omega) rfl rfl rfl) ?_;rintro _ bT ⟨bK,m12,a6,bN⟩;refine⟨bK,?_⟩;rw[List.append_assoc,List.append_assoc,List.append_assoc,List.append_assoc]at a6;refine bb.2 (fin _ _ _ a6 ((((i.trans K).trans R).trans ba).trans bN) ?_);show _=pad deep++(flat (wd lk::ct::(bm e++(hL (pad deep) (cH (deep+1) b)++bif c.isEmpty then[]else ct::wd q2::hL (pad deep) (cH (deep+1) c))))++[10])
   have:=pU (pad deep) (cH (deep+1) c) [];rw[List.append_nil,cY]at this;rw[br,aT,gD,dV,c3,pU,dV,gD,this];simp[lk,q2]
 | @«while» d F e b n aj=>
  have O:=M rfl;have N:=gF n;have bq:=p8 (deep:=deep+1) aj af;have B:ix [e] 0=flat (bm e):=rfl;simp-implicitDefEqProofs(disch:=try exact al)only[reduceAdd,reduceLeDiff,reduceIte,ax,o,Int.reduceBEq,qT,B];refine aN (fZ (A) rfl [[119,104,105,108,101,32],flat (bm e),[32,123]] (by simp) (by simp) af (by simp only[List.flatten_cons,List.flatten_nil,List.length_append,List.length_cons,List.length_nil];omega) rfl rfl rfl) ?_;rintro _ v ⟨u,m7,j,i⟩;refine⟨u,?_⟩;have ao:=i.get o S bc;have aF:=(a_.aX (i.aX A.aG A.hm L).s);simp-implicitDefEqProofs(disch:=try exact al)only[reduceAdd,reduceLeDiff,reduceIte,ax,ao,aV]
  refine aN (a7 d (deep+1) aj af af v ok bv _ n0 p m7 _ rfl aF L j (by simp only[List.flatten_cons,List.flatten_nil,List.length_append,List.length_cons,List.length_nil];omega)) ?_;rintro _ bh ⟨m8,V,K⟩;refine⟨K.next,?_⟩;simp-implicitDefEqProofs(disch:=try exact al)only[reduceAdd,reduceLeDiff,reduceIte,ax];refine aN (fZ (V) rfl [[125]] (by simp) (by simp) af (by simp only[List.flatten_cons,List.flatten_nil,List.length_append,List.length_cons,List.length_nil];omega) rfl rfl rfl) ?_;rintro _ aD ⟨am,m10,Q,R⟩;refine⟨am,?_⟩;rw[List.append_assoc,List.append_assoc]at Q;refine bb.2 (fin _ _ _ Q ((i.trans K).trans R) ?_)
  show _=pad deep++(flat (wd pg::ct::(bm e++hL (pad deep) (cH (deep+1) b)))++[10]);have:=pU (pad deep) (cH (deep+1) b) [];rw[List.append_nil,cY]at this;rw[gD,dV,c3,this];simp[pg]
 | @mV d F=>
  have ap:=a9.pO;have aY:((0:Nat):Int)==0:=rfl;simp only[List.length_nil]at ap;simp-implicitDefEqProofs(disch:=try exact al)only[reduceAdd,reduceLeDiff,reduceIte,ax,o,Int.reduceBEq,ap,Int.natCast_zero];refine aN (fZ (A) rfl [[114,101,116,117,114,110,59]] (by simp) (by simp) af (by simp only[List.flatten_cons,List.flatten_nil,List.length_append,List.length_cons,List.length_nil];omega) rfl rfl rfl) ?_;rintro _ v ⟨u,m7,j,i⟩;refine⟨u,?_⟩;refine bb.2 (fin _ _ _ j i ?_);show _=pad deep++(flat (wd me::[bQ [59]])++[10]);rw[gD,cT,cY];simp[me]
 | @mW d F e n=>
  have N:=gF n;have O:=M rfl;have B:ix [e] 0=flat (bm e):=rfl;have ap:∀H',b2 P H' .len [41] [b6]=D (I J 1):=λH'=>a9.pO H'
  simp-implicitDefEqProofs(disch:=try exact al)only[reduceAdd,reduceLeDiff,reduceIte,ax,o,Int.reduceBEq,ap,qT,B];refine aN (fZ (A) rfl [[114,101,116,117,114,110,32],flat (bm e),[59]] (by simp) (by simp) af (by simp only[List.flatten_cons,List.flatten_nil,List.length_append,List.length_cons,List.length_nil];omega) rfl rfl rfl) ?_;rintro _ v ⟨u,m7,j,i⟩;refine⟨u,?_⟩;refine bb.2 (fin _ _ _ j i ?_);show _=pad deep++(flat (wd me::(ct::bm e++[bQ [59]]))++[10]);rw[gD,List.cons_append,dV,c3,cT,cY];simp[me]
 | @print d F e n=>
  have N:=gF n;have O:=M rfl;have B:ix [e] 0=flat (bm e):=rfl;simp-implicitDefEqProofs(disch:=try exact al)only[reduceAdd,reduceLeDiff,reduceIte,ax,o,Int.reduceBEq,qT,B];refine aN (fZ (A) rfl [[112,114,105,110,116,32],flat (bm e),[59]] (by simp) (by simp) af (by simp only[List.flatten_cons,List.flatten_nil,List.length_append,List.length_cons,List.length_nil];omega) rfl rfl rfl) ?_;rintro _ v ⟨u,m7,j,i⟩;refine⟨u,?_⟩;refine bb.2 (fin _ _ _ j i ?_);show _=pad deep++(flat (wd pe::ct::(bm e++[bQ [59]]))++[10]);rw[gD,dV,c3,cT,cY];simp[pe]
 | @call d F e bw n=>
  have N:=gF n;have O:=M rfl;have B:ix [e] 0=flat (bm e):=rfl;simp-implicitDefEqProofs(disch:=try exact al)only[reduceAdd,reduceLeDiff,reduceIte,ax,o,Int.reduceBEq,Me,B];refine aN (fZ (A) rfl [flat (bm e),[59]] (by simp) (by simp) af (by simp only[List.flatten_cons,List.flatten_nil,List.length_append,List.length_cons,List.length_nil];omega) rfl rfl rfl) ?_;rintro _ v ⟨u,m7,j,i⟩;refine⟨u,?_⟩;refine bb.2 (fin _ _ _ j i ?_);show _=pad deep++(flat (bm e++[bQ [59]])++[10]);rw[c3,cT,cY];simp
section
variable {N:Nat}{H0:ae}{L i n:Nat}{cap:Option Nat}{ro:Bool}{els:List (List aa)}{ok:Nat->Prop}{d deep n0 p m0:Nat}{acc:aJ}
def By(o:deep+d<=51)(y:∀l,ok l->l<n0)(B:ok L)(ad:n<=1000000000)(ab:n0<=m0):∀(es:List bE) (j k:Nat) (done:aJ) (m:Nat) (H:ae),(∀a ks b c,bE.mk a ks b c∈es->jX b/\jX c)->(∀s∈es,ea d s)->H.get L=D (.row ro 9 els)->dz H ok es (els.drop (i+j))->du es<=1000000000->acc.length+done.length+du es<=500000000000->n=j+es.length->es.length<k->eL n0 p m H (acc++done)->cF p m0 H0 m H->
  W (k3 (aC P az) N k (.ptr p 0 0) (I J deep) (.aA L i n 9 cap) (I J n) (I J j) H) λ_ H'=>∃m',eL n0 p m' H' (acc++(done++flat (cH deep es)))/\cF p m0 H0 m' H'
 |_,_,0,_,_,_,_,_,_,_,_,_,_,x,_,_=>af
 |[],j,k+1,done,m,H,aB,hw,q,he,F,E,u,x,e,w=>by
  have v:¬((j:Int)<(n:Int)):=by simp at u;omega
  simp-implicitDefEqProofs(disch:=try exact al)only[k3,oR,reduceAdd,reduceLeDiff,reduceIte,ax,v,decide_false];exact bb.2 ⟨m,by rw[cH,cY,List.append_nil];exact e,w⟩
 | .mk a ks b c::es,j,k+1,done,m,H,aB,hw,q,he,F,E,u,x,e,w=>by
  simp only[List.length_cons]at u x;have v:(j:Int)<(n:Int):=af;have ag:((j:Int)).toNat=j:=af;have V:(0:Int)<=(j:Int):=af;have am:IntKind.i64.wrap ((j:Int)+1)=((j+1:Nat):Int):=by rw[wrap_i64 af af];omega
  obtain⟨cs,aZ,aj,ak⟩:=he.cons;obtain⟨b6,bv,S,T,v1,v2,v3⟩:=ln.1 aj;cases T;obtain⟨ah,ai⟩:=aB a ks b c (List.mem_cons_self ..);have G:=hw (.mk a ks b c) (List.mem_cons_self ..);have hlen:=uV G deep o;rw[du]at F E;have bH:=v1.eb;have bX:=v2.eb;have ck:=v3.eb;have pp:=aO.push H (.row U 9 [a.cells b6 bv S]);have A:=Mm ah ai G o af (z:=deep) rfl (v1.aM pp) (v2.aM pp) (v3.aM pp) y (e.aM pp) (by rw[List.length_append];omega);simp only[b1.cells]at aZ pp A;simp-implicitDefEqProofs(disch:=try exact al)only[k3,oR,reduceAdd,reduceLeDiff,reduceIte,ax,v,decide_true,V,ag,q,aZ,bH,bX,ck];refine aN A ?_;rintro _ R ⟨m2,K,O⟩
  refine⟨O.next,?_⟩;simp-implicitDefEqProofs(disch:=try exact al)only[bf,br,c5,am];have Q:=(cF.aM (p:=p) (m:=m) pp).trans O;have M:=Q.aX e.aG e.hm y;have g2:=(M L _ B q).2;have aa:flat (cH deep (.mk a ks b c::es))=flat (gp deep (.mk a ks b c))++flat (cH deep es):=by rw[cH,c3]
  rw[List.append_assoc]at K;rw[aa,<-List.append_assoc done];exact By o y B ad ab es (j+1) k (done++flat (gp deep (.mk a ks b c))) m2 R (λa ks b c h=>aB a ks b c (List.mem_cons_of_mem _ h)) (λs h=>hw s (List.mem_cons_of_mem _ h)) g2 (by rw[show i+(j+1)=i+j+1 by omega];exact dz.aX M.s _ _ ak) af (by rw[List.length_append];omega) af af K (w.trans Q)
end
def uY{es:List bE}(aB:∀a ks b c,bE.mk a ks b c∈es->jX b/\jX c):jX es:=by
 intro d deep hw s o H ok v z n0 p m acc e h u j n;subst e;refine cz (λ_=>JG (es.length+1)) ?_;have q:=h.tS;rw[sv];simp-implicitDefEqProofs(disch:=try exact al)only[reduceAdd,reduceLeDiff,reduceIte,ax,q];by_cases e:es.length=0
 ·obtain rfl:=List.length_eq_zero_iff.1 e;have k:¬((0:Int)<((0:Nat):Int)):=af;simp only[List.length_nil];simp-implicitDefEqProofs(disch:=try exact al)only[k3,oR,reduceAdd,reduceLeDiff,reduceIte,ax,k,decide_false];exact bb.2 ⟨m,by rw[cH,cY,List.append_nil];exact j,cF.aM (.refl _)⟩
 ·obtain⟨L,i,cap,ro,els,rfl,l,g1,w⟩:=h.row e;have x:=Bb es;exact By (N:=es.length+1) s u l af j.hm es 0 (es.length+1) [] m H aB hw g1 (by rw[Nat.add_zero];exact w) o (by simpa using n) af af (by rw[List.append_nil];exact j) (cF.aM (.refl _))
def tf(e:bE):Prop:=∀(a:b1) (ks:List aL) (b c:List bE),e= .mk a ks b c->jX b/\jX c
def vn:∀(e:bE),tf e
 | .mk a ks b c=>by
  have i:∀e∈b,tf e:=λe he=>vn e
  have j:∀e∈c,tf e:=λe he=>vn e
  intro bZ d cx c' h;cases h;exact⟨uY λbZ d cx c' h=>i _ h _ _ _ _ rfl,uY λbZ d cx c' h=>j _ h _ _ _ _ rfl⟩
def Gn(es:List bE):jX es:=uY λa ks b c _=>vn (.mk a ks b c) a ks b c rfl
section
set_option maxRecDepth 100000
noncomputable section
def ni(G:ay)(N:Nat)(bp:aa)(H:ae):O:=j (aq P .add 9 X bp (Y [32,123])) λa=>D (a,H)
def KR(G:ay)(N:Nat):∀ad H,bo P G N (ak (ak (ak (ak (ak (bs Tryd.f30)))))) (bh Tryd.f30) [] (bh Tryd.f30) ad H=ni G N (ad 6) H:=by
 refine bK (aH _) λad H=> ?_
 delta ni;kernel_rfl
def lV(G:ay)(N:Nat)(av l:aa)(H:ae):O:=aI H (G 59 [l,Y [44,32]] H) λm a=>j (aK P 73 av 0) λc=>j (an P a 9 c) λd=>j (aq P .add 9 X (Y [102,117,110,99,32]) d) λi=>j (aq P .add 9 X i (Y [40])) λk=>j (aq P .add 9 U k m) λn=>j (aq P .add 9 X n (Y [41])) λe=>bif ((bj (an P H 9 c) d&&bj (an P a 9 c) d)&&X)then(j (aK P 73 av 2) λo=>j (an P a 4 o) λp=>aW (D p) (j (aK P 73 av 3) λq=>j (an P a 40 q) λs=>aI a (G 20 [s] a) λu h=>j (aq P .add 9 X (Y [58,32]) u) λv=>j (aq P .add 9 U e v) λw=>ni G N w h) (ni G N e a))else Z
def KQ(G:ay)(N:Nat):∀ad H,bo P G N (ak (ak (ak (bs Tryd.f30)))) (bh Tryd.f30) [] (bh Tryd.f30) ad H=lV G N (ad 1) (ad 3) H:=by
 refine bK ((aP ah ((aP ah (KR G N) (aH _))) (aH _))) λad H=> ?_
 delta lV;generalize ni G N=a;revert a;refine id ?_;intro a;kernel_rfl
def oQ(G:ay)(N:Nat)(o:aa->aa->aa->aa->aa->ae->O)(av l:aa)(m n d:aa)(H:ae):O:=j (aq P .lss 3 U d n) λq=>aW (D q) (j (cc P 23 m d) λs=>j (an P H 68 s) λu=>cg H [Y [],Y [],I J 0,I J 0] λh i=>a7 i (aV P i 68 h u) λa=>j (aK P 68 h 1) λw=>j (an P a 40 w) λx=>aI a (G 20 [x] a) λy c=>j (aK P 68 h 0) λe=>j (an P c 9 e) λbz=>j (aq P .add 9 X bz (Y [58,32])) λv=>j (aq P .add 9 U v y) λz=>bS c (bV P (c).next 50 1 [(0,z)]) λA k=>aI k (cQ P k [50,50] l A) λB p=>bif ((bj (an P a 9 e) bz&&(bj (an P c 9 e) bz&&X))&&X)then(j (aq P .add 3 X d (I J 1)) λE=>o av B m n E p)else Z) (lV G N av l H)
def k2(G:ay)(N:Nat):Nat->aa->aa->aa->aa->aa->ae->O
 |0,_,_,_,_,_,_=>Z
 |n+1,av,c,d,e,a,H=>oQ G N (k2 G N n) av c d e a H
def KP(G:ay)(N:Nat)(c:aa->aa->aa->aa->aa->ae->O):∀ad H,bo P G N (a6 (a6 (ak (a6 (ak (ak (bs Tryd.f30))))))) (λad H=>c (ad 1) (ad 3) (ad 8) (ad 9) (ad 10) H) [(0,(λad H=>lV G N (ad 1) (ad 3) H))] (bh Tryd.f30) ad H=oQ G N c (ad 1) (ad 3) (ad 8) (ad 9) (ad 10) H:=by
 refine bK (aH _) λad H=> ?_
 delta oQ;generalize lV G N=a;revert a;refine id ?_;intro a;kernel_rfl
def su(G:ay)(N:Nat)(ag:aa)(H:ae):O:=bS H (dS (H).next ag) λav a=>j (aK P 73 av 1) λd=>j (an P a 23 d) λc=>bf P .len [23] [c] a λe=>k2 G N N av aa.ar c e (I J 0) a
def JF(N:Nat){ag:aa}{H:ae}{r:aa×ae}(h:su (aC P az) N ag H=D r):aC P az 30 [ag] H=D r:=cO N (S:=λG=>su G N ag H) Tryd.func30 (λG=>dN ((aP ah ((aP ah ((aP ah (KQ G N) ((aP ah ((dc ah ((ei (k:=λm ad H=>k2 G N m (ad 1) (ad 3) (ad 8) (ad 9) (ad 10) H) ah (λad H=>ah) (λm=>KP G N (k2 G N m)))))) (aH _))))) (aH _))) (aH _))) (by delta su;generalize k2 G N N=a;revert a;refine id ?_;intro a;kernel_rfl)) h
def lP(G:ay)(N:Nat)(c:aa)(H:ae):O:=j (bW c) λd=>j (aK P 81 d 0) λe=>aI H (G 32 [e] H) λh a=>D (h,a)
def Ku(G:ay)(N:Nat):∀ad H,bo P G N (ak (ak (ak (ak (ak (bs Tryd.f10)))))) (bh Tryd.f10) [] (bh Tryd.f10) ad H=lP G N (ad 3) H:=by
 refine bK (aH _) λad H=> ?_
 delta lP;kernel_rfl
def oL(G:ay)(N:Nat)(q:aa->aa->aa->aa->ae->O)(a o:aa)(p h:aa)(H:ae):O:=j (aq P .lss 3 U h p) λu=>aW (D u) (j (cc P 24 o h) λv=>j (an P H 73 v) λw=>cg H [Y [],aa.ar,.bool U,Y [],I J 0,aa.ar,I J 0] λe i=>a7 i (aV P i 73 e w) λc=>j (an P c 73 e) λx=>aI c (G 30 [x] c) λy k=>bS k (bV P (k).next 50 1 [(0,y)]) λz l=>aI l (G 29 [a,I J 0,z] l) λK d=>j (aK P 73 e 4) λA=>j (an P d 71 A) λB=>aI d (G 31 [a,I J 1,B] d) λL m=>bS m (D (.aA (m).next 0 1 1 (D 1),.row U 1 [[Y [125]]])) λE n=>aI n (G 29 [a,I J 0,E] n) λM s=>j (aq P .add 3 X h (I J 1)) λF=>q a o p F s) (lP G N a H)
def kV(G:ay)(N:Nat):Nat->aa->aa->aa->aa->ae->O
 |0,_,_,_,_,_=>Z
 |n+1,a,c,d,e,H=>oL G N (kV G N n) a c d e H
def Ko(G:ay)(N:Nat)(c:aa->aa->aa->aa->ae->O):∀ad H,bo P G N (a6 (a6 (ak (a6 (ak (ak (ak (ak (bs Tryd.f10))))))))) (λad H=>c (ad 3) (ad 63) (ad 64) (ad 65) H) [(6,(λad H=>lP G N (ad 3) H))] (bh Tryd.f10) ad H=oL G N c (ad 3) (ad 63) (ad 64) (ad 65) H:=by
 refine bK (aH _) λad H=> ?_
 delta oL;generalize lP G N=a;revert a;refine id ?_;intro a;kernel_rfl
def lO(G:ay)(N:Nat)(av c:aa)(H:ae):O:=j (aK P 26 av 2) λd=>j (an P H 24 d) λa=>bf P .len [24] [a] H λe=>kV G N N c a e (I J 0) H
def Kt(G:ay)(N:Nat):∀ad H,bo P G N (ak (ak (ak (ak (bs Tryd.f10))))) (bh Tryd.f10) [] (bh Tryd.f10) ad H=lO G N (ad 1) (ad 3) H:=by
 refine bK ((aP ah (Ku G N) ((aP ah ((dc ah ((ei (k:=λm ad H=>kV G N m (ad 3) (ad 63) (ad 64) (ad 65) H) ah (λad H=>ah) (λm=>Ko G N (kV G N m)))))) (aH _))))) λad H=> ?_
 delta lO;generalize kV G N N=a;revert a;refine id ?_;intro a;kernel_rfl
def oM(G:ay)(N:Nat)(p:aa->aa->aa->aa->aa->ae->O)(av d:aa)(n o e:aa)(H:ae):O:=j (aq P .lss 3 U e o) λs=>aW (D s) (j (cc P 23 n e) λu=>j (an P H 68 u) λv=>cg H [Y [],Y [],I J 0,I J 0] λk l=>a7 l (aV P l 68 k v) λa=>j (aK P 68 k 1) λw=>j (an P a 40 w) λx=>aI a (G 20 [x] a) λy c=>j (aK P 68 k 0) λh=>j (an P c 9 h) λi=>bS c (bV P (c).next 50 5 [(0,(Y [103,108,111,98,97,108,32])),(1,i),(2,(Y [58,32])),(3,y),(4,(Y [59]))]) λz m=>aI m (G 29 [d,I J 0,z] m) λB q=>bif ((bj (an P a 9 h) i&&(bj (an P c 9 h) i&&X))&&X)then(j (aq P .add 3 X e (I J 1)) λA=>p av d n o A q)else Z) (lO G N av d H)
def kW(G:ay)(N:Nat):Nat->aa->aa->aa->aa->aa->ae->O
 |0,_,_,_,_,_,_=>Z
 |n+1,av,a,c,d,e,H=>oM G N (kW G N n) av a c d e H
def Kp(G:ay)(N:Nat)(c:aa->aa->aa->aa->aa->ae->O):∀ad H,bo P G N (a6 (a6 (ak (a6 (ak (ak (ak (bs Tryd.f10)))))))) (λad H=>c (ad 1) (ad 3) (ad 47) (ad 48) (ad 49) H) [(4,(λad H=>lO G N (ad 1) (ad 3) H))] (bh Tryd.f10) ad H=oM G N c (ad 1) (ad 3) (ad 47) (ad 48) (ad 49) H:=by
 refine bK (aH _) λad H=> ?_
 delta oM;generalize lO G N=a;revert a;refine id ?_;intro a;kernel_rfl
def jK(G:ay)(N:Nat)(av c:aa)(H:ae):O:=j (aK P 26 av 1) λd=>j (an P H 23 d) λa=>bf P .len [23] [a] H λe=>kW G N N av c a e (I J 0) H
def Ks(G:ay)(N:Nat):∀ad H,bo P G N (ak (ak (ak (bs Tryd.f10)))) (bh Tryd.f10) [] (bh Tryd.f10) ad H=jK G N (ad 1) (ad 3) H:=by
 refine bK ((aP ah (Kt G N) ((aP ah ((dc ah ((ei (k:=λm ad H=>kW G N m (ad 1) (ad 3) (ad 47) (ad 48) (ad 49) H) ah (λad H=>ah) (λm=>Kp G N (kW G N m)))))) (aH _))))) λad H=> ?_
 delta jK;generalize kW G N N=a;revert a;refine id ?_;intro a;kernel_rfl
def kU(G:ay)(N:Nat)(a:aa->aa->aa->aa->aa->ae->O)(av e:aa)(c bz d:aa)(H:ae):O:=j (aq P .add 3 X d (I J 1)) λh=>a av e c bz h H
def Kv(G:ay)(N:Nat)(a:aa->aa->aa->aa->aa->ae->O):∀ad H,bo P G N (ak (ak (ak (a6 (a6 (ak (a6 (ak (ak (bs Tryd.f10)))))))))) (λad H=>a (ad 1) (ad 3) (ad 15) (ad 16) (ad 17) H) [(0,(λad H=>jK G N (ad 1) (ad 3) H))] (bh Tryd.f10) ad H=kU G N a (ad 1) (ad 3) (ad 15) (ad 16) (ad 17) H:=by
 refine bK (aH _) λad H=> ?_
 delta kU;kernel_rfl
def lQ(G:ay)(N:Nat)(d:aa->aa->aa->aa->aa->ae->O)(av c:aa)(h bz i:aa)(H:ae):O:=bS H (D (.aA (H).next 0 1 1 (D 1),.row U 1 [[Y [125]]])) λj a=>aI a (G 29 [c,I J 0,j] a) λk e=>kU G N d av c h bz i e
def Kw(G:ay)(N:Nat)(a:aa->aa->aa->aa->aa->ae->O):∀ad H,bo P G N (ak (ak (ak (a6 (a6 (ak (ak (a6 (a6 (ak (a6 (ak (ak (bs Tryd.f10)))))))))))))) (λad H=>kU G N a (ad 1) (ad 3) (ad 15) (ad 16) (ad 17) H) [(1,(λad H=>kU G N a (ad 1) (ad 3) (ad 15) (ad 16) (ad 17) H)),(0,(λad H=>jK G N (ad 1) (ad 3) H))] (bh Tryd.f10) ad H=lQ G N a (ad 1) (ad 3) (ad 15) (ad 16) (ad 17) H:=by
 refine bK (aH _) λad H=> ?_
 delta lQ;generalize kU G N a=c;revert c;refine id ?_;intro c;kernel_rfl
def oO(G:ay)(N:Nat)(s:aa->aa->aa->aa->aa->ae->O)(u:aa->aa->aa->aa->aa->aa->aa->aa->ae->O)(av e:aa)(n bz:aa)(o p:aa)(q d:aa)(H:ae):O:=j (aq P .lss 3 U d q) λw=>aW (D w) (j (cc P 23 p d) λx=>j (an P H 68 x) λy=>cg H [Y [],Y [],I J 0,I J 0] λk l=>a7 l (aV P l 68 k y) λa=>j (aK P 68 k 1) λz=>j (an P a 40 z) λA=>aI a (G 20 [A] a) λB c=>j (aK P 68 k 0) λh=>j (an P c 9 h) λi=>bS c (bV P (c).next 50 4 [(0,i),(1,(Y [58,32])),(2,B),(3,(Y [59]))]) λE m=>aI m (G 29 [e,I J 1,E] m) λK v=>bif ((bj (an P a 9 h) i&&(bj (an P c 9 h) i&&X))&&X)then(j (aq P .add 3 X d (I J 1)) λF=>u av e n bz o p q F v)else Z) (lQ G N s av e n bz o H)
def kX(G:ay)(N:Nat)(a:aa->aa->aa->aa->aa->ae->O):Nat->aa->aa->aa->aa->aa->aa->aa->aa->ae->O
 |0,_,_,_,_,_,_,_,_,_=>Z
 |n+1,av,j,c,bz,d,e,h,i,H=>oO G N a (kX G N a n) av j c bz d e h i H
def Kr(G:ay)(N:Nat)(a:aa->aa->aa->aa->aa->ae->O)(d:aa->aa->aa->aa->aa->aa->aa->aa->ae->O):∀ad H,bo P G N (a6 (a6 (ak (a6 (ak (ak (a6 (a6 (ak (ak (a6 (a6 (ak (a6 (ak (ak (bs Tryd.f10))))))))))))))))) (λad H=>d (ad 1) (ad 3) (ad 15) (ad 16) (ad 17) (ad 27) (ad 28) (ad 29) H) [(2,(λad H=>lQ G N a (ad 1) (ad 3) (ad 15) (ad 16) (ad 17) H)),(1,(λad H=>kU G N a (ad 1) (ad 3) (ad 15) (ad 16) (ad 17) H)),(0,(λad H=>jK G N (ad 1) (ad 3) H))] (bh Tryd.f10) ad H=oO G N a d (ad 1) (ad 3) (ad 15) (ad 16) (ad 17) (ad 27) (ad 28) (ad 29) H:=by
 refine bK (aH _) λad H=> ?_
 delta oO;generalize lQ G N a=c;revert c;refine id ?_;intro c;kernel_rfl
def oN(G:ay)(N:Nat)(n:aa->aa->aa->aa->aa->ae->O)(av e:aa)(l bz d:aa)(H:ae):O:=j (aq P .lss 3 U d bz) λo=>aW (D o) (j (cc P 22 l d) λp=>j (an P H 65 p) λq=>cg H [Y [],aa.ar,I J 0] λh i=>a7 i (aV P i 65 h q) λa=>j (aK P 65 h 0) λs=>j (an P a 9 s) λu=>bS a (bV P (a).next 50 3 [(0,(Y [114,101,99,111,114,100,32])),(1,u),(2,(Y [32,123]))]) λv k=>aI k (G 29 [e,I J 0,v] k) λy c=>j (aK P 65 h 1) λw=>j (an P c 23 w) λm=>bf P .len [23] [m] c λx=>kX G N n N av e l bz d m x (I J 0) c) (jK G N av e H)
def kd(G:ay)(N:Nat):Nat->aa->aa->aa->aa->aa->ae->O
 |0,_,_,_,_,_,_=>Z
 |n+1,av,d,a,bz,c,H=>oN G N (kd G N n) av d a bz c H
def Kq(G:ay)(N:Nat)(a:aa->aa->aa->aa->aa->ae->O):∀ad H,bo P G N (a6 (a6 (ak (a6 (ak (ak (bs Tryd.f10))))))) (λad H=>a (ad 1) (ad 3) (ad 15) (ad 16) (ad 17) H) [(0,(λad H=>jK G N (ad 1) (ad 3) H))] (bh Tryd.f10) ad H=oN G N a (ad 1) (ad 3) (ad 15) (ad 16) (ad 17) H:=by
 refine bK ((aP ah ((aP ah ((aP ah (Kv G N a) ((dc ah ((aP ah ((aP ah ((aP ah (Kw G N a) ((aP ah ((dc ah ((ei (k:=λm ad H=>kX G N a m (ad 1) (ad 3) (ad 15) (ad 16) (ad 17) (ad 27) (ad 28) (ad 29) H) ah (λad H=>ah) (λm=>Kr G N a (kX G N a m)))))) (aH _))))) (aH _))) (aH _))))))) (aH _))) (aH _))) λad H=> ?_
 delta oN;generalize jK G N=c;generalize kX G N a N=d;revert c d;refine id ?_;intro c d;kernel_rfl
def sg(G:ay)(N:Nat)(ag:aa)(H:ae):O:=bS H (dS (H).next ag) λav c=>bS c (n5 (D 81) (c).next (.agg [aa.nilPtr,aa.ar])) λe a=>j (aK P 26 av 0) λh=>j (an P a 22 h) λd=>bf P .len [22] [d] a λbz=>kd G N N av e d bz (I J 0) a
def Jq(N:Nat){ag:aa}{H:ae}{r:aa×ae}(h:sg (aC P az) N ag H=D r):aC P az 10 [ag] H=D r:=cO N (S:=λG=>sg G N ag H) Tryd.func10 (λG=>dN ((aP ah ((aP ah ((aP ah (Ks G N) ((aP ah ((dc ah ((ei (k:=λm ad H=>kd G N m (ad 1) (ad 3) (ad 15) (ad 16) (ad 17) H) ah (λad H=>ah) (λm=>Kq G N (kd G N m)))))) (aH _))))) (aH _))) (aH _))) (by delta sg;generalize kd G N N=a;revert a;refine id ?_;intro a;kernel_rfl)) h
end
end
section
set_option maxRecDepth 100000
noncomputable section
end
end
section
def iO{α:Type}(F:aw->ad α):Prop:=∀s x,F s=D x->x.2.aF=0->s.aF=0/\(0<=s.bP->x.2.bP=s.bP/\x.2.cS=s.cS)
def fa(f:aw->aw):Prop:=∀s,(f s).aF=0->s.aF=0/\(f s).bP=s.bP/\(f s).cS=s.cS
def iO.bind{α β:Type}{F:aw->ad α}{G:α->aw->ad β}(h:iO F)(m:∀x,iO (G x)):iO λs=>(F s).bind λp=>G p.1 p.2:=by
 intro s x n l;obtain⟨p,j,k⟩:=Gm n;obtain⟨g1,g2⟩:=m p.1 p.2 x k l;obtain⟨f1,f2⟩:=h s p j g1;refine⟨f1,λc=> ?_⟩;obtain⟨a,d⟩:=f2 c;obtain⟨e,i⟩:=g2 (by rw[a];exact c);exact⟨e.trans a,i.trans d⟩
def iO.none{α:Type}{F:aw->ad α}(h:∀s,F s=Z):iO F:=λs x a=>by rw[h]at a;cases a
def fa.comp{f g:aw->aw}(h:fa f)(k:fa g):fa λs=>g (f s):=λs aB=>by
 obtain⟨aR,a2,a3⟩:=k _ aB;obtain⟨a,c,b3⟩:=h _ aR;exact⟨a,a2.trans c,a3.trans b3⟩
def iO.pre{α:Type}{F:aw->ad α}{f:aw->aw}(h:fa f)(k:iO F):iO λs=>F (f s):=λs x l i=>by
 obtain⟨aR,a2⟩:=k _ x l i;obtain⟨c,a,b3⟩:=h s aR;refine⟨c,λj=> ?_⟩;obtain⟨d,e⟩:=a2 (by rw[a];exact j);exact⟨d.trans a,e.trans b3⟩
def fa.go:fa aD:=λs h=>⟨h,rfl,rfl⟩
def fa.id:fa λs=>s:=λs h=>⟨h,rfl,rfl⟩
variable {T:List Tok}
def t_{s:aw}{e:Int}(he:e≠0)(h:(cL T e s).aF=0):False:=by
 unfold cL at h;split at h
 ·exact he h
 ·rename_i aB;exact aB h
def fa.MS(x:aJ):fa λs=>(ej T x s).2:=λs h=>by
 have h:(ej T x s).2.aF=0:=h;show s.aF=0/\(ej T x s).2.bP=s.bP/\(ej T x s).2.cS=s.cS;cases a:b_ T s 4 x with
 |true=>
  have e:(ej T x s).2=aD s:=by simp[ej,a]
  rw[e]at h ⊢;exact⟨h,rfl,rfl⟩
 |false=>
  have e:(ej T x s).2=cL T 2 s:=by simp[ej,a]
  rw[e]at h;exact(t_ cp h).elim
def fa.jS(x:aJ):∀n:Nat,fa (jS T x n)
 |0=>fa.id
 |n+1=>fa.comp (f:=λs=>(ej T x s).2) (g:=YtghmbpmaafnodaaDoor.jS T x n) (fa.MS x) (fa.jS x n)
def BK:∀(n:Nat) (d:Int) (s:aw),(∀c s',gV T n d s= .inl (c,s')->s'.aF=0->s.aF=0/\s'.bP=s.bP/\s'.cS=s.cS)/\∀s',gV T n d s= .inr s'->s'.aF≠0
 |0,d,s=>by
  simp only[gV];cases b_ T s 4 [91]with
  |true=>exact⟨λ_ _ h=>(by cases h),λs' h e=>by cases h;exact t_ cp e⟩
  |false=>exact⟨λ_ _ h a=>(by cases h;exact⟨a,rfl,rfl⟩),λ_ h=>(by cases h)⟩
 |n+1,d,s=>by
  simp only[gV];cases b_ T s 4 [91]with
  |true=>exact BK n (d+1) (aD s)
  |false=>exact⟨λ_ _ h a=>(by cases h;exact⟨a,rfl,rfl⟩),λ_ h=>(by cases h)⟩
def fa.of:fa λs=>(eN T s).2:=λs h=>by
 obtain⟨i1,i2⟩:=BK (T:=T) 3 0 s;have ba:(eN T s).2.aF=0:=h;show s.aF=0/\(eN T s).2.bP=s.bP/\(eN T s).2.cS=s.cS;unfold eN at ba ⊢;cases a:gV T 3 0 s with
 |inr s'=>rw[a]at ba;exact absurd ba (i2 s' a)
 |inl p=>
  obtain⟨d,s1⟩:=p;rw[a]at ba;simp only at ba ⊢;cases c:((au T s1.at_).kind != 1&&(!b_ T s1 3 [105,110,116]&& !b_ T s1 3 [98,111,111,108]))with
  |true=>
   simp only[iG,c,aY]at ba;exact(t_ cp ba).elim
  |false=>
   simp only[iG,c,aT]at ba ⊢;obtain⟨aR,a2,a3⟩:=fa.comp fa.go (fa.jS [93] d.toNat) s1 ba;obtain⟨e,i,b3⟩:=i1 d s1 a aR;exact⟨e,a2.trans i,a3.trans b3⟩
def iO.eq{α:Type}{F G:aw->ad α}(h:iO F)(e:∀s,G s=F s):iO G:=λs x a=>h s x (by rw[<-e];exact a)
