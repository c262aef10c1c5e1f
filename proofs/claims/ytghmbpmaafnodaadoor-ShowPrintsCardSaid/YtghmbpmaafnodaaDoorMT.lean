/-
  Texts of one proof, laid together: Rp Rq Rr Rv Rw We Wf Vj Vk Vl.
-/
import Derived.Test.YtghmbpmaafnodaaDoorMS
set_option linter.unusedVariables false
set_option linter.unusedSimpArgs false
set_option linter.defProp false
open Option renaming some→D
open Bool renaming true→X,false→U
open Go.cn.ad renaming int→I,str→Y,bool→C
open Go.IntKind renaming i64→J
namespace Go.Proofs.YtghmbpmaafnodaaDoor
open Go.cn
open Nat (reduceAdd reduceLeDiff)
def dw.rd{α:Type}{K:hd α}{H:ae}{ok:Nat->Prop}{l:List α}{v:ad}(h:dw K H ok l v):bh (D v) v=true:=by
 rcases h with⟨rfl,_⟩|⟨L,i,cap,ro,els,rfl,_⟩|⟨L,i,cap,rfl,_⟩
 ·rfl
 ·exact l1 _ _ _ _ _
 ·exact l1 _ _ _ _ _
def da.rd{H:ae}{ok:Nat->Prop}{l:List br}{v:ad}(h:da H ok l v):bh (D v) v=true:=by
 rcases h with⟨rfl,_⟩|⟨L,i,cap,ro,els,rfl,_⟩|⟨L,i,cap,rfl,_⟩
 ·rfl
 ·exact l1 _ _ _ _ _
 ·exact l1 _ _ _ _ _
def wq(p:bF)(l:List bT):flat (fG p++l)=p.name++([58,32]++(flat (c5 p.cp p.c2)++flat l)):=rr _ _ _ _
def oB{p:bF}(h:fA p):(flat (fG p)).length<=40:=by
 have:=er h.n;have:=fh h.o;have:=h.o.2.1;unfold fG;rw[w7];omega
def xA{H:ae}{p:bF}(h:fA p):W (aE P aA 33 [.agg p.cells] H) λv H'=>v= Y (flat (fG p))/\aP H H':=by
 refine cG (λ_=>Mm 0) ?_;have d:∀l,d_ l (.agg p.cells)=D (.ptr l 0 0,.row U 4 [p.cells]):=λl=>hA l _ rfl
 have pp:=aP.push H (.row U 4 [p.cells]);have a:=ae.bM H (.row U 4 [p.cells]);have k:=er h.n;have m:=fh h.o;have q:=h.o.2.1;have j:=hE p.cp p.c2;simp only[bF.cells]at d pp a ⊢;rw[uE];simp-implicitDefEqProofs(disch:=try exact aj)only[reduceAdd,reduceLeDiff,reduceIte,ax,d];refine aO (qQ h.o.1 af af) ?_;rintro _ i ⟨rfl,c⟩;refine⟨c.1,?_⟩;have e:=c.get a;simp-implicitDefEqProofs(disch:=try exact dy)only[reduceAdd,reduceLeDiff,reduceIte,ax,a,e,bV];have:=wq p [];rw[List.append_nil,ch,List.append_nil]at this;exact bb.2 ⟨by rw[this];simp,pp.trans c⟩
def Dw{N:Nat}{w:ad->ad->ad->ae->O}{r v i1 h i d x i2:Nat}{L M:Option Nat}{ah ai:Bool}{els y:List (List ad)}{bA bu:ad}{cq:aG}{pos:Int}{H0:ae}{l:List bF}(S:i<h)(o:H0.get r=D (.row U 3 [[.aD v i1 h 3 L,bA,bu]]))(q:H0.get v=D (.row ah 3 els))(he:els[i1+i]? =D [Y cq,.aD x i2 d 4 M,I J pos])(A:H0.get x=D (.row ai 4 y))(F:∀(j:Nat) (a:bF),l[j]? =D a->∃cs,y[i2+j]? =D cs/\cs=a.cells)(V:l.length=d)(hw:∀p∈l,fA p)(aa:h<=1000/\d<=1000){Q:ad->ae->Prop}:
  ∀(c j k:Nat) (acc:aG) (H:ae),j+c=d->c<k->acc.length+100*c<=1000000000000->aP H0 H->(∀H',aP H0 H'->W (np (aE P aA) N w (.ptr r 0 0) (Y (acc++flat (et (l.drop j)))) (I J i) H') Q)->
  W (l_ (aE P aA) N w k (.ptr r 0 0) (Y acc) (I J i) (I J j) H) Q
 |_,_,0,_,_,_,E,_,_,_=>af
 |0,j,k+1,acc,H,T,E,R,pp,e=>by
  have n:¬((j:Int)<(d:Int)):=af;have s:(i:Int)<(h:Int):=af;have u:((i:Int)).toNat=i:=af;have m:=pp.get o;have g1:=pp.get q;simp-implicitDefEqProofs(disch:=try exact aj)only[l_,qq,reduceAdd,reduceLeDiff,reduceIte,ax,m,g1,s,u,he,n,decide_false];have d1:l.drop j=[]:=List.drop_eq_nil_of_le af;have:=e H pp;rw[d1,et,ch,List.append_nil]at this;exact this
 |c+1,j,k+1,acc,H,T,E,R,pp,e=>by
  have B:j<l.length:=af;have n:(j:Int)<(d:Int):=af;have s:(i:Int)<(h:Int):=af;have u:((i:Int)).toNat=i:=af;have ab:((j:Int)).toNat=j:=af;have ak:IntKind.i64.wrap ((j:Int)+1)=((j+1:Nat):Int):=by rw[wrap_i64 af af];omega
  obtain⟨cs,aT,rfl⟩:=F j l[j] (List.getElem?_eq_getElem B);have dl:l.drop j=l[j]::l.drop (j+1):=List.drop_eq_getElem_cons B;have aC:=hw l[j] (List.getElem_mem _);rw[dl]at e;generalize l[j]=p at aT aC e;have al:=oB aC;have m:=pp.get o;have g1:=pp.get q;have f1:=pp.get A;have z:=xA (H:=H) aC;simp only[bF.cells]at aT z;simp-implicitDefEqProofs(disch:=try exact dy)only[l_,qq,reduceAdd,reduceLeDiff,reduceIte,ax,m,g1,f1,s,u,ab,he,n,decide_true,aT,bV];refine aO z ?_;rintro _ K ⟨rfl,G⟩;refine⟨G.1,?_⟩;simp-implicitDefEqProofs(disch:=try exact dy)only[bg,bx,cZ,bV,ak];refine Dw S o q he A F V hw aa c (j+1) k _ K af af (by simp only[List.length_append,List.length_cons,List.length_nil];omega) (pp.trans G) λH' ag=> ?_
  have:=e H' ag;rw[et,rq,cv,cu,lR]at this;simpa using this
def tx:∀l:List bF,(∀p∈l,fA p)->(flat (et l)).length<=44*l.length
 |[],_=>by simp[et,flat]
 |p::r,h=>by
  have c:=oB (h p (by simp));have d:=tx r λx a=>h x (List.mem_cons_of_mem _ a)
  rw[et,iM,c4,ds,jO];simp only[List.length_cons,List.length_nil];omega
def Cr(x:e9)(l:List bT):flat (tT x++l)=qT++([32]++(x.name++([32,123,10]++(flat (et x.fields)++([125,10]++flat l))))):=by
 unfold tT;simp only[List.cons_append,List.append_assoc,List.nil_append];rw[eV,dq,iK,dq,cu,lR,cv,cu,lR];rfl
def Cn(x:bF)(l:List bT):flat (tS x++l)=qS++([32]++(flat (fG x)++([59,10]++flat l))):=by
 unfold tS;simp only[List.cons_append,List.append_assoc,List.nil_append];rw[eV,dq,cv,cu,lR];rfl
def KM{x:e9}(h:n6 x):(flat (tT x)).length<=400:=by
 have a:=tx x.fields h.f;have c:=er h.n;have d:=h.l;have:=Cr x [];rw[List.append_nil,ch,List.append_nil]at this;rw[this];simp only[List.length_append,List.length_cons,List.length_nil,qT];omega
def KJ{x:bF}(h:fA x):(flat (tS x)).length<=60:=by
 have a:=oB h;have:=Cn x [];rw[List.append_nil,ch,List.append_nil]at this;rw[this];simp only[List.length_append,List.length_cons,List.length_nil,qS];omega
def Cp(x:e9)(l:List fc):flat (cb (.r x::l))=qT++([32]++(x.name++([32,123,10]++(flat (et x.fields)++([125,10]++flat (cb l)))))):=by
 rw[cb,p_,Cr]
def Co(x:bF)(l:List fc):flat (cb (.g x::l))=qS++([32]++(flat (fG x)++([59,10]++flat (cb l)))):=by
 rw[cb,p_,Cn]
def Dv{N:Nat}(R:1000<=N){r s i1 d:Nat}{G:Option Nat}{al:Bool}{els:List (List ad)}{bA bu:ad}{H0:ae}{ok:Nat->Prop}{l:List e9}(o:H0.get r=D (.row U 3 [[.aD s i1 d 3 G,bA,bu]]))(p:H0.get s=D (.row al 3 els))(A:∀(j:Nat) (a:e9),l[j]? =D a->∃cs,els[i1+j]? =D cs/\hV.V H0 ok a cs)(ab:l.length=d)(hw:∀x∈l,n6 x)(ag:d<=100){Q:ad->ae->Prop}:
  ∀(c j k:Nat) (acc:aG) (H:ae),j+c=d->c<k->acc.length+1000*c<=100000000000->aP H0 H->(∀H',aP H0 H'->W (ku (aE P aA) N (.ptr r 0 0) (Y (acc++flat (cb ((l.drop j).map .r)))) H') Q)->
  W (la (aE P aA) N k (.ptr r 0 0) (Y acc) (I J j) H) Q
 |_,_,0,_,_,_,z,_,_,_=>af
 |0,j,k+1,acc,H,aa,z,S,pp,e=>by
  have m:¬((j:Int)<(d:Int)):=af;have i:=pp.get o;simp-implicitDefEqProofs(disch:=try exact aj)only[la,qp,reduceAdd,reduceLeDiff,reduceIte,ax,i,m,decide_false];have d1:l.drop j=[]:=List.drop_eq_nil_of_le af;have:=e H pp;rw[d1,List.map_nil,cb,ch,List.append_nil]at this;exact this
 |c+1,j,k+1,acc,H,aa,z,S,pp,e=>by
  have y:j<l.length:=af;have m:(j:Int)<(d:Int):=af;have B:((j:Int)).toNat=j:=af;have am:IntKind.i64.wrap ((j:Int)+1)=((j+1:Nat):Int):=by rw[wrap_i64 af af];omega
  obtain⟨cs,aT,v,rfl,aB⟩:=A j l[j] (List.getElem?_eq_getElem y);have dl:l.drop j=l[j]::l.drop (j+1):=List.drop_eq_getElem_cons y;have aC:=hw l[j] (List.getElem_mem _);rw[dl,List.map_cons,Cp]at e;generalize l[j]=x at aT aC e aB;have au:=er aC.n;have ar:=tx x.fields aC.f;have aq:=aC.l;have i:=pp.get o;have g1:=pp.get p;simp-implicitDefEqProofs(disch:=try exact dy)only[la,qp,reduceAdd,reduceLeDiff,reduceIte,ax,i,g1,B,m,decide_true,aT,bV];have fin:∀H',aP H0 H'->W (np (aE P aA) N (la (aE P aA) N k) (.ptr r 0 0) (Y (acc++[114,101,99,111,114,100,32]++x.name++[32,123,10]++flat (et x.fields))) (I J j) H') Q:=by
   intro H' q;simp-implicitDefEqProofs(disch:=try exact dy)only[np,nn,bg,bx,cZ,bV,am];refine Dv R o p A ab hw ag c (j+1) k _ H' af af (by simp only[List.length_append,List.length_cons,List.length_nil];omega) q λF ak=> ?_
   have:=e F ak;simpa [qT]using this
  by_cases E:x.fields.length=0
  ·have ah:=List.length_eq_zero_iff.1 E;have u:=λH'=>aB.k2 H'
   rw[ah]at u fin;have O:¬((0:Int)<((0:Nat):Int)):=af;obtain⟨M,rfl⟩:∃M,N=M+1:=⟨N-1,af⟩;simp-implicitDefEqProofs(disch:=try exact dy)only[l_,qq,reduceAdd,reduceLeDiff,reduceIte,ax,i,g1,B,m,decide_true,aT,u,List.length_nil,O,decide_false];have:=fin H pp;rw[et,ch,List.append_nil]at this;exact this
  ·obtain⟨an,i2,ao,av,ap,rfl,w,T⟩:=aB.row E;have ai:e5.esz=4:=rfl;rw[ai]at aT w;exact Dw af o p aT w (λj a h=>by obtain⟨cs,K,L⟩:=T j a h;exact⟨cs,K,L⟩) rfl aC.f ⟨af,af⟩ x.fields.length 0 N _ H af af (by simp only[List.length_append,List.length_cons,List.length_nil];omega) pp λH' q=>by
    rw[List.drop_zero];exact fin H' q
def Du{N:Nat}{r n i1 d:Nat}{y:Option Nat}{K:Bool}{els:List (List ad)}{bw bu:ad}{H0:ae}{l:List bF}(m:H0.get r=D (.row U 3 [[bw,.aD n i1 d 4 y,bu]]))(p:H0.get n=D (.row K 4 els))(u:∀(j:Nat) (a:bF),l[j]? =D a->∃cs,els[i1+j]? =D cs/\cs=a.cells)(B:l.length=d)(hw:∀x∈l,fA x)(E:d<=100){Q:ad->ae->Prop}:
  ∀(c j k:Nat) (acc:aG) (H:ae),j+c=d->c<k->acc.length+1000*c<=100000000000->aP H0 H->(∀H',aP H0 H'->W (nm (aE P aA) N (.ptr r 0 0) (Y (acc++flat (cb ((l.drop j).map .g)))) H') Q)->
  W (l9 (aE P aA) N k (.ptr r 0 0) (Y acc) (I J j) H) Q
 |_,_,0,_,_,_,s,_,_,_=>af
 |0,j,k+1,acc,H,A,s,z,pp,e=>by
  have i:¬((j:Int)<(d:Int)):=af;have h:=pp.get m;simp-implicitDefEqProofs(disch:=try exact aj)only[l9,qo,reduceAdd,reduceLeDiff,reduceIte,ax,h,i,decide_false];have d1:l.drop j=[]:=List.drop_eq_nil_of_le af;have:=e H pp;rw[d1,List.map_nil,cb,ch,List.append_nil]at this;exact this
 |c+1,j,k+1,acc,H,A,s,z,pp,e=>by
  have q:j<l.length:=af;have i:(j:Int)<(d:Int):=af;have F:((j:Int)).toNat=j:=af;have L:IntKind.i64.wrap ((j:Int)+1)=((j+1:Nat):Int):=by rw[wrap_i64 af af];omega
  obtain⟨cs,aT,rfl⟩:=u j l[j] (List.getElem?_eq_getElem q);have dl:l.drop j=l[j]::l.drop (j+1):=List.drop_eq_getElem_cons q;have aC:=hw l[j] (List.getElem_mem _);rw[dl,List.map_cons,Co]at e;generalize l[j]=x at aT aC e;have M:=oB aC;have h:=pp.get m;have g1:=pp.get p;have o:=xA (H:=H) aC;simp only[bF.cells]at aT o;simp-implicitDefEqProofs(disch:=try exact dy)only[l9,qo,reduceAdd,reduceLeDiff,reduceIte,ax,h,g1,F,i,decide_true,aT,bV];refine aO o ?_;rintro _ w ⟨rfl,v⟩;refine⟨v.1,?_⟩;simp-implicitDefEqProofs(disch:=try exact dy)only[bg,bx,cZ,bV,L];refine Du m p u B hw E c (j+1) k _ w af af (by simp only[List.length_append,List.length_cons,List.length_nil];omega) (pp.trans v) λH' G=> ?_
  have:=e H' G;simpa [qS]using this
def DD{N:Nat}{m:ad->ad->ad->ae->O}{r:Nat}{ar u:ad}{v i2 d:Nat}{L:Option Nat}{ah:Bool}{w:List (List ad)}{a0 a2 a3 a4 a5 K:ad}{H0:ae}{l:List bF}(s:H0.get r=D (.row U 7 [[a0,.aD v i2 d 4 L,a2,a3,a4,a5,K]]))(z:H0.get v=D (.row ah 4 w))(E:∀(j:Nat) (a:bF),l[j]? =D a->∃cs,w[i2+j]? =D cs/\cs=a.cells)(V:l.length=d)(hw:∀p∈l,fA p)(aa:d<=1000){Q:ad->ae->Prop}:
  ∀(c j k:Nat) (acc:aG) (H:ae),j+c=d->c<k->acc.length+100*c<=1000000000000->aP H0 H->(∀H',aP H0 H'->W (kx (aE P aA) N m ar (Y (acc++flat (bif j==0 then eZ (l.drop j)else k6 (l.drop j)))) u (.ptr r 0 0) H') Q)->
  W (kz (aE P aA) N m k ar (Y acc) u (.ptr r 0 0) (I J j) H) Q
 |_,_,0,_,_,_,B,_,_,_=>af
 |0,j,k+1,acc,H,R,B,M,pp,h=>by
  have o:¬((j:Int)<(d:Int)):=af;have e:=pp.get s;simp-implicitDefEqProofs(disch:=try exact aj)only[kz,oN,reduceAdd,reduceLeDiff,reduceIte,ax,e,o,decide_false];have d1:l.drop j=[]:=List.drop_eq_nil_of_le af;have:=h H pp;rw[d1,eZ,k6,Bool.cond_self,ch,List.append_nil]at this;exact this
 |c+1,j,k+1,acc,H,R,B,M,pp,h=>by
  have A:j<l.length:=af;have o:(j:Int)<(d:Int):=af;have ab:((j:Int)).toNat=j:=af;have ai:IntKind.i64.wrap ((j:Int)+1)=((j+1:Nat):Int):=by rw[wrap_i64 af af];omega
  obtain⟨cs,aT,rfl⟩:=E j l[j] (List.getElem?_eq_getElem A);have dl:l.drop j=l[j]::l.drop (j+1):=List.drop_eq_getElem_cons A;have aC:=hw l[j] (List.getElem_mem _);rw[dl]at h;generalize l[j]=p at aT aC h;have al:=oB aC;have e:=pp.get s;have f1:=pp.get z;have y:=xA (H:=H) aC;simp only[bF.cells]at aT y;have fin:∀n:aG,n=acc++(bif j==0 then[]else[44,32])->W (oQ (aE P aA) N m (kz (aE P aA) N m k) ar (Y n) u (.ptr r 0 0) (I J j) H) Q:=by
   intro n x;have ak:n.length<=acc.length+2:=by rw[x];cases j==0<;>simp
   simp-implicitDefEqProofs(disch:=try exact dy)only[oQ,reduceAdd,reduceLeDiff,reduceIte,ax,e,f1,ab,aT];refine aO y ?_;rintro _ G ⟨rfl,F⟩;refine⟨F.1,?_⟩;simp-implicitDefEqProofs(disch:=try exact dy)only[oP,bg,bx,cZ,bV,ai];refine DD s z E V hw aa c (j+1) k _ G af af (by simp only[List.length_append];omega) (pp.trans F) λH' ag=> ?_
   have:=h H' ag;have S:(j+1==0)=false:=by simp
   rw[S,aK,x];cases i:j==0 with
   |true=>
    rw[i,aR,eZ,cv]at this;simpa using this
   |false=>
    rw[i,aK,k6,cu,dq,cv]at this;simpa using this
  by_cases i:j=0
  ·subst i;have q:¬((0:Int)<((0:Nat):Int)):=af;simp-implicitDefEqProofs(disch:=try exact dy)only[kz,oN,reduceAdd,reduceLeDiff,reduceIte,ax,e,o,q,decide_true,decide_false];exact fin acc (by simp)
  ·have q:(0:Int)<(j:Int):=af;have T:(j==0)=false:=by simpa using i
   simp-implicitDefEqProofs(disch:=try exact dy)only[kz,oN,reduceAdd,reduceLeDiff,reduceIte,ax,e,o,q,decide_true,bV];exact fin _ (by rw[T];rfl)
def C8:∀l:List bF,(∀p∈l,fA p)->(flat (k6 l)).length<=44*l.length
 |[],_=>by simp[k6,flat]
 |p::r,h=>by
  have c:=oB (h p (by simp));have d:=C8 r λx a=>h x (List.mem_cons_of_mem _ a)
  rw[k6,ds,eM,c4];simp only[List.length_cons,List.length_nil];omega
def rJ(l:List bF)(h:∀p∈l,fA p):(flat (eZ l)).length<=44*l.length:=by
 cases l with
 |nil=>simp[eZ,flat]
 |cons p r=>
  have c:=oB (h p (by simp));have d:=C8 r λx a=>h x (List.mem_cons_of_mem _ a)
  rw[eZ,c4,List.length_cons];omega
def gd(f:Fn):aG:=bif f.has then[58,32]++flat (c5 f.dB f.rd)else[]
def JJ(f:Fn)(l:List bT):flat (xz f++l)=kH++([32]++(f.name++([40]++(flat (eZ f.params)++([41]++(gd f++([32,123,10]++(flat (cc 1 f.body)++([125,10]++flat l))))))))):=by
 unfold xz;simp only[List.cons_append,List.append_assoc,List.nil_append];rw[eV,dq,iK,cu,cv,cu];have e:∀m,flat ((bif f.has then bO [58]::cf::c5 f.dB f.rd else[])++m)=gd f++flat m:=by
  intro m;unfold gd;cases f.has
  ·rfl
  ·rw[aR,aR,List.cons_append,List.cons_append,cu,dq,cv];simp
 rw[e];have:=lQ [] (cc 1 f.body) (nl::l);rw[this,lR];simp
def wm(f:Fn)(l:List fc):flat (cb (.f f::l))=kH++([32]++(f.name++([40]++(flat (eZ f.params)++([41]++(gd f++([32,123,10]++(flat (cc 1 f.body)++([125,10]++flat (cb l)))))))))):=by
 rw[cb,p_,JJ]
def Dy{N:Nat}(ar:1000<=N){r O i1 m:Nat}{am:Option Nat}{aQ:Bool}{els:List (List ad)}{bw bA:ad}{H0:ae}{ok:Nat->Prop}{l:List Fn}(F:H0.get r=D (.row U 3 [[bw,bA,.aD O i1 m 7 am]]))(S:H0.get O=D (.row aQ 7 els))(ag:∀(j:Nat) (a:Fn),l[j]? =D a->∃cs,els[i1+j]? =D cs/\gF.V H0 ok a cs)(aH:l.length=m)(hw:∀x∈l,n5 x/\dn x.body<=1000000000)(aI:m<=100):
  ∀(c j k:Nat) (acc:aG) (H:ae),j+c=m->c<k->acc.length+2000000000*c<=900000000000->aP H0 H->
  W (ky (aE P aA) N k (.ptr r 0 0) (Y acc) (I J j) H) λv H'=>v= Y (acc++flat (cb ((l.drop j).map .f)))/\aP H0 H'
 |_,_,0,_,_,_,ab,_,_=>af
 |0,j,k+1,acc,H,aF,ab,au,pp=>by
  have E:¬((j:Int)<(m:Int)):=af;have B:=pp.get F;simp-implicitDefEqProofs(disch:=try exact aj)only[ky,qs,jw,reduceAdd,reduceLeDiff,reduceIte,ax,B,E,decide_false];have d1:l.drop j=[]:=List.drop_eq_nil_of_le af;exact bb.2 ⟨by rw[d1,List.map_nil,cb,ch,List.append_nil],pp⟩
 |c+1,j,k+1,acc,H,aF,ab,au,pp=>by
  have aa:j<l.length:=af;have E:(j:Int)<(m:Int):=af;have aJ:((j:Int)).toNat=j:=af;have aS:IntKind.i64.wrap ((j:Int)+1)=((j+1:Nat):Int):=by rw[wrap_i64 af af];omega
  obtain⟨cs,aT,w,bv,rfl,aB,G⟩:=ag j l[j] (List.getElem?_eq_getElem aa);have dl:l.drop j=l[j]::l.drop (j+1):=List.drop_eq_getElem_cons aa;obtain⟨aC,aK⟩:=hw l[j] (List.getElem_mem _);rw[dl,List.map_cons,wm];generalize l[j]=x at aT aC aK aB G ⊢;have a7:=er aC.n;have a3:=rJ x.params aC.p;have aY:=aC.l;obtain⟨d,a2,ah⟩:=aC.b;have a0:=lV (deep:=1) ah af;have a4:(flat (c5 x.dB x.rd)).length<=20:=by
   rw[hE];rcases aC.r with⟨_,h⟩|⟨_,h,a1⟩
   ·have:=fh h;have:=h.2.1;omega
   ·rw[h,a1];simp
  have B:=pp.get F;have g1:=pp.get S;have bz:=aB.one;have bH:=G.eb;have z:=pp.bI (.row U 7 [[Y x.name,w,C x.has,Y x.dB,I J x.rd,bv,I J x.pos]]);have q:=ae.bM H (.row U 7 [[Y x.name,w,C x.has,Y x.dB,I J x.rd,bv,I J x.pos]]);have av:(H.push (.row U 7 [[Y [],.az,C U,Y [],I J 0,.az,I J 0]])).set H.next (.row U 7 [[Y x.name,w,C x.has,Y x.dB,I J x.rd,bv,I J x.pos]])=H.push (.row U 7 [[Y x.name,w,C x.has,Y x.dB,I J x.rd,bv,I J x.pos]]):=ae.xI H _ _
  simp-implicitDefEqProofs(disch:=try exact dy)only[ky,qs,reduceAdd,reduceLeDiff,reduceIte,ax,B,g1,aJ,E,decide_true,aT,bz,bH,av,q,bV];have fin:∀H',aP (H.push (.row U 7 [[Y x.name,w,C x.has,Y x.dB,I J x.rd,bv,I J x.pos]])) H'->W (kx (aE P aA) N (ky (aE P aA) N k) (.ptr r 0 0) (Y (acc++[102,117,110,99,32]++x.name++[40]++flat (eZ x.params))) (I J j) (.ptr H.next 0 0) H') λv A=>v= Y (acc++(kH++([32]++(x.name++([40]++(flat (eZ x.params)++([41]++(gd x++([32,123,10]++(flat (cc 1 x.body)++([125,10]++flat (cb ((l.drop (j+1)).map .f)))))))))))))/\aP H0 A:=by
   intro H' u;have s:=u.get q;have f6:∀e (y:aG),aP H' e->y=acc++[102,117,110,99,32]++x.name++[40]++flat (eZ x.params)++[41]++gd x->W (oO (aE P aA) N (ky (aE P aA) N k) (.ptr r 0 0) (Y y) (I J j) (.ptr H.next 0 0) e) λv A=>v= Y (acc++(kH++([32]++(x.name++([40]++(flat (eZ x.params)++([41]++(gd x++([32,123,10]++(flat (cc 1 x.body)++([125,10]++flat (cb ((l.drop (j+1)).map .f)))))))))))))/\aP H0 A:=by
    intro e y o Q;have a5:(gd x).length<=22:=by
     unfold gd;cases x.has
     ·simp
     ·simp only[aR,List.length_append,List.length_cons,List.length_nil];omega
    have aZ:y.length<=acc.length+400:=by rw[Q];simp only[List.length_append,List.length_cons,List.length_nil];omega
    have ap:=o.get s;simp-implicitDefEqProofs(disch:=try exact dy)only[oO,reduceAdd,reduceLeDiff,reduceIte,ax,ap,bV];refine aO (PA x.body d 1 ah af af e ok bv _ rfl (G.aL (z.trans (u.trans o)))) ?_;rintro _ al ⟨rfl,ak⟩;refine⟨ak.1,?_⟩;simp-implicitDefEqProofs(disch:=try exact dy)only[jU,bg,bx,cZ,bV,aS];refine(Dy ar F S ag aH hw aI c (j+1) k _ al af af (by simp only[List.length_append,List.length_cons,List.length_nil];omega) (z.trans ((u.trans o).trans ak))).mono ?_;rintro v aU ⟨rfl,aN⟩;exact⟨by rw[Q];simp[kH],aN⟩
   cases i:x.has with
   |true=>
    have K:j_ x.dB x.rd:=by
     rcases aC.r with⟨_,h⟩|⟨h,_⟩
     ·exact h
     ·rw[h]at i;cases i
    have L:=K.2.1;have a6:=fh K;rw[i]at s;simp-implicitDefEqProofs(disch:=try exact dy)only[kx,reduceAdd,reduceLeDiff,reduceIte,ax,s,bV];refine aO (qQ K.1 af af) ?_;rintro _ e ⟨rfl,o⟩;refine⟨o.1,?_⟩;simp-implicitDefEqProofs(disch:=try exact dy)only[bg,bx,bV];refine f6 e _ o ?_;unfold gd;rw[i];simp
   |false=>
    rw[i]at s;simp-implicitDefEqProofs(disch:=try exact dy)only[kx,reduceAdd,reduceLeDiff,reduceIte,ax,s,bV];refine f6 H' _ (.refl _) ?_;unfold gd;rw[i];simp
  by_cases L:x.params.length=0
  ·have ai:=List.length_eq_zero_iff.1 L;have R:=λH'=>aB.k2 H'
   rw[ai]at R fin;have aq:¬((0:Int)<((0:Nat):Int)):=af;obtain⟨M,rfl⟩:∃M,N=M+1:=⟨N-1,af⟩;simp-implicitDefEqProofs(disch:=try exact dy)only[kz,oN,reduceAdd,reduceLeDiff,reduceIte,ax,q,R,List.length_nil,aq,decide_false];have:=fin _ (.refl _);rw[eZ,ch,List.append_nil]at this;rw[ai,eZ,ch];exact this
  ·obtain⟨aV,i2,aW,a8,aX,rfl,T,aw⟩:=aB.row L;have aM:e5.esz=4:=rfl;rw[aM]at q T z fin ⊢;have ay:=z.get T;exact DD q ay (λj a h=>by obtain⟨cs,an,ao⟩:=aw j a h;exact⟨cs,an,ao⟩) rfl aC.p af x.params.length 0 N _ _ af af (by simp only[List.length_append,List.length_cons,List.length_nil];omega) (.refl _) λH' u=>by
    rw[List.drop_zero];exact fin H' u
def mY:∀a b:List fc,cb (a++b)=cb a++cb b
 |[],_=>rfl
 |i::a,b=>by rw[List.cons_append,cb,mY a b,cb,List.append_assoc]
def w4:∀l:List e9,(∀x∈l,n6 x)->(flat (cb (l.map fc.r))).length<=400*l.length
 |[],_=>by simp[cb,flat]
 |x::r,h=>by
  have c:=KM (h x (by simp));have d:=w4 r λx a=>h x (List.mem_cons_of_mem _ a)
  rw[List.map_cons,cb,c4,List.length_cons,p_];omega
def w3:∀l:List bF,(∀x∈l,fA x)->(flat (cb (l.map fc.g))).length<=60*l.length
 |[],_=>by simp[cb,flat]
 |x::r,h=>by
  have c:=KJ (h x (by simp));have d:=w3 r λx a=>h x (List.mem_cons_of_mem _ a)
  rw[List.map_cons,cb,c4,List.length_cons,p_];omega
def jQ(g:cj):List bT:=cb (g.cm.map .r++(g.globals.map .g++g.funcs.map .f))
structure pz(g:cj):Prop where
 l4:∀x∈g.cm,n6 x
 dr:∀x∈g.globals,fA x
 cz:∀x∈g.funcs,n5 x/\dn x.body<=1000000000
 gb:g.cm.length<=100
 lX:g.globals.length<=100
 mU:g.funcs.length<=100
section
variable {H0:ae}{ok:Nat->Prop}{r:Nat}{bw bA bu:ad}{g:cj}
def Cw(a:H0.get r=D (.row U 3 [[bw,bA,bu]]))(e:dw gF H0 ok g.funcs bu)(hw:pz g){H:ae}(pp:aP H0 H){acc:aG}(o:acc.length<=100000000000):
  W (nm (aE P aA) 1000 (.ptr r 0 0) (Y acc) H) λv H'=>v= Y (acc++flat (cb (g.funcs.map .f)))/\aP H0 H':=by
 rw[nm];have p:=hw.mU;by_cases h:g.funcs.length=0
 ·have j:=List.length_eq_zero_iff.1 h;have d:=λH'=>e.tw H'
  rw[j]at d;have l:¬((0:Int)<((0:Nat):Int)):=af;have k:=pp.get a;simp-implicitDefEqProofs(disch:=try exact dy)only[ky,qs,jw,reduceAdd,reduceLeDiff,reduceIte,ax,k,d,List.length_nil,l,decide_false];exact bb.2 ⟨by rw[j,List.map_nil,cb,ch,List.append_nil],pp⟩
 ·obtain⟨L,i,cap,ro,els,rfl,c,m⟩:=e.row h;have n:gF.esz=7:=rfl;rw[n]at a c;have:=Dy (N:=1000) af a c m rfl hw.cz hw.mU g.funcs.length 0 1000 acc H af af af pp;rw[List.drop_zero]at this;exact this
def Cx(c:H0.get r=D (.row U 3 [[bw,bA,bu]]))(l:dw e5 H0 ok g.globals bA)(k:dw gF H0 ok g.funcs bu)(hw:pz g){H:ae}(pp:aP H0 H){acc:aG}(A:acc.length<=50000000000):
  W (ku (aE P aA) 1000 (.ptr r 0 0) (Y acc) H) λv H'=>v= Y (acc++(flat (cb (g.globals.map .g))++flat (cb (g.funcs.map .f))))/\aP H0 H':=by
 rw[ku];have E:=hw.lX;have B:=w3 _ hw.dr;by_cases m:g.globals.length=0
 ·have n:=List.length_eq_zero_iff.1 m;have e:=λH'=>l.k2 H'
  rw[n]at e;have s:¬((0:Int)<((0:Nat):Int)):=af;have o:=pp.get c;simp-implicitDefEqProofs(disch:=try exact dy)only[l9,qo,reduceAdd,reduceLeDiff,reduceIte,ax,o,e,List.length_nil,s,decide_false];rw[n,List.map_nil,cb,ch,List.nil_append];exact Cw c k hw pp af
 ·obtain⟨L,i,cap,ro,els,rfl,d,u⟩:=l.row m;have w:e5.esz=4:=rfl;rw[w]at c d;refine Du (N:=1000) c d (λj a h=>by obtain⟨cs,p,q⟩:=u j a h;exact⟨cs,p,q⟩) rfl hw.dr hw.lX g.globals.length 0 1000 acc H af af af pp λH' x=> ?_
  rw[List.drop_zero];refine(Cw c k hw x (by simp only[List.length_append];omega)).mono ?_;rintro v z ⟨rfl,y⟩;exact⟨by rw[List.append_assoc],y⟩
end
def Lv{H:ae}{ok:Nat->Prop}{bw bA bu:ad}{g:cj}(p:dw hV H ok g.cm bw)(o:dw e5 H ok g.globals bA)(n:dw gF H ok g.funcs bu)(hw:pz g):W (aE P aA 11 [.agg [bw,bA,bu]] H) λv H'=>v= Y (flat (jQ g))/\aP H H':=by
 refine cG (λ_=>L7 1000) ?_;have bz:=p.one;have bH:=o.one;have bZ:=n.one;have y:∀l,d_ l (.agg [bw,bA,bu])=D (.ptr l 0 0,.row U 3 [[bw,bA,bu]]):=λl=>hA l _ (by simp only[List.all_cons,List.all_nil,bz,bH,bZ,Bool.and_self])
 have pp:=aP.push H (.row U 3 [[bw,bA,bu]]);have a:=ae.bM H (.row U 3 [[bw,bA,bu]]);have h:=p.aW (cY.aL pp);have d:=o.aW (cY.aL pp);have c:=n.aW (cY.aL pp);rw[um];simp-implicitDefEqProofs(disch:=try exact aj)only[bg,bx,y];have B:=hw.gb;have E:=w4 _ hw.l4;have e:flat (jQ g)=flat (cb (g.cm.map .r))++(flat (cb (g.globals.map .g))++flat (cb (g.funcs.map .f))):=by
  unfold jQ;rw[mY,mY,cv,cv]
 rw[e];generalize H.push (.row U 3 [[bw,bA,bu]])=H1 at pp a h d c ⊢;by_cases q:g.cm.length=0
 ·have s:=List.length_eq_zero_iff.1 q;have m:=λH'=>h.tv H'
  rw[s]at m;have w:¬((0:Int)<((0:Nat):Int)):=af;simp-implicitDefEqProofs(disch:=try exact dy)only[la,qp,reduceAdd,reduceLeDiff,reduceIte,ax,a,m,List.length_nil,w,decide_false];rw[s,List.map_nil,cb,ch,List.nil_append];refine(Cx a d c hw (.refl _) (acc:=[]) (by simp)).mono ?_;rintro v u ⟨rfl,j⟩;exact⟨rfl,pp.trans j⟩
 ·obtain⟨L,i,cap,ro,els,rfl,k,x⟩:=h.row q;have z:hV.esz=3:=rfl;rw[z]at a k;have key:=Dv (N:=1000) af a k x rfl hw.l4 hw.gb (Q:=λv H'=>v= Y (flat (cb (g.cm.map .r))++(flat (cb (g.globals.map .g))++flat (cb (g.funcs.map .f))))/\aP H H') g.cm.length 0 1000 [] H1 af af (by simp only[List.length_nil];omega) (.refl _) λH' A=>by
   rw[List.drop_zero,List.nil_append];refine(Cx a d c hw A af).mono ?_;rintro v u ⟨rfl,j⟩;exact⟨rfl,pp.trans j⟩
  exact key
def CQ:∀l:List bF,Lib.joinTail [44,32] (l.map λp=>flat (fG p))=flat (k6 l)
 |[]=>rfl
 |p::r=>by
  have a:=CQ r;rw[k6,cu,dq,cv,<-a,List.map_cons,Lib.joinTail,List.map_cons,List.flatten_cons,Lib.joinTail];simp
def CP:∀l:List bF,Lib.join (l.map λp=>flat (fG p)) [44,32]=flat (eZ l)
 |[]=>rfl
 |p::r=>by rw[List.map_cons,Lib.join_cons,CQ,eZ,cv]
def jI(f:Fn):aG:=kH++([32]++(f.name++([40]++(flat (eZ f.params)++([41]++(gd f++[32,123]))))))
section
variable {N:Nat}{H0:ae}{r L i n:Nat}{cap:Option Nat}{ro:Bool}{els:List (List ad)}
def Dz(M:H0.get L=D (.row ro 4 els))(am:n<=1000){all:List bF}(m:∀(j:Nat) (a:bF),all[j]? =D a->els[i+j]? =D a.cells)(hw:∀p∈all,fA p)(an:n=all.length){Q:ad->ae->Prop}(F:∀v H,aP H0 H->(aE P aA 59 [v,Y [44,32]] H=D (Y (flat (eZ all)),H))->W (nu (aE P aA) N (.ptr r 0 0) v H) Q):∀(es:List bF) (j k:Nat) (done:List bF) (v:ad) (H:ae),all=done++es->done.length=j->es.length<k->aP H0 H->c_ pW (λl=>H0.next<=l) H (done.map λe=>flat (fG e)) v->
  W (mf (aE P aA) N k (.ptr r 0 0) v (.aD L i n 4 cap) (I J n) (I J j) H) Q
 |_,_,0,_,_,_,_,_,B,_,_=>af
 |[],j,k+1,done,v,H,c,z,B,pp,y=>by
  rw[List.append_nil]at c;subst c;have A:¬((j:Int)<(n:Int)):=af;have aG:=rJ all hw;have u:aE P aA 59 [v,Y [44,32]] H=D (Y (flat (eZ all)),H):=by
   rw[<-CP];exact tm y (by rw[List.length_map];omega) (by rw[CP];omega)
  simp-implicitDefEqProofs(disch:=try exact aj)only[mf,qu,reduceAdd,reduceLeDiff,reduceIte,ax,A,decide_false];exact F v H pp u
 |x::es,j,k+1,done,v,H,c,z,B,pp,y=>by
  simp only[List.length_cons]at B;have ay:all.length=done.length+(es.length+1):=by rw[c,List.length_append,List.length_cons]
  have A:(j:Int)<(n:Int):=af;have ar:((j:Int)).toNat=j:=af;have ak:(0:Int)<=(j:Int):=af;have av:IntKind.i64.wrap ((j:Int)+1)=((j+1:Nat):Int):=by rw[wrap_i64 af af];omega
  have R:all[j]? =D x:=by rw[c,List.getElem?_append_right af,z,Nat.sub_self];rfl
  have aT:=m j x R;have aC:=hw x (List.mem_of_getElem? R);have aH:=er aC.n;have aB:=fh aC.o;have aI:=aC.o.2.1;have aF:=hE x.cp x.c2;have g1:=pp.get M;have E:=aP.push H (.row U 4 [x.cells]);have w:=ae.bM H (.row U 4 [x.cells]);have aJ:H.next<(H.push (.row U 4 [x.cells])).next:=by simp
  simp only[bF.cells]at aT E w;simp-implicitDefEqProofs(disch:=try exact aj)only[mf,qu,reduceAdd,reduceLeDiff,reduceIte,ax,A,decide_true,ak,ar,g1,aT];refine aO (type20 aC.o.1 aC.o.2.1 af) ?_;rintro _ d ⟨rfl,q⟩;refine⟨q.1,?_⟩;have ai:=q.get w;have s:=pp.trans (E.trans q);have G:=(y.aL E).aL q;have ap:flat (fG x)=x.name++[58,32]++flat (c5 x.cp x.c2):=by
   have:=wq x [];rw[List.append_nil,ch,List.append_nil]at this;rw[this];simp
  have ag:ao P .add 9 X (Y x.name) (Y [58,32])=D (Y (x.name++[58,32])):=bV (by simp only[List.length_cons,List.length_nil];omega);have ah:ao P .add 9 U (Y (x.name++[58,32])) (Y (flat (c5 x.cp x.c2)))=D (Y (flat (fG x))):=by
   rw[ap];exact bV (by simp only[List.length_append,List.length_cons,List.length_nil];omega)
  have aq:=x8 d.next (flat (fG x))
  obtain⟨S,H',u,T,V,b3⟩:=c_.app (K:=pW) (ok':=λl=>H0.next<=l) DL G (okE:=λ_=>False) (a:=flat (fG x)) (cs:=[Y (flat (fG x))]) rfl (λ_ _ h=>h.elim) (λ_ _ h _=>h) (by have:=s.1;show H0.next<=d.next+1;omega) (by rw[List.length_map];omega);have au:aP H0 H':=by
   refine⟨by have:=s.1;omega,λl m=> ?_⟩;have:=s.1;rw[b3 l af λL O al=> ?_]
   ·exact s.2 l m
   ·subst al;rcases G with⟨rfl,_⟩|⟨L',_,rfl,aw,_⟩
    ·cases O
    ·cases O;omega
  have ab:c0 P (d.push (.row U 1 [[Y (flat (fG x))]])) [50,50] v (.aD d.next 0 1 1 (D 1))=D (S,H'):=u;have aa:(d.push (.row U 1 [[Y (flat (fG x))]])).next<=H'.next:=by rw[ae.b8];exact V
  simp-implicitDefEqProofs(disch:=try exact aj)only[reduceAdd,reduceLeDiff,reduceIte,ax,w,ai,ag,ah,aq,ab,e2,aa,av];exact Dz M am m hw an F es (j+1) k (done++[x]) S H' (by rw[c,List.append_assoc];rfl) (by rw[List.length_append,z];rfl) af au (by rw[List.map_append];exact T)
end
def J7{H:ae}{ok:Nat->Prop}{f:Fn}{cs:List ad}(h:gF.V H ok f cs)(hw:n5 f):W (aE P aA 30 [.agg cs] H) λv H'=>v= Y (jI f)/\aP H H':=by
 obtain⟨c,bv,rfl,aB,R⟩:=h;have bz:=aB.one;have bH:=R.eb;have Q:∀l,d_ l (.agg [Y f.name,c,C f.has,Y f.dB,I J f.rd,bv,I J f.pos])=D (.ptr l 0 0,.row U 7 [[Y f.name,c,C f.has,Y f.dB,I J f.rd,bv,I J f.pos]]):=λl=>hA l _ (by simp only[List.all_cons,List.all_nil,h0,hF,rZ,bz,bH,Bool.and_self])
 have pp:=aP.push H (.row U 7 [[Y f.name,c,C f.has,Y f.dB,I J f.rd,bv,I J f.pos]]);have dr:=ae.bM H (.row U 7 [[Y f.name,c,C f.has,Y f.dB,I J f.rd,bv,I J f.pos]]);have aC:=er hw.n;have ay:=rJ f.params hw.p;have an:=hw.l;have S:=λH'=>aB.k2 H'
 have ab:=aB.aW (cY.aL pp);have fin:∀v d,aP (H.push (.row U 7 [[Y f.name,c,C f.has,Y f.dB,I J f.rd,bv,I J f.pos]])) d->(aE P aA 59 [v,Y [44,32]] d=D (Y (flat (eZ f.params)),d))->W (nu (aE P aA) 1000 (.ptr H.next 0 0) v d) λv H'=>v= Y (jI f)/\aP H H':=by
  intro v d w e;have g2:=w.get dr;have k:ao P .add 9 X (Y [102,117,110,99,32]) (Y f.name)=D (Y ([102,117,110,99,32]++f.name)):=bV (by simp only[List.length_cons,List.length_nil];omega);have A:ao P .add 9 X (Y ([102,117,110,99,32]++f.name)) (Y [40])=D (Y ([102,117,110,99,32]++f.name++[40])):=bV (by simp only[List.length_append,List.length_cons,List.length_nil];omega);have B:ao P .add 9 U (Y ([102,117,110,99,32]++f.name++[40])) (Y (flat (eZ f.params)))=D (Y ([102,117,110,99,32]++f.name++[40]++flat (eZ f.params))):=bV (by simp only[List.length_append,List.length_cons,List.length_nil];omega)
  have o:ao P .add 9 X (Y ([102,117,110,99,32]++f.name++[40]++flat (eZ f.params))) (Y [41])=D (Y ([102,117,110,99,32]++f.name++[40]++flat (eZ f.params)++[41])):=bV (by simp only[List.length_append,List.length_cons,List.length_nil];omega);obtain⟨T,aw⟩:∃T,T=[102,117,110,99,32]++f.name++[40]++flat (eZ f.params)++[41]:=⟨_,rfl⟩;have ap:T.length<=1000:=by rw[aw];simp only[List.length_append,List.length_cons,List.length_nil];omega
  rw[<-aw]at o;unfold nu;simp-implicitDefEqProofs(disch:=try exact aj)only[reduceAdd,reduceLeDiff,reduceIte,ax,e,e2,bm,g2];rw[k,dY,A,dY,B,dY,o,dY];have E:∀y:aG,gd f=y->T++(y++[32,123])=jI f:=by
   intro y O;rw[aw];unfold jI;rw[O];simp[kH]
  clear aw k A B o;rcases hw.r with⟨i,m⟩|⟨i,ar,aq⟩
  ·have au:=fh m;have aF:=m.2.1;have av:=hE f.dB f.rd;have s:gd f=[58,32]++flat (c5 f.dB f.rd):=by unfold gd;rw[i];rfl
   rw[i]at g2;simp-implicitDefEqProofs(disch:=try exact aj)only[reduceAdd,reduceLeDiff,reduceIte,ax,g2];refine aO (type20 (x:=f.dB) (z:=f.rd) m.1 m.2.1 af) ?_;rintro _ ai ⟨rfl,G⟩;refine⟨G.1,?_⟩;have K:ao P .add 9 X (Y [58,32]) (Y (flat (c5 f.dB f.rd)))=D (Y ([58,32]++flat (c5 f.dB f.rd))):=bV (by simp only[List.length_append,List.length_cons,List.length_nil];omega);have L:ao P .add 9 U (Y T) (Y ([58,32]++flat (c5 f.dB f.rd)))=D (Y (T++([58,32]++flat (c5 f.dB f.rd)))):=bV (by simp only[List.length_append,List.length_cons,List.length_nil];omega);have q:ao P .add 9 X (Y (T++([58,32]++flat (c5 f.dB f.rd)))) (Y [32,123])=D (Y (T++([58,32]++flat (c5 f.dB f.rd))++[32,123])):=bV (by simp only[List.length_append,List.length_cons,List.length_nil];omega)
   rw[K,dY,L,dY,oZ,q,dY];exact bb.2 ⟨by rw[List.append_assoc T,E _ s],pp.trans (w.trans G)⟩
  ·have s:gd f=[]:=by unfold gd;rw[i];rfl
   rw[i]at g2;simp-implicitDefEqProofs(disch:=try exact aj)only[reduceAdd,reduceLeDiff,reduceIte,ax,g2];have q:ao P .add 9 X (Y T) (Y [32,123])=D (Y (T++[32,123])):=bV (by simp only[List.length_append,List.length_cons,List.length_nil];omega);rw[oZ,q,dY];exact bb.2 ⟨by rw[<-E _ s];rfl,pp.trans w⟩
 refine cG (λ_=>Mk 1000) ?_;rw[uC];simp-implicitDefEqProofs(disch:=try exact aj)only[reduceAdd,reduceLeDiff,reduceIte,ax,Q,dr,S];by_cases u:f.params.length=0
 ·have ag:=List.length_eq_zero_iff.1 u;have M:¬((0:Int)<((0:Nat):Int)):=af;have e:aE P aA 59 [.az,Y [44,32]] (H.push (.row U 7 [[Y f.name,c,C f.has,Y f.dB,I J f.rd,bv,I J f.pos]]))=D (Y (flat (eZ f.params)),H.push (.row U 7 [[Y f.name,c,C f.has,Y f.dB,I J f.rd,bv,I J f.pos]])):=by
   rw[ag];exact tm (ok:=λ_=>True) (l:=[]) (.inl ⟨rfl,rfl⟩) (Nat.zero_le _) (Nat.zero_le _)
  rw[u];simp-implicitDefEqProofs(disch:=try exact aj)only[mf,qu,reduceAdd,reduceLeDiff,reduceIte,ax,M,decide_false];exact fin _ _ (.refl _) e
 ·obtain⟨ak,i2,al,aH,am,rfl,F,aa⟩:=ab.row u;have ah:e5.esz=4:=rfl;rw[ah]at F;exact Dz (N:=1000) F af (λj a h=>by obtain⟨cs,e,k⟩:=aa j a h;rw[e,show cs=a.cells from k]) hw.p rfl fin f.params 0 1000 [] .az _ rfl rfl af (.refl _) (.inl ⟨rfl,rfl⟩)
def k7:pad 0=[]:=rfl
def zW:∀l:aG,bytesOf (eK l)=D l
 |[]=>rfl
 |c::l=>by
  have a:=zW l;unfold eK at a ⊢;rw[List.map_cons,bytesOf,a];simp[Go.cn.byteOf]
open Classical in
def PB{H:ae}{p m:Nat}{acc:aG}(h:fX H p m acc)(d:acc.length<=100000000000000):∃H',aE P aA 32 [.ptr p 0 0] H=D (Y acc,H')/\H'.next=H.next/\∀l,l≠m->H'.get l=H.get l:=by
 obtain⟨-,-,a,b,c,-,k⟩:=h;rcases k with⟨rfl,rfl⟩|⟨j,rfl,o⟩
 ·refine⟨H,mO ?_,rfl,λ_ _=>rfl⟩;unfold aA;simp only[c]
 ·refine⟨H.set m .dead,mO ?_,by simp,λl d=>ae.get_set_other (λe=>d e.symm)⟩;have i:bytesOf (((eK acc).drop 0).take acc.length)=D acc:=by
   rw[List.drop_zero,List.take_of_length_le (by rw[lO];omega)];exact zW acc
  have n:0<acc.length/\0+acc.length<=(eK acc).length/\True/\acc.length<=140737488355328/\((eK acc).drop 0).take acc.length=acc.map (λb=>[I .u8 b.toNat]):=⟨List.length_pos_iff.2 j,by rw[lO];omega,trivial,af,by rw[List.drop_zero,List.take_of_length_le (by rw[lO];omega)];rfl⟩;unfold aA;simp only[c,o,i];rw[if_pos n]
section
variable {N:Nat}{H0:ae}{r L i n n0 p m0:Nat}{cap:Option Nat}{ro:Bool}{els:List (List ad)}{ok:Nat->Prop}{Q:ad->ae->Prop}{acc:aG}
def DG(q:∀l,ok l->l<n0)(M:ok L)(aF:n<=100){all:List Fn}(aG:n=all.length)(hw:∀x∈all,n5 x/\dn x.body<=1000000000)
  (O:∀m H,e4 n0 p m H (acc++flat (cb (all.map .f)))->cR p m0 H0 m H->W (nj (aE P aA) N (.ptr p 0 0) H) Q):∀(es:List Fn) (j k:Nat) (done:List Fn) (m:Nat) (H:ae),all=done++es->done.length=j->es.length<k->H.get L=D (.row ro 7 els)->(∀(j:Nat) (a:Fn),all[j]? =D a->∃cs,els[i+j]? =D cs/\gF.V H ok a cs)->e4 n0 p m H (acc++flat (cb (done.map .f)))->acc.length+(flat (cb (done.map .f))).length+2000000000*es.length<=400000000000->cR p m0 H0 m H->
  W (l6 (aE P aA) N k (.ptr p 0 0) (.aD L i n 7 cap) (I J n) (I J j) H) Q
 |_,_,0,_,_,_,_,_,E,_,_,_,_,_=>af
 |[],j,k+1,done,m,H,e,z,E,A,F,c,R,w=>by
  rw[List.append_nil]at e;subst e;have B:¬((j:Int)<(n:Int)):=af;simp-implicitDefEqProofs(disch:=try exact aj)only[l6,qk,reduceAdd,reduceLeDiff,reduceIte,ax,B,decide_false];exact O m H c w
 |x::es,j,k+1,done,m,H,e,z,E,A,F,c,R,w=>by
  simp only[List.length_cons]at E R;have a2:all.length=done.length+(es.length+1):=by rw[e,List.length_append,List.length_cons]
  have B:(j:Int)<(n:Int):=af;have aI:((j:Int)).toNat=j:=af;have av:(0:Int)<=(j:Int):=af;have aX:IntKind.i64.wrap ((j:Int)+1)=((j+1:Nat):Int):=by rw[wrap_i64 af af];omega
  have ag:all[j]? =D x:=by rw[e,List.getElem?_append_right af,z,Nat.sub_self];rfl
  obtain⟨cs,aT,ad⟩:=F j x ag;obtain⟨aC,aK⟩:=hw x (List.mem_of_getElem? ag);have aJ:=ad;obtain⟨ak,bv,rfl,aB,S⟩:=ad;have bz:=aB.one;have bH:=S.eb;have a8:=er aC.n;have a6:=rJ x.params aC.p;have a1:=aC.l;have a7:(gd x).length<=30:=by
   unfold gd;rcases aC.r with⟨y,aa⟩|⟨y,_⟩
   ·have:=fh aa;have:=aa.2.1;have:=hE x.dB x.rd;rw[y,aR];simp only[List.length_append,List.length_cons,List.length_nil];omega
   ·rw[y];simp
  have a5:(jI x).length<=1000:=by unfold jI;simp only[List.length_append,List.length_cons,List.length_nil,kH];omega
  have ay:jI x≠[]:=by unfold jI kH;simp
  have u:=aP.push H (.row U 7 [[Y x.name,ak,C x.has,Y x.dB,I J x.rd,bv,I J x.pos]]);have ar:=ae.bM H (.row U 7 [[Y x.name,ak,C x.has,Y x.dB,I J x.rd,bv,I J x.pos]]);have aw:=J7 (gF.aW (cY.aL u) aJ) aC;have aM:=c.aL u;have am:H.next≠p/\H.next≠m:=by have:=c.lm;have:=c.jf.lt;omega
  obtain⟨d,a4,T⟩:=aC.b;simp-implicitDefEqProofs(disch:=try exact aj)only[l6,qk,reduceAdd,reduceLeDiff,reduceIte,ax,B,decide_true,av,aI,A,aT,bz,bH];refine aO aw ?_;rintro _ G ⟨rfl,o⟩;refine⟨o.1,?_⟩;have K:=o.get ar;have aH:=x8 G.next (jI x)
  simp-implicitDefEqProofs(disch:=try exact aj)only[bg,bx,aH];refine aO (gG (aM.aL o) (deep:=0) rfl [jI x] (by simpa using ay) (by simp) af (by simp only[List.flatten_cons,List.flatten_nil,List.length_append,List.length_cons,List.length_nil];omega) rfl rfl rfl) ?_;rintro _ an ⟨aS,m4,aN,v⟩;refine⟨aS,?_⟩;have au:=v.get K am.1 am.2;have cK:=(S.aL (u.trans o)).aW (v.aW c.aC c.hm q).s;have a9:H.next≠m4:=by have:=v.1;have:=ae.aV K;omega
  simp-implicitDefEqProofs(disch:=try exact aj)only[reduceAdd,reduceLeDiff,reduceIte,ax,au];refine aO (IU x.body d 1 T af aK an ok bv _ n0 p m4 _ rfl cK q aN (by simp only[List.flatten_cons,List.flatten_nil,List.length_append,List.length_cons,List.length_nil,k7];omega)) ?_;rintro _ a0 ⟨m5,aQ,al⟩;refine⟨al.next,?_⟩;have a3:=lV (deep:=1) T af;simp-implicitDefEqProofs(disch:=try exact aj)only[bg,bx];refine aO (gG aQ (deep:=0) rfl [[125]] (by simp) (by simp) af (by simp only[List.flatten_cons,List.flatten_nil,List.length_append,List.length_cons,List.length_nil,k7];omega) rfl rfl rfl) ?_;rintro _ ao ⟨aU,m6,ah,aY⟩
  refine⟨aU,?_⟩;simp-implicitDefEqProofs(disch:=try exact aj)only[bg,bx,cZ,aX];have aZ:cR p m H m G:=cR.aL (u.trans o);have wt:=((aZ.trans v).trans al).trans aY;have ai:=wt.aW c.aC c.hm q;have ab:acc++flat (cb (done.map .f))++(pad 0++([jI x].flatten++[10]))++flat (cc 1 x.body)++(pad 0++([[125]].flatten++[10]))=acc++flat (cb ((done++[x]).map .f)):=by
   rw[List.map_append,mY,cv,List.map_cons,List.map_nil,wm,cb,ch,k7];unfold jI;simp
  rw[ab]at ah;have hlen:(flat (cb ((done++[x]).map fc.f))).length<=(flat (cb (done.map fc.f))).length+2000000000:=by
   have:=congrArg List.length ab;simp only[List.length_append,List.flatten_cons,List.flatten_nil,List.length_cons,List.length_nil,k7]at this;omega
  exact DG q M aF aG hw O es (j+1) k (done++[x]) m6 ao (by rw[e,List.append_assoc];rfl) (by rw[List.length_append,z];rfl) af (ai L _ M A).2 (λj a h=>by obtain⟨cs,ap,aq⟩:=F j a h;exact⟨cs,ap,gF.aW ai aq⟩) ah af (w.trans wt)
end
def Ee:∀a b:List bF,et (a++b)=et a++et b
 |[],_=>rfl
 |x::a,b=>by rw[List.cons_append,et,et,Ee a b];simp
def Lo(x:bF):flat (et [x])=[32,32]++(flat (fG x)++[59,10]):=by
 rw[et,et,rq,cv,cu,lR,ch];rfl
section
variable {N:Nat}{H0:ae}{r L i n n0 p m0:Nat}{cap:Option Nat}{ro:Bool}{els:List (List ad)}{ok:Nat->Prop}{Q:ad->ae->Prop}{acc:aG}
def Cq(x:bF):flat (fG x)=x.name++([58,32]++flat (c5 x.cp x.c2)):=by
 have:=wq x [];rw[List.append_nil,ch,List.append_nil]at this;exact this
def DH(K:∀l,ok l->l<n0)(B:ok L)(V:n<=100){all:List bF}(aa:n=all.length)(hw:∀x∈all,fA x)(G:∀(j:Nat) (a:bF),all[j]? =D a->els[i+j]? =D a.cells)
  (E:∀m H,e4 n0 p m H (acc++flat (cb (all.map .g)))->cR p m0 H0 m H->W (ni (aE P aA) N (.ptr r 0 0) (.ptr p 0 0) H) Q):∀(es:List bF) (j k:Nat) (done:List bF) (m:Nat) (H:ae),all=done++es->done.length=j->es.length<k->H.get L=D (.row ro 4 els)->e4 n0 p m H (acc++flat (cb (done.map .g)))->acc.length+(flat (cb (done.map .g))).length+1000*es.length<=100000000000->cR p m0 H0 m H->
  W (l7 (aE P aA) N k (.ptr r 0 0) (.ptr p 0 0) (.aD L i n 4 cap) (I J n) (I J j) H) Q
 |_,_,0,_,_,_,_,_,v,_,_,_,_=>af
 |[],j,k+1,done,m,H,c,q,v,s,d,F,w=>by
  rw[List.append_nil]at c;subst c;have u:¬((j:Int)<(n:Int)):=af;simp-implicitDefEqProofs(disch:=try exact aj)only[l7,ql,reduceAdd,reduceLeDiff,reduceIte,ax,u,decide_false];exact E m H d w
 |x::es,j,k+1,done,m,H,c,q,v,s,d,F,w=>by
  simp only[List.length_cons]at v F;have al:all.length=done.length+(es.length+1):=by rw[c,List.length_append,List.length_cons]
  have u:(j:Int)<(n:Int):=af;have ab:((j:Int)).toNat=j:=af;have T:(0:Int)<=(j:Int):=af;have ah:IntKind.i64.wrap ((j:Int)+1)=((j+1:Nat):Int):=by rw[wrap_i64 af af];omega
  have O:all[j]? =D x:=by rw[c,List.getElem?_append_right af,q,Nat.sub_self];rfl
  have aT:=G j x O;have aC:=hw x (List.mem_of_getElem? O);have ao:=er aC.n;have am:=fh aC.o;have ap:=aC.o.2.1;have an:=hE x.cp x.c2;have y:=aP.push H (.row U 4 [x.cells]);have h:=ae.bM H (.row U 4 [x.cells]);simp only[bF.cells]at aT y h;simp-implicitDefEqProofs(disch:=try exact aj)only[l7,ql,reduceAdd,reduceLeDiff,reduceIte,ax,u,decide_true,T,ab,s,aT];refine aO (type20 (x:=x.cp) (z:=x.c2) aC.o.1 aC.o.2.1 af) ?_;rintro _ ak ⟨rfl,e⟩;refine⟨e.1,?_⟩;have A:=e.get h;simp-implicitDefEqProofs(disch:=try exact aj)only[reduceAdd,reduceLeDiff,reduceIte,ax,A,FE];refine aO (gG (d.aL (y.trans e)) (deep:=0) rfl [[103,108,111,98,97,108,32],x.name,[58,32],flat (c5 x.cp x.c2),[59]] (by simp) (by simp) af (by simp only[List.flatten_cons,List.flatten_nil,List.length_append,List.length_cons,List.length_nil];omega) rfl rfl rfl) ?_
  rintro _ S ⟨ag,m4,R,ai⟩;refine⟨ag,?_⟩;simp-implicitDefEqProofs(disch:=try exact aj)only[reduceAdd,reduceLeDiff,reduceIte,ax,h,A,ah];have wt:=(cR.aL (p:=p) (m:=m) (y.trans e)).trans ai;have ad:=wt.aW d.aC d.hm K;have M:acc++flat (cb (done.map .g))++(pad 0++([[103,108,111,98,97,108,32],x.name,[58,32],flat (c5 x.cp x.c2),[59]].flatten++[10]))=acc++flat (cb ((done++[x]).map .g)):=by
   rw[List.map_append,mY,cv,List.map_cons,List.map_nil,Co,cb,ch,k7,Cq];simp[qS]
  rw[M]at R;have hlen:(flat (cb ((done++[x]).map fc.g))).length<=(flat (cb (done.map fc.g))).length+1000:=by
   have:=congrArg List.length M;simp only[List.length_append,List.flatten_cons,List.flatten_nil,List.length_cons,List.length_nil,k7]at this;omega
  exact DH K B V aa hw G E es (j+1) k (done++[x]) m4 S (by rw[c,List.append_assoc];rfl) (by rw[List.length_append,q];rfl) af (ad L _ B s).2 R af (w.trans wt)
def DF{A:ad->ad->ad->ad->ad->ae->O}{V bS aa:ad}(M:∀l,ok l->l<n0)(E:ok L)(ah:n<=100){all:List bF}(ai:n=all.length)(hw:∀x∈all,fA x)(K:∀(j:Nat) (a:bF),all[j]? =D a->els[i+j]? =D a.cells)
  (F:∀m H,e4 n0 p m H (acc++flat (et all))->cR p m0 H0 m H->W (nk (aE P aA) N A (.ptr r 0 0) (.ptr p 0 0) V bS aa H) Q):∀(es:List bF) (j k:Nat) (done:List bF) (m:Nat) (H:ae),all=done++es->done.length=j->es.length<k->H.get L=D (.row ro 4 els)->e4 n0 p m H (acc++flat (et done))->acc.length+(flat (et done)).length+1000*es.length<=100000000000->cR p m0 H0 m H->
  W (l8 (aE P aA) N A k (.ptr r 0 0) (.ptr p 0 0) V bS aa (.aD L i n 4 cap) (I J n) (I J j) H) Q
 |_,_,0,_,_,_,_,_,v,_,_,_,_=>af
 |[],j,k+1,done,m,H,c,q,v,s,d,G,w=>by
  rw[List.append_nil]at c;subst c;have u:¬((j:Int)<(n:Int)):=af;simp-implicitDefEqProofs(disch:=try exact aj)only[l8,qn,reduceAdd,reduceLeDiff,reduceIte,ax,u,decide_false];exact F m H d w
 |x::es,j,k+1,done,m,H,c,q,v,s,d,G,w=>by
  simp only[List.length_cons]at v G;have aq:all.length=done.length+(es.length+1):=by rw[c,List.length_append,List.length_cons]
  have u:(j:Int)<(n:Int):=af;have ak:((j:Int)).toNat=j:=af;have ag:(0:Int)<=(j:Int):=af;have an:IntKind.i64.wrap ((j:Int)+1)=((j+1:Nat):Int):=by rw[wrap_i64 af af];omega
  have S:all[j]? =D x:=by rw[c,List.getElem?_append_right af,q,Nat.sub_self];rfl
  have aT:=K j x S;have aC:=hw x (List.mem_of_getElem? S);have aw:=er aC.n;have ar:=fh aC.o;have ay:=aC.o.2.1;have au:=hE x.cp x.c2;have y:=aP.push H (.row U 4 [x.cells]);have h:=ae.bM H (.row U 4 [x.cells]);simp only[bF.cells]at aT y h;simp-implicitDefEqProofs(disch:=try exact aj)only[l8,qn,reduceAdd,reduceLeDiff,reduceIte,ax,u,decide_true,ag,ak,s,aT];refine aO (type20 (x:=x.cp) (z:=x.c2) aC.o.1 aC.o.2.1 af) ?_;rintro _ ap ⟨rfl,e⟩;refine⟨e.1,?_⟩;have B:=e.get h;simp-implicitDefEqProofs(disch:=try exact aj)only[reduceAdd,reduceLeDiff,reduceIte,ax,B,x7];refine aO (gG (d.aL (y.trans e)) (deep:=1) rfl [x.name,[58,32],flat (c5 x.cp x.c2),[59]] (by simp) (by simp) af (by simp only[List.flatten_cons,List.flatten_nil,List.length_append,List.length_cons,List.length_nil];omega) rfl rfl rfl) ?_
  rintro _ ab ⟨am,m4,T,ao⟩;refine⟨am,?_⟩;simp-implicitDefEqProofs(disch:=try exact aj)only[reduceAdd,reduceLeDiff,reduceIte,ax,h,B,an];have wt:=(cR.aL (p:=p) (m:=m) (y.trans e)).trans ao;have al:=wt.aW d.aC d.hm M;have R:acc++flat (et done)++(pad 1++([x.name,[58,32],flat (c5 x.cp x.c2),[59]].flatten++[10]))=acc++flat (et (done++[x])):=by
   rw[Ee,cv,Lo,Cq,show pad 1=[32,32]from rfl];simp
  rw[R]at T;have hlen:(flat (et (done++[x]))).length<=(flat (et done)).length+1000:=by
   have:=congrArg List.length R;have av:=hk 1;simp only[List.length_append,List.flatten_cons,List.flatten_nil,List.length_cons,List.length_nil]at this;omega
  exact DF M E ah ai hw K F es (j+1) k (done++[x]) m4 ab (by rw[c,List.append_assoc];rfl) (by rw[List.length_append,q];rfl) af (al L _ E s).2 T af (w.trans wt)
