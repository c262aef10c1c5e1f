/-
  Texts of one proof, laid together: Rp Rq Rr Rv Rw We Wf Vj Vk Vl.
-/
import Derived.Test.YtghmbpmaafnodaaDoorMS
set_option linter.unusedVariables false
set_option linter.unusedSimpArgs false
set_option linter.defProp false
open Option renaming some→D
open Bool renaming true→X,false→U
open Go.bn.aa renaming int→I,str→Z,bool→Y
open Go.IntKind renaming i64→J
namespace Go.Proofs.YtghmbpmaafnodaaDoor
open Go.bn
open Nat (reduceAdd reduceLeDiff)
def Pn(x y:Bool):Option.map (λb=>aa.bool (!b)) (bif x then(bif y then D X else D U)else D U)=D (Y (!(x&&y))):=by cases x<;>cases y<;>rfl
def wa(a b:aC)(c d:Int):au P .neq 40 U (.agg [Z a,I J c]) (.agg [Z b,I J d])=D (Y (!(a==b&&c==d))):=
 Eq.trans ah (Pn (a==b) (c==d))
def Jo{N:Nat}{l m:List bB}(F:l.length<=1000000000)(hm:l.length=m.length){s q u li:Nat}{kc lc:Option Nat}{G K:Bool}{y z:List (List aa)}{H:af}{ok ok':Nat->Prop}(i:H.get s=D (.row G 4 y))(k:H.get u=D (.row K 4 z))(aq:∀(j:Nat) (a:bB),l[j]? =D a->∃cs,y[q+j]? =D cs/\fv.V H ok a cs)(aH:∀(j:Nat) (a:bB),m[j]? =D a->∃cs,z[li+j]? =D cs/\fv.V H ok' a cs):
  ∀(c j n:Nat),j+c=l.length->c<n->
  W (mJ (aI P aB) N n (.aG s q l.length 4 kc) (.aG u li m.length 4 lc) (I J j) H) λr H'=>r= Y (eV ig (l.drop j) (m.drop j))/\H'=H
 |_,_,0,_,x=>ae
 |0,j,n+1,E,x=>by
  have e:¬((j:Int)<(l.length:Int)):=ae;have d1:l.drop j=[]:=List.drop_eq_nil_of_le ae;have d2:m.drop j=[]:=List.drop_eq_nil_of_le ae;simp-implicitDefEqProofs(disch:=try exact ak)only[mJ,nQ,qK,qJ,reduceAdd,reduceLeDiff,reduceIte,az,e,decide_false];exact a_.2 ⟨by rw[d1,d2];rfl,rfl⟩
 |c+1,j,n+1,E,x=>by
  have v:j<l.length:=ae;have w:j<m.length:=ae;have e:(j:Int)<(l.length:Int):=ae;have o:(j:Int)<(m.length:Int):=ae;have L:(0:Int)<=(j:Int):=ae;have p:((j:Int)).toNat=j:=ae;obtain⟨cs,g1,g2⟩:=aq j l[j] (List.getElem?_eq_getElem v);obtain⟨B,g4,g5⟩:=aH j m[j] (List.getElem?_eq_getElem w);obtain rfl:cs=l[j].cells:=g2;obtain rfl:B=m[j].cells:=g5;have hw:IntKind.i64.wrap ((j:Int)+1)=((j+1:Nat):Int):=by rw[wrap_i64 ae ae];omega
  have dl:l.drop j=l[j]::l.drop (j+1):=List.drop_eq_getElem_cons v;have A:m.drop j=m[j]::m.drop (j+1):=List.drop_eq_getElem_cons w;rw[dl,A,eV];generalize l[j]=a at g1 ⊢;generalize m[j]=b at g4 ⊢;simp only[bB.cells]at g1 g4;have go:ig a b=X->W (mJ (aI P aB) N n (.aG s q l.length 4 kc) (.aG u li m.length 4 lc) (I J ((j+1:Nat):Int)) H) λr H'=>r= Y (ig a b&&eV ig (l.drop (j+1)) (m.drop (j+1)))/\H'=H:=λar=>by
   rw[ar,Bool.true_and];exact Jo F hm i k aq aH c (j+1) n ae ae
  have ar:ig a b=(a.name==b.name&&(a.b4==b.b4&&a.cy==b.cy)):=rfl;rw[mJ];unfold qK;cases d:a.name==b.name with
  |false=>
   rw[d,Bool.false_and]at ar;simp-implicitDefEqProofs(disch:=try exact ak)only[reduceAdd,reduceLeDiff,reduceIte,az,e,o,decide_true,p,i,k,g1,g4,d,Bool.not_false];exact a_.2 ⟨by rw[ar,Bool.false_and],rfl⟩
  |true=>
   rw[d,Bool.true_and]at ar;cases h:(a.b4==b.b4&&a.cy==b.cy)with
   |false=>
    simp-implicitDefEqProofs(disch:=try exact ak)only[reduceAdd,reduceLeDiff,reduceIte,az,e,o,decide_true,p,i,k,g1,g4,d,wa,h,Bool.not_false,Bool.not_true];exact a_.2 ⟨by rw[ar,h,Bool.false_and],rfl⟩
   |true=>
    simp-implicitDefEqProofs(disch:=try exact ak)only[reduceAdd,reduceLeDiff,reduceIte,az,e,o,decide_true,p,i,k,g1,g4,d,wa,h,Bool.not_true,hw];exact go (by rw[ar,h])
def Am{H:af}{l m:List bB}(j:l.length<=1000000000){v w:aa}{ok ok':Nat->Prop}(d:dD fv H ok l v)(e:dD fv H ok' m w):W (aI P aB 36 [v,w] H) λr H'=>r= Y (eV ig l m)/\H'=H:=by
 refine cO (λ_=>Rm (l.length+1)) ?_;have a:=λH'=>d.nv H'
 have c:=λH'=>e.nv H'
 have z0:((0:Nat):Int)=0:=rfl;by_cases h:l.length=m.length
 ·by_cases i:l.length=0
  ·have o:m.length=0:=ae;obtain rfl:=List.length_eq_zero_iff.1 i;obtain rfl:=List.length_eq_zero_iff.1 o;simp-implicitDefEqProofs(disch:=try exact ak)only[mJ,nQ,qK,qJ,reduceAdd,reduceLeDiff,reduceIte,az,a,c,List.length_nil,z0,bne_self_eq_false,Int.lt_irrefl,decide_false];exact a_.2 ⟨rfl,rfl⟩
  ·obtain⟨A,i1,p,E,y,rfl,g1,u⟩:=d.row i;obtain⟨B,i2,q,F,z,rfl,g2,x⟩:=e.row ae;have n:((l.length:Int) != (m.length:Int))=false:=by simp;omega
   have s:fv.esz=4:=rfl;rw[s]at a c g1 g2 ⊢;simp-implicitDefEqProofs(disch:=try exact ak)only[nQ,qJ,bg,bg,bG,c3,a,c,n];have:=Jo (N:=l.length+1) j h (kc:=p) (lc:=q) g1 g2 u x l.length 0 (l.length+1) ae ae;simpa using this
 ·have k:((l.length:Int) != (m.length:Int))=true:=by simp;omega
  simp-implicitDefEqProofs(disch:=try exact ak)only[nQ,qK,qJ,bg,bg,bG,c3,a,c,k];exact a_.2 ⟨by rw[vr _ _ h],rfl⟩
def Jp{N:Nat}{l m:List ep}(aj:l.length<=1000000000)(hm:l.length=m.length)(ar:∀x∈l,x.fields.length<=1000000000){a b S R ab li:Nat}{kc lc:Option Nat}{am an:Bool}{O T:List (List aa)}{H:af}{ok ok':Nat->Prop}{g1 f1 g2 f2:aa}(i:H.get a=D (.row U 3 [[.aG S R l.length 3 kc,g1,f1]]))(k:H.get b=D (.row U 3 [[.aG ab li m.length 3 lc,g2,f2]]))(q:H.get S=D (.row am 3 O))(s:H.get ab=D (.row an 3 T))(aq:∀(j:Nat) (a:ep),l[j]? =D a->∃cs,O[R+j]? =D cs/\hQ.V H ok a cs)(aH:∀(j:Nat) (a:ep),m[j]? =D a->∃cs,T[li+j]? =D cs/\hQ.V H ok' a cs){Q:aa->af->Prop}:
  ∀(c j n:Nat),j+c=l.length->c<n->(eV kL (l.drop j) (m.drop j)=X->W (nI (aI P aB) N (.ptr a 0 0) (.ptr b 0 0) H) Q)->(eV kL (l.drop j) (m.drop j)=U->Q (Y U) H)->
  W (lL (aI P aB) N n (.ptr a 0 0) (.ptr b 0 0) (I J j) H) Q
 |_,_,0,_,K,_,_=>ae
 |0,j,n+1,ag,K,e,d=>by
  have o:¬((j:Int)<(l.length:Int)):=ae;have d1:l.drop j=[]:=List.drop_eq_nil_of_le ae;have d2:m.drop j=[]:=List.drop_eq_nil_of_le ae;rw[lL];unfold sy;simp-implicitDefEqProofs(disch:=try exact ak)only[reduceAdd,reduceLeDiff,reduceIte,az,i,k,o,decide_false];exact e (by rw[d1,d2];rfl)
 |c+1,j,n+1,ag,K,e,d=>by
  have E:j<l.length:=ae;have F:j<m.length:=ae;have o:(j:Int)<(l.length:Int):=ae;have G:(j:Int)<(m.length:Int):=ae;have ap:(0:Int)<=(j:Int):=ae;have M:((j:Int)).toNat=j:=ae;obtain⟨cs,p,v,rfl,z⟩:=aq j l[j] (List.getElem?_eq_getElem E);obtain⟨ao,g4,w,rfl,A⟩:=aH j m[j] (List.getElem?_eq_getElem F);have hw:IntKind.i64.wrap ((j:Int)+1)=((j+1:Nat):Int):=by rw[wrap_i64 ae ae];omega
  have dl:l.drop j=l[j]::l.drop (j+1):=List.drop_eq_getElem_cons E;have ad:m.drop j=m[j]::m.drop (j+1):=List.drop_eq_getElem_cons F;have L:=ar l[j] (List.getElem_mem _);rw[dl,ad,eV]at e d;generalize l[j]=x at p e d z L;generalize m[j]=y at g4 e d A;have bO:=z.one;have b2:=A.one;have on:kL x y=X->W (lL (aI P aB) N n (.ptr a 0 0) (.ptr b 0 0) (I J ((j+1:Nat):Int)) H) Q:=λal=>by
   rw[al,Bool.true_and]at e d;exact Jp aj hm ar i k q s aq aH c (j+1) n ae ae e d
  have u:kL x y=(x.name==y.name&&eV ig x.fields y.fields):=rfl;rw[lL];unfold sy;cases h:x.name==y.name with
  |false=>
   simp-implicitDefEqProofs(disch:=try exact ak)only[reduceAdd,reduceLeDiff,reduceIte,az,i,k,o,G,decide_true,M,q,s,p,g4,h,Bool.not_false,xF,xB,xE,xC,xD];refine xZ (yr ah ?_) ?_
   ·simp only[rh]
    repeat (refine ai (λ_ _=> .inl rfl) ?_)
    trivial
   ·refine a_.2 (d (by rw[u,h,Bool.false_and,Bool.false_and]))
  |true=>
   simp-implicitDefEqProofs(disch:=try exact ak)only[reduceAdd,reduceLeDiff,reduceIte,az,i,k,o,G,decide_true,M,q,s,p,g4,h,Bool.not_true,xF,xB,xE,xC,xD];refine hl (Am L z A) ?_;rintro _ _ ⟨rfl,rfl⟩;refine⟨bo _,?_⟩;cases B:eV ig x.fields y.fields with
   |true=>
    simp-implicitDefEqProofs(disch:=try exact ak)only[bg,bG,c3,hw,Bool.not_true,xF,xB,xE,xC,xD];refine xZ (yr ah ?_) ?_
    ·simp only[rh]
     repeat (refine ai (λ_ _=> .inl rfl) ?_)
     trivial
    ·simp-implicitDefEqProofs(disch:=try exact ak)only[bg,bG,c3,hw];exact on (by rw[u,h,B];rfl)
   |false=>
    simp-implicitDefEqProofs(disch:=try exact ak)only[bg,bG,Bool.not_false,xF,xB,xE,xC,xD];refine xZ (yr ah ?_) (a_.2 (d (by rw[u,h,B];rfl)));simp only[rh]
    repeat (refine ai (λ_ _=> .inl rfl) ?_)
    trivial
def Qv(a b:aa):bp (D a) b=aa.beq a b:=rfl
def Ia{v w:aa}{n r:aC}{d p:Int}{h:Bool}(a:bp (D v) v=X)(hw:bp (D w) w=X):bp (D (.agg [Z n,v,Y h,Z r,I J d,w,I J p])) (.agg [Z n,v,Y h,Z r,I J d,w,I J p])=true:=by
 rw[Qv]at a hw;simp[bp,aa.beq,hg.beq,a,hw]
def dD.rd{α:Type}{K:jB α}{H:af}{ok:Nat->Prop}{l:List α}{v:aa}(h:dD K H ok l v):bp (D v) v=true:=by
 rcases h with⟨rfl,_⟩|⟨L,i,cap,ro,els,rfl,_⟩|⟨L,i,cap,rfl,_⟩
 ·rfl
 ·exact nC _ _ _ _ _
 ·exact nC _ _ _ _ _
def dr.rd{H:af}{ok:Nat->Prop}{l:List bf}{v:aa}(h:dr H ok l v):bp (D v) v=true:=by
 rcases h with⟨rfl,_⟩|⟨L,i,cap,ro,els,rfl,_⟩|⟨L,i,cap,rfl,_⟩
 ·rfl
 ·exact nC _ _ _ _ _
 ·exact nC _ _ _ _ _
def Jj{N:Nat}{l m:List Fn}(ay:l.length<=1000000000)(hm:l.length=m.length)(ar:∀x∈l,xO x){a b al aj an li:Nat}{kc lc:Option Nat}{aE aF:Bool}{ai am:List (List aa)}{ok ok':Nat->Prop}{g1 f1 g2 f2:aa}:
  ∀(c j n:Nat) (H:af),j+c=l.length->c<n->H.get a=D (.row U 3 [[f1,g1,.aG al aj l.length 7 kc]])->H.get b=D (.row U 3 [[f2,g2,.aG an li m.length 7 lc]])->H.get al=D (.row aE 7 ai)->H.get an=D (.row aF 7 am)->(∀(j:Nat) (a:Fn),l[j]? =D a->∃cs,ai[aj+j]? =D cs/\gg.V H ok a cs)->(∀(j:Nat) (a:Fn),m[j]? =D a->∃cs,am[li+j]? =D cs/\gg.V H ok' a cs)->
  W (nJ (aI P aB) N n (.ptr a 0 0) (.ptr b 0 0) (I J j) H) λr H'=>r= Y (eV mW (l.drop j) (m.drop j))/\aU H H'
 |_,_,0,_,_,ah,_,_,_,_,_,_=>ae
 |0,j,n+1,H,aw,ah,u,A,F,G,aq,aH=>by
  have S:¬((j:Int)<(l.length:Int)):=ae;have d1:l.drop j=[]:=List.drop_eq_nil_of_le ae;have d2:m.drop j=[]:=List.drop_eq_nil_of_le ae;rw[nJ];unfold sx qz;simp-implicitDefEqProofs(disch:=try exact ak)only[reduceAdd,reduceLeDiff,reduceIte,az,u,A,S,decide_false];exact a_.2 ⟨by rw[d1,d2];rfl,.refl _⟩
 |c+1,j,n+1,H,aw,ah,u,A,F,G,aq,aH=>by
  have ad:j<l.length:=ae;have ag:j<m.length:=ae;have S:(j:Int)<(l.length:Int):=ae;have ax:(j:Int)<(m.length:Int):=ae;have aP:(0:Int)<=(j:Int):=ae;have aD:((j:Int)).toNat=j:=ae;obtain⟨cs,bb,v,bv,rfl,K,M⟩:=aq j l[j] (List.getElem?_eq_getElem ad);obtain⟨aO,ap,w,E,rfl,L,O⟩:=aH j m[j] (List.getElem?_eq_getElem ag);have hw:IntKind.i64.wrap ((j:Int)+1)=((j+1:Nat):Int):=by rw[wrap_i64 ae ae];omega
  have dl:l.drop j=l[j]::l.drop (j+1):=List.drop_eq_getElem_cons ad;have av:m.drop j=m[j]::m.drop (j+1):=List.drop_eq_getElem_cons ag;have T:=ar l[j] (List.getElem_mem _);rw[dl,av,eV];generalize l[j]=x at bb K M T ⊢;generalize m[j]=y at ap L O ⊢;have bO:=K.one;have b2:=L.one;have cw:=M.eb;have dN:=O.eb;have aT:=af.a6 u;have aV:=af.a6 A;have aQ:=af.a6 F;have aS:=af.a6 G;rw[nJ];unfold sx;have rx:=Ia (n:=x.name) (r:=x.c4) (d:=x.rd) (p:=x.pos) (h:=x.has) K.rd M.rd;have eE:=Ia (n:=y.name) (r:=y.c4) (d:=y.rd) (p:=y.pos) (h:=y.has) L.rd O.rd;simp-implicitDefEqProofs(disch:=try exact ak)only[reduceAdd,reduceLeDiff,reduceIte,az,af.iE,u,A,S,ax,decide_true,aD,F,G,bb,ap,bO,b2,cw,dN,rx,eE]
  have k:=(aU.push H (.row U 7 [[Z x.name,v,Y x.has,Z x.c4,I J x.rd,bv,I J x.pos]])).bT (.row U 7 [[Z y.name,w,Y y.has,Z y.c4,I J y.rd,E,I J y.pos]]);have s:=(aU.push (H.push (.row U 7 [[Z x.name,v,Y x.has,Z x.c4,I J x.rd,bv,I J x.pos]])) (.row U 7 [[Z y.name,w,Y y.has,Z y.c4,I J y.rd,E,I J y.pos]])).get (af.bY H (.row U 7 [[Z x.name,v,Y x.has,Z x.c4,I J x.rd,bv,I J x.pos]]));have o:=af.bY (H.push (.row U 7 [[Z x.name,v,Y x.has,Z x.c4,I J x.rd,bv,I J x.pos]])) (.row U 7 [[Z y.name,w,Y y.has,Z y.c4,I J y.rd,E,I J y.pos]])
  simp only[af.ch]at o;generalize (H.push (.row U 7 [[Z x.name,v,Y x.has,Z x.c4,I J x.rd,bv,I J x.pos]])).push (.row U 7 [[Z y.name,w,Y y.has,Z y.c4,I J y.rd,E,I J y.pos]])=aJ at k s o ⊢;have aC:mW x y=(x.name==y.name&&(eV ig x.params y.params&&(x.has==y.has&&((x.c4==y.c4&&x.rd==y.rd)&&fU x.body y.body)))):=rfl;rw[aC];cases aL:x.name==y.name with
  |false=>
   simp-implicitDefEqProofs(disch:=try exact ak)only[reduceAdd,reduceLeDiff,reduceIte,az,Bool.not_false];exact a_.2 ⟨by simp only[Bool.false_and],k⟩
  |true=>
   simp-implicitDefEqProofs(disch:=try exact ak)only[reduceAdd,reduceLeDiff,reduceIte,az,Bool.not_true,s,o];refine hl (Am T.1 (K.a1 (cK.aR k)) (L.a1 (cK.aR k))) ?_;rintro _ _ ⟨rfl,rfl⟩;refine⟨bo _,?_⟩;cases aM:eV ig x.params y.params with
   |false=>
    simp-implicitDefEqProofs(disch:=try exact ak)only[reduceAdd,reduceLeDiff,reduceIte,az,Bool.not_false];exact a_.2 ⟨by simp only[Bool.false_and,Bool.and_false],k⟩
   |true=>
   cases Q:x.has==y.has with
   |false=>
    simp-implicitDefEqProofs(disch:=try exact ak)only[reduceAdd,reduceLeDiff,reduceIte,az,Bool.not_true,Bool.not_false,s,o,Q];exact a_.2 ⟨by simp only[Bool.false_and,Bool.and_false],k⟩
   |true=>
   cases ab:(x.c4==y.c4&&x.rd==y.rd)with
   |false=>
    simp-implicitDefEqProofs(disch:=try exact ak)only[reduceAdd,reduceLeDiff,reduceIte,az,Bool.not_true,Bool.not_false,s,o,Q,wa,ab];exact a_.2 ⟨by simp only[Bool.false_and,Bool.and_false],k⟩
   |true=>
    simp-implicitDefEqProofs(disch:=try exact ak)only[reduceAdd,reduceLeDiff,reduceIte,az,Bool.not_true,Bool.not_false,s,o,Q,wa,ab];refine hl (zn (B:=1000000000) aK (λe _=>AL aK e) T.2 (M.aR k) (O.aR k)) ?_;rintro _ au ⟨rfl,ao⟩;refine⟨ao.1,?_⟩;have pp:=k.trans ao;cases aN:fU x.body y.body with
    |false=>
     simp-implicitDefEqProofs(disch:=try exact ak)only[bg,bG,Bool.not_false];exact a_.2 ⟨by simp only[Bool.false_and,Bool.and_false],pp⟩
    |true=>
     simp-implicitDefEqProofs(disch:=try exact ak)only[bg,bG,c3,Bool.not_true,hw];refine(Jj ay hm ar (ok:=ok) (ok':=ok') c (j+1) n au ae ae (pp.get u) (pp.get A) (pp.get F) (pp.get G) (λi z R=> ?_) (λi z R=> ?_)).mono ?_
     ·obtain⟨p,q,r⟩:=aq i z R;exact⟨p,q,gg.a1 (cK.aR pp) r⟩
     ·obtain⟨p,q,r⟩:=aH i z R;exact⟨p,q,gg.a1 (cK.aR pp) r⟩
     ·rintro v H' ⟨rfl,q⟩;exact⟨by simp only[Bool.true_and],pp.trans q⟩
def Uz{N:Nat}{l m:List Fn}(p:l.length<=1000000000)(hm:l.length=m.length)(ar:∀x∈l,xO x)(h:l.length<N){H:af}{a b:Nat}{ok ok':Nat->Prop}{g1 f1 g2 f2 v w:aa}(d:H.get a=D (.row U 3 [[f1,g1,v]]))(e:H.get b=D (.row U 3 [[f2,g2,w]]))(c:dD gg H ok l v)(o:dD gg H ok' m w):
  W (nI (aI P aB) N (.ptr a 0 0) (.ptr b 0 0) H) λr H'=>r= Y (eV mW l m)/\aU H H':=by
 unfold nI;by_cases i:l.length=0
 ·have q:m.length=0:=ae;obtain rfl:=List.length_eq_zero_iff.1 i;obtain rfl:=List.length_eq_zero_iff.1 q;obtain⟨n,rfl⟩:∃n,N=n+1:=⟨N-1,by simp only[List.length_nil]at h;omega⟩;have k:=λH'=>c.r5 H'
  have bO:=c.one;have z0:((0:Nat):Int)=0:=rfl;rw[nJ];unfold sx qz;simp-implicitDefEqProofs(disch:=try exact ak)only[reduceAdd,reduceLeDiff,reduceIte,az,d,e,k,List.length_nil,z0,Int.lt_irrefl,decide_false];exact a_.2 ⟨rfl,.refl _⟩
 ·obtain⟨F,i1,B,K,z,rfl,bb,u⟩:=c.row i;obtain⟨G,i2,E,L,A,rfl,j,y⟩:=o.row ae;have s:gg.esz=7:=rfl;rw[s]at d e bb j;have:=Jj (N:=N) p hm ar l.length 0 N H ae h d e bb j u y;simpa using this
def UA{N:Nat}{l m:List ep}(s:l.length<=1000000000)(hm:l.length=m.length)(ar:∀x∈l,x.fields.length<=1000000000)(h:l.length<N){H:af}{a b:Nat}{ok ok':Nat->Prop}{g1 f1 g2 f2 v w:aa}(d:H.get a=D (.row U 3 [[v,g1,f1]]))(e:H.get b=D (.row U 3 [[w,g2,f2]]))(c:dD hQ H ok l v)(p:dD hQ H ok' m w){Q:aa->af->Prop}(i:eV kL l m=X->W (nI (aI P aB) N (.ptr a 0 0) (.ptr b 0 0) H) Q)(q:eV kL l m=U->Q (Y U) H):
  W (lL (aI P aB) N N (.ptr a 0 0) (.ptr b 0 0) (I J 0) H) Q:=by
 by_cases j:l.length=0
 ·have u:m.length=0:=ae;obtain rfl:=List.length_eq_zero_iff.1 j;obtain rfl:=List.length_eq_zero_iff.1 u;obtain⟨n,rfl⟩:∃n,N=n+1:=⟨N-1,by simp only[List.length_nil]at h;omega⟩;have o:=λH'=>c.r4 H'
  have bO:=c.one;have z0:((0:Nat):Int)=0:=rfl;rw[lL];unfold sy;simp-implicitDefEqProofs(disch:=try exact ak)only[reduceAdd,reduceLeDiff,reduceIte,az,d,e,o,List.length_nil,z0,Int.lt_irrefl,decide_false];exact i rfl
 ·obtain⟨K,i1,F,M,B,rfl,bb,z⟩:=c.row j;obtain⟨L,i2,G,O,E,rfl,k,A⟩:=p.row ae;have y:hQ.esz=3:=rfl;rw[y]at d e bb k;exact Jp (N:=N) s hm ar d e bb k z A l.length 0 N ae h i q
def Q1{g g':bE}(ar:td g){H:af}{ok ok':Nat->Prop}{bM bS bP d a eZ:aa}(n:dD hQ H ok g.b7 bM)(z:dD fv H ok g.globals bS)(o:dD gg H ok g.funcs bP)(p:dD hQ H ok' g'.b7 d)(A:dD fv H ok' g'.globals a)(s:dD gg H ok' g'.funcs eZ):
  W (aI P aB 13 [.agg [bM,bS,bP],.agg [d,a,eZ]] H) λr H'=>r= Y (n7 g g')/\aU H H':=by
 refine cO (λ_=>Q6 1000000001) ?_;have bO:=n.one;have b2:=z.one;have cw:=o.one;have bb:=p.one;have G:=A.one;have K:=s.one;have B:∀l,dR l (.agg [bM,bS,bP])=D (.ptr l 0 0,.row U 3 [[bM,bS,bP]]):=λl=>hn l _ (by simp only[List.all_cons,List.all_nil,bO,b2,cw,Bool.and_self])
 have E:∀l,dR l (.agg [d,a,eZ])=D (.ptr l 0 0,.row U 3 [[d,a,eZ]]):=λl=>hn l _ (by simp only[List.all_cons,List.all_nil,bb,G,K,Bool.and_self])
 have c:=(aU.push H (.row U 3 [[bM,bS,bP]])).bT (.row U 3 [[d,a,eZ]]);have h:=(aU.push (H.push (.row U 3 [[bM,bS,bP]])) (.row U 3 [[d,a,eZ]])).get (af.bY H (.row U 3 [[bM,bS,bP]]));have e:=af.bY (H.push (.row U 3 [[bM,bS,bP]])) (.row U 3 [[d,a,eZ]]);simp only[af.ch]at e;have j:=λH'=>n.r4 H'
 have k:=λH'=>p.r4 H'
 have x:=λH'=>o.r5 H'
 have y:=λH'=>s.r5 H'
 have F:n7 g g'=(eV kL g.b7 g'.b7&&(eV ig g.globals g'.globals&&eV mW g.funcs g'.funcs)):=rfl;rw[F];unfold wO;simp-implicitDefEqProofs(disch:=try exact ak)only[bg,bg,bG,B,E,af.ch];generalize (H.push (.row U 3 [[bM,bS,bP]])).push (.row U 3 [[d,a,eZ]])=L at c h e ⊢;have u:=cK.aR (ok:=ok) c;have w:=cK.aR (ok:=ok') c;by_cases aq:g.b7.length=g'.b7.length
 ·have i:((g.b7.length:Int) != (g'.b7.length:Int))=false:=by simp;omega
  by_cases aH:g.funcs.length=g'.funcs.length
  ·have m:((g.funcs.length:Int) != (g'.funcs.length:Int))=false:=by simp;omega
   simp-implicitDefEqProofs(disch:=try exact ak)only[reduceAdd,reduceLeDiff,reduceIte,az,h,e,j,k,x,y,i,m];refine hl (Am ar.kA (z.a1 u) (A.a1 w)) ?_;rintro _ _ ⟨rfl,rfl⟩;refine⟨bo _,?_⟩;cases bu:eV ig g.globals g'.globals with
   |false=>
    simp-implicitDefEqProofs(disch:=try exact ak)only[bg,bG,Bool.not_false];exact a_.2 ⟨by simp only[Bool.false_and,Bool.and_false],c⟩
   |true=>
    simp-implicitDefEqProofs(disch:=try exact ak)only[bg,bG,Bool.not_true];refine UA ar.r.1 aq ar.r.2 (by have:=ar.r.1;omega) h e (n.a1 u) (p.a1 w) (λcq=> ?_) (λcq=> ?_)
    ·rw[cq];refine(Uz ar.f.1 aH ar.f.2 (by have:=ar.f.1;omega) h e (o.a1 u) (s.a1 w)).mono ?_;rintro v H' ⟨rfl,q⟩;exact⟨by simp only[Bool.true_and],c.trans q⟩
    ·exact⟨by rw[cq,Bool.false_and],c⟩
  ·have m:((g.funcs.length:Int) != (g'.funcs.length:Int))=true:=by simp;omega
   simp-implicitDefEqProofs(disch:=try exact ak)only[reduceAdd,reduceLeDiff,reduceIte,az,h,e,j,k,x,y,i,m];exact a_.2 ⟨by rw[vr g.funcs g'.funcs aH,Bool.and_false,Bool.and_false],c⟩
 ·have i:((g.b7.length:Int) != (g'.b7.length:Int))=true:=by simp;omega
  simp-implicitDefEqProofs(disch:=try exact ak)only[reduceAdd,reduceLeDiff,reduceIte,az,h,e,j,k,i];exact a_.2 ⟨by rw[vr g.b7 g'.b7 aq,Bool.false_and],c⟩
def Fk(p:bB)(l:List bK):flat (c6 p++l)=p.name++([58,32]++(flat (cn p.b4 p.cy)++flat l)):=yG _ _ _ _
def vP{p:bB}(h:fM p):(flat (c6 p)).length<=40:=by
 have:=fP h.n;have:=ib h.o;have:=h.o.2.1;unfold c6;rw[zk];omega
def zg:∀l:List bB,(∀p∈l,fM p)->(flat (eN l)).length<=44*l.length
 |[],_=>by simp[eN,flat]
 |p::r,h=>by
  have c:=vP (h p (by simp));have d:=zg r λx a=>h x (List.mem_cons_of_mem _ a)
  rw[eN,j0,dj,dG,k0];simp only[List.length_cons,List.length_nil];omega
def Fm(x:ep)(l:List bK):flat (o0 x++l)=s4++([32]++(x.name++([32,123,10]++(flat (eN x.fields)++([125,10]++flat l))))):=by
 unfold o0;simp only[List.cons_append,List.append_assoc,List.nil_append];rw[iA,e3,kz,e3,di,qa,dw,di,qa];rfl
def Fi(x:bB)(l:List bK):flat (qt x++l)=s3++([32]++(flat (c6 x)++([59,10]++flat l))):=by
 unfold qt;simp only[List.cons_append,List.append_assoc,List.nil_append];rw[iA,e3,dw,di,qa];rfl
def O5{x:ep}(h:ox x):(flat (o0 x)).length<=400:=by
 have a:=zg x.fields h.f;have c:=fP h.n;have d:=h.l;have:=Fm x [];rw[List.append_nil,ds,List.append_nil]at this;rw[this];simp only[List.length_append,List.length_cons,List.length_nil,s4];omega
def O3{x:bB}(h:fM x):(flat (qt x)).length<=60:=by
 have a:=vP h;have:=Fi x [];rw[List.append_nil,ds,List.append_nil]at this;rw[this];simp only[List.length_append,List.length_cons,List.length_nil,s3];omega
def NN(x:ep)(l:List dV):flat (cm (.r x::l))=s4++([32]++(x.name++([32,123,10]++(flat (eN x.fields)++([125,10]++flat (cm l)))))):=by
 rw[cm,iW,Fm]
def NM(x:bB)(l:List dV):flat (cm (.g x::l))=s3++([32]++(flat (c6 x)++([59,10]++flat (cm l)))):=by
 rw[cm,iW,Fi]
def F4:∀l:List bB,(∀p∈l,fM p)->(flat (jq l)).length<=44*l.length
 |[],_=>by simp[jq,flat]
 |p::r,h=>by
  have c:=vP (h p (by simp));have d:=F4 r λx a=>h x (List.mem_cons_of_mem _ a)
  rw[jq,dG,fw,dj];simp only[List.length_cons,List.length_nil];omega
def vO(l:List bB)(h:∀p∈l,fM p):(flat (fQ l)).length<=44*l.length:=by
 cases l with
 |nil=>simp[fQ,flat]
 |cons p r=>
  have c:=vP (h p (by simp));have d:=F4 r λx a=>h x (List.mem_cons_of_mem _ a)
  rw[fQ,dj,List.length_cons];omega
def j3(f:Fn):aC:=bif f.has then[58,32]++flat (cn f.c4 f.rd)else[]
def NL(f:Fn)(l:List bK):flat (qs f++l)=od++([32]++(f.name++([40]++(flat (fQ f.params)++([41]++(j3 f++([32,123,10]++(flat (bH 1 f.body)++([125,10]++flat l))))))))):=by
 unfold qs;simp only[List.cons_append,List.append_assoc,List.nil_append];rw[iA,e3,kz,di,dw,di];have e:∀m,flat ((bif f.has then bw [58]::b9::cn f.c4 f.rd else[])++m)=j3 f++flat m:=by
  intro m;unfold j3;cases f.has
  ·rfl
  ·rw[aS,aS,List.cons_append,List.cons_append,di,e3,dw];simp
 rw[e];have:=tB [] (bH 1 f.body) (nl::l);rw[this,qa];simp
def Fj(f:Fn)(l:List dV):flat (cm (.f f::l))=od++([32]++(f.name++([40]++(flat (fQ f.params)++([41]++(j3 f++([32,123,10]++(flat (bH 1 f.body)++([125,10]++flat (cm l)))))))))):=by
 rw[cm,iW,NL]
def se:∀a b:List dV,cm (a++b)=cm a++cm b
 |[],_=>rfl
 |i::a,b=>by rw[List.cons_append,cm,se a b,cm,List.append_assoc]
def F3:∀l:List ep,(∀x∈l,ox x)->(flat (cm (l.map dV.r))).length<=400*l.length
 |[],_=>by simp[cm,flat]
 |x::r,h=>by
  have c:=O5 (h x (by simp));have d:=F3 r λx a=>h x (List.mem_cons_of_mem _ a)
  rw[List.map_cons,cm,dj,List.length_cons,iW];omega
def F2:∀l:List bB,(∀x∈l,fM x)->(flat (cm (l.map dV.g))).length<=60*l.length
 |[],_=>by simp[cm,flat]
 |x::r,h=>by
  have c:=O3 (h x (by simp));have d:=F2 r λx a=>h x (List.mem_cons_of_mem _ a)
  rw[List.map_cons,cm,dj,List.length_cons,iW];omega
def fI(g:bE):List bK:=cm (g.b7.map .r++(g.globals.map .g++g.funcs.map .f))
structure vc(g:bE):Prop where
 o9:∀x∈g.b7,ox x
 dI:∀x∈g.globals,fM x
 cP:∀x∈g.funcs,ow x/\ec x.body<=1000000000
 h_:g.b7.length<=100
 qg:g.globals.length<=100
 r_:g.funcs.length<=100
section
variable {H0:af}{ok:Nat->Prop}{r:Nat}{bM bS bP:aa}{g:bE}
end
def FI:∀l:List bB,Lib.joinTail [44,32] (l.map λp=>flat (c6 p))=flat (jq l)
 |[]=>rfl
 |p::r=>by
  have a:=FI r;rw[jq,di,e3,dw,<-a,List.map_cons,Lib.joinTail,List.map_cons,List.flatten_cons,Lib.joinTail];simp
def FH:∀l:List bB,Lib.join (l.map λp=>flat (c6 p)) [44,32]=flat (fQ l)
 |[]=>rfl
 |p::r=>by rw[List.map_cons,Lib.join_cons,FI,fQ,dw]
def kU(f:Fn):aC:=od++([32]++(f.name++([40]++(flat (fQ f.params)++([41]++(j3 f++[32,123]))))))
section
variable {N:Nat}{H0:af}{r L i n:Nat}{cap:Option Nat}{ro:Bool}{els:List (List aa)}
def Gu(G:H0.get L=D (.row ro 4 els))(ai:n<=1000){all:List bB}(m:∀(j:Nat) (a:bB),all[j]? =D a->els[i+j]? =D a.cells)(hw:∀p∈all,fM p)(aj:n=all.length){Q:aa->af->Prop}(E:∀v H,aU H0 H->(aI P aB 59 [v,Z [44,32]] H=D (Z (flat (fQ all)),H))->W (pg (aI P aB) N (.ptr r 0 0) v H) Q):∀(es:List bB) (j k:Nat) (done:List bB) (v:aa) (H:af),all=done++es->done.length=j->es.length<k->aU H0 H->du rW (λl=>H0.next<=l) H (done.map λe=>flat (c6 e)) v->
  W (nO (aI P aB) N k (.ptr r 0 0) v (.aG L i n 4 cap) (I J n) (I J j) H) Q
 |_,_,0,_,_,_,_,_,A,_,_=>ae
 |[],j,k+1,done,v,H,c,y,A,pp,w=>by
  rw[List.append_nil]at c;subst c;have z:¬((j:Int)<(n:Int)):=ae;have ay:=vO all hw;have aq:aI P aB 59 [v,Z [44,32]] H=D (Z (flat (fQ all)),H):=by
   rw[<-FH];exact vI w (by rw[List.length_map];omega) (by rw[FH];omega)
  simp-implicitDefEqProofs(disch:=try exact ak)only[nO,sA,reduceAdd,reduceLeDiff,reduceIte,az,z,decide_false];exact E v H pp aq
 |x::es,j,k+1,done,v,H,c,y,A,pp,w=>by
  simp only[List.length_cons]at A;have av:all.length=done.length+(es.length+1):=by rw[c,List.length_append,List.length_cons]
  have z:(j:Int)<(n:Int):=ae;have an:((j:Int)).toNat=j:=ae;have ag:(0:Int)<=(j:Int):=ae;have ap:IntKind.i64.wrap ((j:Int)+1)=((j+1:Nat):Int):=by rw[wrap_i64 ae ae];omega
  have O:all[j]? =D x:=by rw[c,List.getElem?_append_right ae,y,Nat.sub_self];rfl
  have bb:=m j x O;have aF:=hw x (List.mem_of_getElem? O);have aC:=fP aF.n;have aw:=ib aF.o;have aD:=aF.o.2.1;have ax:=kD x.b4 x.cy;have g1:=pp.get G;have B:=aU.push H (.row U 4 [x.cells]);have u:=af.bY H (.row U 4 [x.cells]);have aE:H.next<(H.push (.row U 4 [x.cells])).next:=by simp
  simp only[bB.cells]at bb B u;simp-implicitDefEqProofs(disch:=try exact ak)only[nO,sA,reduceAdd,reduceLeDiff,reduceIte,az,z,decide_true,ag,an,g1,bb];refine aW (type20 aF.o.1 aF.o.2.1 ae) ?_;rintro _ d ⟨rfl,q⟩;refine⟨q.1,?_⟩;have ad:=q.get u;have s:=pp.trans (B.trans q);have F:=(w.aR B).aR q;have al:flat (c6 x)=x.name++[58,32]++flat (cn x.b4 x.cy):=by
   have:=Fk x [];rw[List.append_nil,ds,List.append_nil]at this;rw[this];simp
  have aH:au P .add 9 X (Z x.name) (Z [58,32])=D (Z (x.name++[58,32])):=dk (by simp only[List.length_cons,List.length_nil];omega);have bu:au P .add 9 U (Z (x.name++[58,32])) (Z (flat (cn x.b4 x.cy)))=D (Z (flat (c6 x))):=by
   rw[al];exact dk (by simp only[List.length_append,List.length_cons,List.length_nil];omega)
  have am:=AK d.next (flat (c6 x))
  obtain⟨R,H',aq,S,T,b3⟩:=du.app (K:=rW) (ok':=λl=>H0.next<=l) GI F (okE:=λ_=>False) (a:=flat (c6 x)) (cs:=[Z (flat (c6 x))]) rfl (λ_ _ h=>h.elim) (λ_ _ h _=>h) (by have:=s.1;show H0.next<=d.next+1;omega) (by rw[List.length_map];omega);have ao:aU H0 H':=by
   refine⟨by have:=s.1;omega,λl m=> ?_⟩;have:=s.1;rw[b3 l ae λL M ah=> ?_]
   ·exact s.2 l m
   ·subst ah;rcases F with⟨rfl,_⟩|⟨L',_,rfl,ar,_⟩
    ·cases M
    ·cases M;omega
  have ab:df P (d.push (.row U 1 [[Z (flat (c6 x))]])) [50,50] v (.aG d.next 0 1 1 (D 1))=D (R,H'):=aq;have V:(d.push (.row U 1 [[Z (flat (c6 x))]])).next<=H'.next:=by rw[af.ch];exact T
  simp-implicitDefEqProofs(disch:=try exact ak)only[reduceAdd,reduceLeDiff,reduceIte,az,u,ad,aH,bu,am,ab,fJ,V,ap];exact Gu G ai m hw aj E es (j+1) k (done++[x]) R H' (by rw[c,List.append_assoc];rfl) (by rw[List.length_append,y];rfl) ae ao (by rw[List.map_append];exact S)
end
def Of{H:af}{ok:Nat->Prop}{f:Fn}{cs:List aa}(h:gg.V H ok f cs)(hw:ow f):W (aI P aB 30 [.agg cs] H) λv H'=>v= Z (kU f)/\aU H H':=by
 obtain⟨c,bv,rfl,ar,E⟩:=h;have bO:=ar.one;have b2:=E.eb;have B:∀l,dR l (.agg [Z f.name,c,Y f.has,Z f.c4,I J f.rd,bv,I J f.pos])=D (.ptr l 0 0,.row U 7 [[Z f.name,c,Y f.has,Z f.c4,I J f.rd,bv,I J f.pos]]):=λl=>hn l _ (by simp only[List.all_cons,List.all_nil,hS,hs,ue,bO,b2,Bool.and_self])
 have pp:=aU.push H (.row U 7 [[Z f.name,c,Y f.has,Z f.c4,I J f.rd,bv,I J f.pos]]);have dI:=af.bY H (.row U 7 [[Z f.name,c,Y f.has,Z f.c4,I J f.rd,bv,I J f.pos]]);have am:=fP hw.n;have al:=vO f.params hw.p;have ab:=hw.l;have F:=λH'=>ar.nv H'
 have K:=ar.a1 (cK.aR pp);have fin:∀v d,aU (H.push (.row U 7 [[Z f.name,c,Y f.has,Z f.c4,I J f.rd,bv,I J f.pos]])) d->(aI P aB 59 [v,Z [44,32]] d=D (Z (flat (fQ f.params)),d))->W (pg (aI P aB) 1000 (.ptr H.next 0 0) v d) λv H'=>v= Z (kU f)/\aU H H':=by
  intro v d o aq;have g2:=o.get dI;have aH:au P .add 9 X (Z [102,117,110,99,32]) (Z f.name)=D (Z ([102,117,110,99,32]++f.name)):=dk (by simp only[List.length_cons,List.length_nil];omega);have bu:au P .add 9 X (Z ([102,117,110,99,32]++f.name)) (Z [40])=D (Z ([102,117,110,99,32]++f.name++[40])):=dk (by simp only[List.length_append,List.length_cons,List.length_nil];omega);have cq:au P .add 9 U (Z ([102,117,110,99,32]++f.name++[40])) (Z (flat (fQ f.params)))=D (Z ([102,117,110,99,32]++f.name++[40]++flat (fQ f.params))):=dk (by simp only[List.length_append,List.length_cons,List.length_nil];omega)
  have er:au P .add 9 X (Z ([102,117,110,99,32]++f.name++[40]++flat (fQ f.params))) (Z [41])=D (Z ([102,117,110,99,32]++f.name++[40]++flat (fQ f.params)++[41])):=dk (by simp only[List.length_append,List.length_cons,List.length_nil];omega);obtain⟨T,ay⟩:∃T,T=[102,117,110,99,32]++f.name++[40]++flat (fQ f.params)++[41]:=⟨_,rfl⟩;have ad:T.length<=1000:=by rw[ay];simp only[List.length_append,List.length_cons,List.length_nil];omega
  rw[<-ay]at er;unfold pg;simp-implicitDefEqProofs(disch:=try exact ak)only[reduceAdd,reduceLeDiff,reduceIte,az,aq,fJ,bo,g2];rw[aH,eC,bu,eC,cq,eC,er,eC];have s:∀q:aC,j3 f=q->T++(q++[32,123])=kU f:=by
   intro q A;rw[ay];unfold kU;rw[A];simp[od]
  clear ay aH bu cq er;rcases hw.r with⟨e,i⟩|⟨e,ah,ag⟩
  ·have ai:=ib i;have an:=i.2.1;have aj:=kD f.c4 f.rd;have k:j3 f=[58,32]++flat (cn f.c4 f.rd):=by unfold j3;rw[e];rfl
   rw[e]at g2;simp-implicitDefEqProofs(disch:=try exact ak)only[reduceAdd,reduceLeDiff,reduceIte,az,g2];refine aW (type20 (x:=f.c4) (z:=f.rd) i.1 i.2.1 ae) ?_;rintro _ O ⟨rfl,w⟩;refine⟨w.1,?_⟩;have mc:au P .add 9 X (Z [58,32]) (Z (flat (cn f.c4 f.rd)))=D (Z ([58,32]++flat (cn f.c4 f.rd))):=dk (by simp only[List.length_append,List.length_cons,List.length_nil];omega);have p2:au P .add 9 U (Z T) (Z ([58,32]++flat (cn f.c4 f.rd)))=D (Z (T++([58,32]++flat (cn f.c4 f.rd)))):=dk (by simp only[List.length_append,List.length_cons,List.length_nil];omega);have nr:au P .add 9 X (Z (T++([58,32]++flat (cn f.c4 f.rd)))) (Z [32,123])=D (Z (T++([58,32]++flat (cn f.c4 f.rd))++[32,123])):=dk (by simp only[List.length_append,List.length_cons,List.length_nil];omega)
   rw[mc,eC,p2,eC,qI,nr,eC];exact a_.2 ⟨by rw[List.append_assoc T,s _ k],pp.trans (o.trans w)⟩
  ·have k:j3 f=[]:=by unfold j3;rw[e];rfl
   rw[e]at g2;simp-implicitDefEqProofs(disch:=try exact ak)only[reduceAdd,reduceLeDiff,reduceIte,az,g2];have nr:au P .add 9 X (Z T) (Z [32,123])=D (Z (T++[32,123])):=dk (by simp only[List.length_append,List.length_cons,List.length_nil];omega);rw[qI,nr,eC];exact a_.2 ⟨by rw[<-s _ k];rfl,pp.trans o⟩
 refine cO (λ_=>Rj 1000) ?_;rw[wY];simp-implicitDefEqProofs(disch:=try exact ak)only[reduceAdd,reduceLeDiff,reduceIte,az,B,dI,F];by_cases m:f.params.length=0
 ·have L:=List.length_eq_zero_iff.1 m;have y:¬((0:Int)<((0:Nat):Int)):=ae;have aq:aI P aB 59 [.aA,Z [44,32]] (H.push (.row U 7 [[Z f.name,c,Y f.has,Z f.c4,I J f.rd,bv,I J f.pos]]))=D (Z (flat (fQ f.params)),H.push (.row U 7 [[Z f.name,c,Y f.has,Z f.c4,I J f.rd,bv,I J f.pos]])):=by
   rw[L];exact vI (ok:=λ_=>True) (l:=[]) (.inl ⟨rfl,rfl⟩) (Nat.zero_le _) (Nat.zero_le _)
  rw[m];simp-implicitDefEqProofs(disch:=try exact ak)only[nO,sA,reduceAdd,reduceLeDiff,reduceIte,az,y,decide_false];exact fin _ _ (.refl _) aq
 ·obtain⟨Q,i2,R,ao,S,rfl,u,G⟩:=K.row m;have M:fv.esz=4:=rfl;rw[M]at u;exact Gu (N:=1000) u ae (λj a h=>by obtain⟨cs,aq,aH⟩:=G j a h;rw[aq,show cs=a.cells from aH]) hw.p rfl fin f.params 0 1000 [] .aA _ rfl rfl ae (.refl _) (.inl ⟨rfl,rfl⟩)
def mw:pad 0=[]:=rfl
def CN:∀l:aC,bytesOf (fs l)=D l
 |[]=>rfl
 |c::l=>by
  have a:=CN l;unfold fs at a ⊢;rw[List.map_cons,bytesOf,a];simp[Go.bn.byteOf]
open Classical in
def UM{H:af}{p m:Nat}{acc:aC}(h:hh H p m acc)(d:acc.length<=100000000000000):∃H',aI P aB 32 [.ptr p 0 0] H=D (Z acc,H')/\H'.next=H.next/\∀l,l≠m->H'.get l=H.get l:=by
 obtain⟨-,-,a,b,c,-,j⟩:=h;rcases j with⟨rfl,rfl⟩|⟨i,rfl,n⟩
 ·refine⟨H,oI ?_,rfl,λ_ _=>rfl⟩;unfold aB;simp only[c]
 ·refine⟨H.set m .dead,oI ?_,by simp,λl d=>af.get_set_other (λe=>d e.symm)⟩;have aq:bytesOf (((fs acc).drop 0).take acc.length)=D acc:=by
   rw[List.drop_zero,List.take_of_length_le (by rw[np];omega)];exact CN acc
  have k:0<acc.length/\0+acc.length<=(fs acc).length/\True/\acc.length<=140737488355328/\((fs acc).drop 0).take acc.length=acc.map (λb=>[I .u8 b.toNat]):=⟨List.length_pos_iff.2 i,by rw[np];omega,trivial,ae,by rw[List.drop_zero,List.take_of_length_le (by rw[np];omega)];rfl⟩;unfold aB;simp only[c,n,aq];rw[if_pos k]
section
variable {N:Nat}{H0:af}{r L i n n0 p m0:Nat}{cap:Option Nat}{ro:Bool}{els:List (List aa)}{ok:Nat->Prop}{Q:aa->af->Prop}{acc:aC}
def GA(q:∀l,ok l->l<n0)(M:ok L)(ay:n<=100){all:List Fn}(aC:n=all.length)(hw:∀x∈all,ow x/\ec x.body<=1000000000)
  (O:∀m H,fL n0 p m H (acc++flat (cm (all.map .f)))->c5 p m0 H0 m H->W (pa (aI P aB) N (.ptr p 0 0) H) Q):∀(es:List Fn) (j k:Nat) (done:List Fn) (m:Nat) (H:af),all=done++es->done.length=j->es.length<k->H.get L=D (.row ro 7 els)->(∀(j:Nat) (a:Fn),all[j]? =D a->∃cs,els[i+j]? =D cs/\gg.V H ok a cs)->fL n0 p m H (acc++flat (cm (done.map .f)))->acc.length+(flat (cm (done.map .f))).length+2000000000*es.length<=400000000000->c5 p m0 H0 m H->
  W (nF (aI P aB) N k (.ptr p 0 0) (.aG L i n 7 cap) (I J n) (I J j) H) Q
 |_,_,0,_,_,_,_,_,E,_,_,_,_,_=>ae
 |[],j,k+1,done,m,H,e,z,E,A,F,c,R,w=>by
  rw[List.append_nil]at e;subst e;have B:¬((j:Int)<(n:Int)):=ae;simp-implicitDefEqProofs(disch:=try exact ak)only[nF,ss,reduceAdd,reduceLeDiff,reduceIte,az,B,decide_false];exact O m H c w
 |x::es,j,k+1,done,m,H,e,z,E,A,F,c,R,w=>by
  simp only[List.length_cons]at E R;have aZ:all.length=done.length+(es.length+1):=by rw[e,List.length_append,List.length_cons]
  have B:(j:Int)<(n:Int):=ae;have aE:((j:Int)).toNat=j:=ae;have av:(0:Int)<=(j:Int):=ae;have aQ:IntKind.i64.wrap ((j:Int)+1)=((j+1:Nat):Int):=by rw[wrap_i64 ae ae];omega
  have ag:all[j]? =D x:=by rw[e,List.getElem?_append_right ae,z,Nat.sub_self];rfl
  obtain⟨cs,bb,ad⟩:=F j x ag;obtain⟨aF,aK⟩:=hw x (List.mem_of_getElem? ag);have aJ:=ad;obtain⟨aj,bv,rfl,ar,S⟩:=ad;have bO:=ar.one;have b2:=S.eb;have a7:=fP aF.n;have a4:=vO x.params aF.p;have aY:=aF.l;have a5:(j3 x).length<=30:=by
   unfold j3;rcases aF.r with⟨y,aa⟩|⟨y,_⟩
   ·have:=ib aa;have:=aa.2.1;have:=kD x.c4 x.rd;rw[y,aS];simp only[List.length_append,List.length_cons,List.length_nil];omega
   ·rw[y];simp
  have a3:(kU x).length<=1000:=by unfold kU;simp only[List.length_append,List.length_cons,List.length_nil,od];omega
  have ax:kU x≠[]:=by unfold kU od;simp
  have u:=aU.push H (.row U 7 [[Z x.name,aj,Y x.has,Z x.c4,I J x.rd,bv,I J x.pos]]);have ap:=af.bY H (.row U 7 [[Z x.name,aj,Y x.has,Z x.c4,I J x.rd,bv,I J x.pos]]);have aw:=Of (gg.a1 (cK.aR u) aJ) aF;have aL:=c.aR u;have am:H.next≠p/\H.next≠m:=by have:=c.lm;have:=c.km.lt;omega
  obtain⟨d,a2,T⟩:=aF.b;simp-implicitDefEqProofs(disch:=try exact ak)only[nF,ss,reduceAdd,reduceLeDiff,reduceIte,az,B,decide_true,av,aE,A,bb,bO,b2];refine aW aw ?_;rintro _ G ⟨rfl,o⟩;refine⟨o.1,?_⟩;have K:=o.get ap;have aD:=AK G.next (kU x)
  simp-implicitDefEqProofs(disch:=try exact ak)only[bg,bG,aD];refine aW (hR (aL.aR o) (deep:=0) rfl [kU x] (by simpa using ax) (by simp) ae (by simp only[List.flatten_cons,List.flatten_nil,List.length_append,List.length_cons,List.length_nil];omega) rfl rfl rfl) ?_;rintro _ an ⟨aO,m4,aM,v⟩;refine⟨aO,?_⟩;have au:=v.get K am.1 am.2;have cY:=(S.aR (u.trans o)).a1 (v.a1 c.aF c.hm q).s;have a8:H.next≠m4:=by have:=v.1;have:=af.a6 K;omega
  simp-implicitDefEqProofs(disch:=try exact ak)only[reduceAdd,reduceLeDiff,reduceIte,az,au];refine aW (MB x.body d 1 T ae aK an ok bv _ n0 p m4 _ rfl cY q aM (by simp only[List.flatten_cons,List.flatten_nil,List.length_append,List.length_cons,List.length_nil,mw];omega)) ?_;rintro _ aX ⟨m5,aN,al⟩;refine⟨al.next,?_⟩;have a0:=tP (deep:=1) T ae;simp-implicitDefEqProofs(disch:=try exact ak)only[bg,bG];refine aW (hR aN (deep:=0) rfl [[125]] (by simp) (by simp) ae (by simp only[List.flatten_cons,List.flatten_nil,List.length_append,List.length_cons,List.length_nil,mw];omega) rfl rfl rfl) ?_;rintro _ ao ⟨aP,m6,ah,aT⟩
  refine⟨aP,?_⟩;simp-implicitDefEqProofs(disch:=try exact ak)only[bg,bG,c3,aQ];have aV:c5 p m H m G:=c5.aR (u.trans o);have wt:=((aV.trans v).trans al).trans aT;have ai:=wt.a1 c.aF c.hm q;have ab:acc++flat (cm (done.map .f))++(pad 0++([kU x].flatten++[10]))++flat (bH 1 x.body)++(pad 0++([[125]].flatten++[10]))=acc++flat (cm ((done++[x]).map .f)):=by
   rw[List.map_append,se,dw,List.map_cons,List.map_nil,Fj,cm,ds,mw];unfold kU;simp
  rw[ab]at ah;have hlen:(flat (cm ((done++[x]).map dV.f))).length<=(flat (cm (done.map dV.f))).length+2000000000:=by
   have:=congrArg List.length ab;simp only[List.length_append,List.flatten_cons,List.flatten_nil,List.length_cons,List.length_nil,mw]at this;omega
  exact GA q M ay aC hw O es (j+1) k (done++[x]) m6 ao (by rw[e,List.append_assoc];rfl) (by rw[List.length_append,z];rfl) ae (ai L _ M A).2 (λj a h=>by obtain⟨cs,aq,aH⟩:=F j a h;exact⟨cs,aq,gg.a1 ai aH⟩) ah ae (w.trans wt)
end
def Hs:∀a b:List bB,eN (a++b)=eN a++eN b
 |[],_=>rfl
 |x::a,b=>by rw[List.cons_append,eN,eN,Hs a b];simp
def P5(x:bB):flat (eN [x])=[32,32]++(flat (c6 x)++[59,10]):=by
 rw[eN,eN,yE,dw,di,qa,ds];rfl
section
variable {N:Nat}{H0:af}{r L i n n0 p m0:Nat}{cap:Option Nat}{ro:Bool}{els:List (List aa)}{ok:Nat->Prop}{Q:aa->af->Prop}{acc:aC}
def Fl(x:bB):flat (c6 x)=x.name++([58,32]++flat (cn x.b4 x.cy)):=by
 have:=Fk x [];rw[List.append_nil,ds,List.append_nil]at this;exact this
def GB(K:∀l,ok l->l<n0)(B:ok L)(V:n<=100){all:List bB}(aa:n=all.length)(hw:∀x∈all,fM x)(G:∀(j:Nat) (a:bB),all[j]? =D a->els[i+j]? =D a.cells)
  (E:∀m H,fL n0 p m H (acc++flat (cm (all.map .g)))->c5 p m0 H0 m H->W (o_ (aI P aB) N (.ptr r 0 0) (.ptr p 0 0) H) Q):∀(es:List bB) (j k:Nat) (done:List bB) (m:Nat) (H:af),all=done++es->done.length=j->es.length<k->H.get L=D (.row ro 4 els)->fL n0 p m H (acc++flat (cm (done.map .g)))->acc.length+(flat (cm (done.map .g))).length+1000*es.length<=100000000000->c5 p m0 H0 m H->
  W (nG (aI P aB) N k (.ptr r 0 0) (.ptr p 0 0) (.aG L i n 4 cap) (I J n) (I J j) H) Q
 |_,_,0,_,_,_,_,_,v,_,_,_,_=>ae
 |[],j,k+1,done,m,H,c,q,v,s,d,F,w=>by
  rw[List.append_nil]at c;subst c;have u:¬((j:Int)<(n:Int)):=ae;simp-implicitDefEqProofs(disch:=try exact ak)only[nG,su,reduceAdd,reduceLeDiff,reduceIte,az,u,decide_false];exact E m H d w
 |x::es,j,k+1,done,m,H,c,q,v,s,d,F,w=>by
  simp only[List.length_cons]at v F;have al:all.length=done.length+(es.length+1):=by rw[c,List.length_append,List.length_cons]
  have u:(j:Int)<(n:Int):=ae;have ab:((j:Int)).toNat=j:=ae;have T:(0:Int)<=(j:Int):=ae;have ah:IntKind.i64.wrap ((j:Int)+1)=((j+1:Nat):Int):=by rw[wrap_i64 ae ae];omega
  have O:all[j]? =D x:=by rw[c,List.getElem?_append_right ae,q,Nat.sub_self];rfl
  have bb:=G j x O;have aF:=hw x (List.mem_of_getElem? O);have ao:=fP aF.n;have am:=ib aF.o;have ap:=aF.o.2.1;have an:=kD x.b4 x.cy;have y:=aU.push H (.row U 4 [x.cells]);have h:=af.bY H (.row U 4 [x.cells]);simp only[bB.cells]at bb y h;simp-implicitDefEqProofs(disch:=try exact ak)only[nG,su,reduceAdd,reduceLeDiff,reduceIte,az,u,decide_true,T,ab,s,bb];refine aW (type20 (x:=x.b4) (z:=x.cy) aF.o.1 aF.o.2.1 ae) ?_;rintro _ aj ⟨rfl,e⟩;refine⟨e.1,?_⟩;have A:=e.get h;simp-implicitDefEqProofs(disch:=try exact ak)only[reduceAdd,reduceLeDiff,reduceIte,az,A,Jd];refine aW (hR (d.aR (y.trans e)) (deep:=0) rfl [[103,108,111,98,97,108,32],x.name,[58,32],flat (cn x.b4 x.cy),[59]] (by simp) (by simp) ae (by simp only[List.flatten_cons,List.flatten_nil,List.length_append,List.length_cons,List.length_nil];omega) rfl rfl rfl) ?_
  rintro _ S ⟨ag,m4,R,ai⟩;refine⟨ag,?_⟩;simp-implicitDefEqProofs(disch:=try exact ak)only[reduceAdd,reduceLeDiff,reduceIte,az,h,A,ah];have wt:=(c5.aR (p:=p) (m:=m) (y.trans e)).trans ai;have ad:=wt.a1 d.aF d.hm K;have M:acc++flat (cm (done.map .g))++(pad 0++([[103,108,111,98,97,108,32],x.name,[58,32],flat (cn x.b4 x.cy),[59]].flatten++[10]))=acc++flat (cm ((done++[x]).map .g)):=by
   rw[List.map_append,se,dw,List.map_cons,List.map_nil,NM,cm,ds,mw,Fl];simp[s3]
  rw[M]at R;have hlen:(flat (cm ((done++[x]).map dV.g))).length<=(flat (cm (done.map dV.g))).length+1000:=by
   have:=congrArg List.length M;simp only[List.length_append,List.flatten_cons,List.flatten_nil,List.length_cons,List.length_nil,mw]at this;omega
  exact GB K B V aa hw G E es (j+1) k (done++[x]) m4 S (by rw[c,List.append_assoc];rfl) (by rw[List.length_append,q];rfl) ae (ad L _ B s).2 R ae (w.trans wt)
def Gz{A:aa->aa->aa->aa->aa->af->O}{V bR ab:aa}(M:∀l,ok l->l<n0)(E:ok L)(ah:n<=100){all:List bB}(ai:n=all.length)(hw:∀x∈all,fM x)(K:∀(j:Nat) (a:bB),all[j]? =D a->els[i+j]? =D a.cells)
  (F:∀m H,fL n0 p m H (acc++flat (eN all))->c5 p m0 H0 m H->W (pb (aI P aB) N A (.ptr r 0 0) (.ptr p 0 0) V bR ab H) Q):∀(es:List bB) (j k:Nat) (done:List bB) (m:Nat) (H:af),all=done++es->done.length=j->es.length<k->H.get L=D (.row ro 4 els)->fL n0 p m H (acc++flat (eN done))->acc.length+(flat (eN done)).length+1000*es.length<=100000000000->c5 p m0 H0 m H->
  W (nH (aI P aB) N A k (.ptr r 0 0) (.ptr p 0 0) V bR ab (.aG L i n 4 cap) (I J n) (I J j) H) Q
 |_,_,0,_,_,_,_,_,v,_,_,_,_=>ae
 |[],j,k+1,done,m,H,c,q,v,s,d,G,w=>by
  rw[List.append_nil]at c;subst c;have u:¬((j:Int)<(n:Int)):=ae;simp-implicitDefEqProofs(disch:=try exact ak)only[nH,sw,reduceAdd,reduceLeDiff,reduceIte,az,u,decide_false];exact F m H d w
 |x::es,j,k+1,done,m,H,c,q,v,s,d,G,w=>by
  simp only[List.length_cons]at v G;have aq:all.length=done.length+(es.length+1):=by rw[c,List.length_append,List.length_cons]
  have u:(j:Int)<(n:Int):=ae;have aj:((j:Int)).toNat=j:=ae;have ag:(0:Int)<=(j:Int):=ae;have an:IntKind.i64.wrap ((j:Int)+1)=((j+1:Nat):Int):=by rw[wrap_i64 ae ae];omega
  have S:all[j]? =D x:=by rw[c,List.getElem?_append_right ae,q,Nat.sub_self];rfl
  have bb:=K j x S;have aF:=hw x (List.mem_of_getElem? S);have aw:=fP aF.n;have ar:=ib aF.o;have ax:=aF.o.2.1;have au:=kD x.b4 x.cy;have y:=aU.push H (.row U 4 [x.cells]);have h:=af.bY H (.row U 4 [x.cells]);simp only[bB.cells]at bb y h;simp-implicitDefEqProofs(disch:=try exact ak)only[nH,sw,reduceAdd,reduceLeDiff,reduceIte,az,u,decide_true,ag,aj,s,bb];refine aW (type20 (x:=x.b4) (z:=x.cy) aF.o.1 aF.o.2.1 ae) ?_;rintro _ ap ⟨rfl,e⟩;refine⟨e.1,?_⟩;have B:=e.get h;simp-implicitDefEqProofs(disch:=try exact ak)only[reduceAdd,reduceLeDiff,reduceIte,az,B,AJ];refine aW (hR (d.aR (y.trans e)) (deep:=1) rfl [x.name,[58,32],flat (cn x.b4 x.cy),[59]] (by simp) (by simp) ae (by simp only[List.flatten_cons,List.flatten_nil,List.length_append,List.length_cons,List.length_nil];omega) rfl rfl rfl) ?_
  rintro _ ad ⟨am,m4,T,ao⟩;refine⟨am,?_⟩;simp-implicitDefEqProofs(disch:=try exact ak)only[reduceAdd,reduceLeDiff,reduceIte,az,h,B,an];have wt:=(c5.aR (p:=p) (m:=m) (y.trans e)).trans ao;have al:=wt.a1 d.aF d.hm M;have R:acc++flat (eN done)++(pad 1++([x.name,[58,32],flat (cn x.b4 x.cy),[59]].flatten++[10]))=acc++flat (eN (done++[x])):=by
   rw[Hs,dw,P5,Fl,show pad 1=[32,32]from rfl];simp
  rw[R]at T;have hlen:(flat (eN (done++[x]))).length<=(flat (eN done)).length+1000:=by
   have:=congrArg List.length R;have av:=jl 1;simp only[List.length_append,List.flatten_cons,List.flatten_nil,List.length_cons,List.length_nil]at this;omega
  exact Gz M E ah ai hw K F es (j+1) k (done++[x]) m4 ad (by rw[c,List.append_assoc];rfl) (by rw[List.length_append,q];rfl) ae (al L _ E s).2 T ae (w.trans wt)
