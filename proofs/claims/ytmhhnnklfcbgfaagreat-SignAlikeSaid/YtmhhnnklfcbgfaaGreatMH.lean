/-
  Texts of one proof, laid together: Nb Nc Nd Ne.
-/
import Derived.Test.YtmhhnnklfcbgfaaGreatMF
import Derived.Test.YtmhhnnklfcbgfaaGreatMG
set_option linter.unusedVariables false
set_option linter.unusedSimpArgs false
set_option linter.defProp false
open Option renaming some→D,none→I
open Bool renaming true→C,false→Z
open Go.bo.aa renaming int→J,bool→y
open Go.IntKind renaming i64→X
namespace Go.Proofs.YtmhhnnklfcbgfaaGreat
open Go.bo
section
open Go.bp
section
variable {H:ad}{ok:Nat->Prop}
def hH(t:cz)(l:Nat):b0 l (cX t)=D (.ptr l 0 0,.row Z 3 [b7 t]):=nV l _ rfl
def ia:W (aC P ax 104 [] H) λr H'=>r=cX cN/\ay H H':=by
 refine bZ (λ_=>Tv 0) ?_;simp-implicitDefEqProofs(disch:=try exact al)only[xk,Nat.reduceAdd,bM];exact aK.2 ⟨rfl,(ay.refl _).dK _⟩
def lE:W (aC P ax 105 [] H) λr H'=>r=cX dI/\ay H H':=by
 refine bZ (λ_=>Tw 0) ?_;simp-implicitDefEqProofs(disch:=try exact al)only[xl,Nat.reduceAdd,bM];exact aK.2 ⟨rfl,(ay.refl _).dK _⟩
def AN(t:cz):W (aC P ax 50 [cX t] H) λr H'=>r= y (h8 t)/\ay H H':=by
 refine bZ (λ_=>UU 0) ?_;simp-implicitDefEqProofs(disch:=try exact al)only[xZ,hH,b7,bM];cases a:(t.b==3)with
 |true=>
  simp-implicitDefEqProofs(disch:=try exact al)only[bM];exact aK.2 ⟨by simp[h8,a],(ay.refl _).dK _⟩
 |false=>
  simp-implicitDefEqProofs(disch:=try exact al)only[bM];exact aK.2 ⟨by simp[h8,a],(ay.refl _).dK _⟩
def E5(t:cz)(a:0<t.d)(ae:t.d<=1000):W (aC P ax 108 [cX t] H) λr H'=>r=cX (less t)/\ay H H':=by
 refine bZ (λ_=>Tz 0) ?_;simp-implicitDefEqProofs(disch:=try exact al)only[xn,hH,b7,Nat.reduceAdd,bM,wrap_i64 (show 0<=t.d-1 by omega) ai];exact aK.2 ⟨rfl,((ay.refl _).dK _).dK _⟩
def dZ{x:bQ}{a b c d:aa}(ae:aZ kb H ok x.b1 a)(ah:aZ ei H ok x.globals b)(ak:aZ fr H ok x.o c)(au:aZ kc H ok x.sites d)(m:Int)(l:Nat):b0 l (.agg [a,b,c,d,J X m])=D (.ptr l 0 0,.row Z 5 [[a,b,c,d,J X m]]):=
 nV l _ (by have e:=ae.one;have f:=ah.one;have g:=ak.one;have h:=au.one;simp[e,f,g,h];rfl)
def za{c:b3}{v w:aa}(ae:aZ ei H ok c.vars v)(ah:aZ e7 H ok c.ins w)(p b r d:Int)(z:Bool)(l:Nat):b0 l (.agg [J X p,v,y z,J X b,J X r,J X d,w])=D (.ptr l 0 0,.row Z 7 [[J X p,v,y z,J X b,J X r,J X d,w]]):=
 nV l _ (by have a:=ae.one;have e:=ah.one;simp[a,e];exact⟨rfl,rfl,rfl,rfl,rfl⟩)
def wQ{x:bQ}{v:aa}(aD:c2 H ok x v)(t:cz):W (aC P ax 49 [v,cX t] H) λr H'=>r= y (dB x.b1.length t)/\ay H H':=by
 obtain⟨_,rfl,a,b,c,d,rfl,ae,ah,ak,au⟩:=aD;refine bZ (λ_=>UT 0) ?_;have e:ay H ((H.push (.row Z 5 [[a,b,c,d,J X x.main]])).push (.row Z 3 [[J X t.b,J X t.r,J X t.d]])):=((ay.refl _).dK _).dK _;simp-implicitDefEqProofs(disch:=try exact al)only[xY,hH,b7,dZ ae ah ak au,bM];unfold dB;by_cases f:t.d<0
 ·simp-implicitDefEqProofs(disch:=try exact al)only[bM,f,decide_true];exact aK.2 ⟨by simp[show¬0<=t.d by omega],e⟩
 ·by_cases g:3<t.d
  ·simp-implicitDefEqProofs(disch:=try exact al)only[bM,f,g,decide_true,decide_false];exact aK.2 ⟨by simp[show¬t.d<=3 by omega],e⟩
  ·simp-implicitDefEqProofs(disch:=try exact al)only[bM,f,g,decide_false];have i:decide (0<=t.d/\t.d<=3)=true:=by simp;omega
   rw[i];cases j:(t.b==1)with
   |true=>
    simp-implicitDefEqProofs(disch:=try exact al)only[ni,bM];exact aK.2 ⟨by simp,e⟩
   |false=>
    simp-implicitDefEqProofs(disch:=try exact al)only[bM];cases k:(t.b==2)with
    |true=>
     simp-implicitDefEqProofs(disch:=try exact al)only[ni,bM];exact aK.2 ⟨by simp,e⟩
    |false=>
     simp-implicitDefEqProofs(disch:=try exact al)only[ni,bM];cases l:(t.b==3)with
     |true=>
      by_cases h:0<=t.r
      ·simp-implicitDefEqProofs(disch:=try exact al)only[bM,h,decide_true,ae.len en];exact aK.2 ⟨by simp,e⟩
      ·simp-implicitDefEqProofs(disch:=try exact al)only[bM,h,decide_false];exact aK.2 ⟨by simp,e⟩
     |false=>
      simp-implicitDefEqProofs(disch:=try exact al)only[o7,bM];exact aK.2 ⟨by simp,e⟩
def I2{x:bQ}{l:List cz}{v:aa}{cs:List aa}{L:Nat}(o:l.length<=1000000000){N:Nat}:∀(j k m:Nat) (H:ad),k+j=l.length->j<m->aZ ei H ok l v->H.get L=D (.row Z 5 [cs])->si H ok x cs->W (nh (aC P ax) N m v (.ptr L 0 0) (J X k) H) λr H'=>r= y ((l.drop k).all (dB x.b1.length))/\ay H H'
 |_,_,0,_,_,hm,_,_,_=>ai
 |0,k,m+1,H,q,_,az,f,aD=>by
  have g:¬(k:Int)<(l.length:Int):=ai;simp-implicitDefEqProofs(disch:=try exact al)only[rG,uY,nh,bM,az.len dh,g,decide_false];refine aK.2 ⟨?_,ay.refl _⟩;rw[List.drop_of_length_le ai];rfl
 |j+1,k,m+1,H,q,hm,az,f,aD=>by
  have g:(k:Int)<(l.length:Int):=ai;have h:k<l.length:=ai;obtain⟨p,A,t,u,rfl⟩:=az.agg (K:=ei) dh r_ (j:=(k:Int)) (a:=l[k]) ai (by simp[h]);have w:aj P H 27 (.ptr L 0 0)=D (.agg cs):=by
   obtain⟨a,b,c,d,rfl,_⟩:=aD;exact fY (n:=5) (i:=0) (c:=0) ag ag f rfl b_
  simp-implicitDefEqProofs(disch:=try exact al)only[uY,nh,aq,aG,bf,az.len dh,g,decide_true,t,u,w];refine bk (wQ ⟨cs,rfl,aD⟩ l[k]) ?_;rintro _ H' ⟨rfl,e⟩;refine⟨e.1,?_⟩;rw[List.drop_eq_getElem_cons h,List.all_cons];cases B:dB x.b1.length l[k]with
  |false=>
   simp-implicitDefEqProofs(disch:=try exact al)only[aq,Bool.not_false];exact aK.2 ⟨by simp,e⟩
  |true=>
   simp-implicitDefEqProofs(disch:=try exact al)only[aq,aG,Bool.not_true,c3 (show k<=1000000000 by omega)];refine(I2 o j (k+1) m H' ai ai (az.aI e) (e.get f) (aD.keep (.aI e))).mono ?_;rintro r z ⟨rfl,s⟩;exact⟨by simp,e.trans s⟩
def I3{x:bQ}{l:List cz}{v w:aa}(aD:c2 H ok x v)(az:aZ ei H ok l w)(f:l.length<=1000000000):W (aC P ax 48 [v,w] H) λr H'=>r= y (l.all (dB x.b1.length))/\ay H H':=by
 obtain⟨cs,rfl,aD⟩:=aD;refine bZ (λ_=>US (l.length+1)) ?_;have g:∀n,b0 n (.agg cs)=D (.ptr n 0 0,.row Z 5 [cs]):=λn=>by
  obtain⟨a,b,c,d,rfl,ae,ah,ak,au⟩:=aD;exact dZ ae ah ak au _ _
 simp-implicitDefEqProofs(disch:=try exact al)only[xX,aq,g];have e:=ay.push H (.row Z 5 [cs]);refine(I2 f l.length 0 (l.length+1) _ ai ai (az.aI e) (ad.bq _ _) (aD.keep (.aI e))).mono ?_;rintro r i ⟨rfl,h⟩;exact⟨by simp,e.trans h⟩
end
end
section
open Go.bp
section
variable {H:ad}{ok:Nat->Prop}
def yq{H:ad}{t u:cz}{L:Nat}(h:H.get L=D (.row Z 3 [b7 t])):bA P H 46 (.ptr L 0 0) (cX u)=D (H.set L (.row Z 3 [b7 u])):=by
 rw[fN (n:=3) ag h rfl rfl rfl b_];rfl
def s5{c:b3}{v:aa}(aA:BT H ok c v)(i:Int)(x:c.vars.length<=1000000000):W (aC P ax 103 [v,J X i] H) λr H'=>r=cX (a1 c i)/\ay H H':=by
 obtain⟨_,rfl,p,w,rfl,ae,ah⟩:=aA;refine bZ (λ_=>Tu 0) ?_;have h:=za ae ah c.params c.res.b c.res.r c.res.d c.has;have m:=((ay.refl H).dK (.row Z 7 [[J X c.params,p,y c.has,J X c.res.b,J X c.res.r,J X c.res.d,w]])).dK (.row Z 3 [b7 bt]);by_cases f:i<0
 ·simp-implicitDefEqProofs(disch:=try exact al)only[qi,Nat.reduceAdd,bM,h,f,decide_true];refine aK.2 ⟨?_,m⟩;rw[a1,eL.2 (.inl f)];rfl
 ·by_cases az:(c.vars.length:Int)<=i
  ·simp-implicitDefEqProofs(disch:=try exact al)only[qi,Nat.reduceAdd,bM,h,f,az,ae.len dh,decide_true,decide_false];refine aK.2 ⟨?_,m⟩;rw[a1,eL.2 (.inr az)];rfl
  ·have l:i.toNat<c.vars.length:=ai;obtain⟨L,k,ro,els,q,o,_,g,e,rfl⟩:=ae.at_ (K:=ei) dh (j:=i) (a:=c.vars[i.toNat]) ai (by simp[l]);have s:=ad.b6 g;have n:H.get L=D (.row ro 3 els):=g;have t:L≠H.next:=ai
   have u:L≠H.next+1:=ai
   rw[b7]at e;simp-implicitDefEqProofs(disch:=try exact al)only[qi,Nat.reduceAdd,bM,h,f,az,ae.len dh,o,n,e,decide_false];refine aK.2 ⟨?_,((ay.refl H).dK _).dK _⟩;rw[a1,hj ai,List.getElem?_eq_getElem l];rfl
def DN{x:bQ}{v:aa}(aD:c2 H ok x v)(t:cz)(k:Int):W (aC P ax 107 [v,cX t,J X k] H) λr H'=>r=cX (dW x t k)/\ay H H':=by
 obtain⟨_,rfl,a,b,c,d,rfl,ae,ah,ak,au⟩:=aD;refine bZ (λ_=>Ty 0) ?_;have l:=dZ ae ah ak au x.main;have i:=hH t;rw[b7]at i;have p:=(((ay.refl H).dK (.row Z 5 [[a,b,c,d,J X x.main]])).dK (.row Z 3 [[J X t.b,J X t.r,J X t.d]])).dK (.row Z 3 [b7 bt]);have aS:∀(o:Option cz),o=I->(o.getD bt)=bt:=λo h=>by rw[h];rfl
 cases z:(t.b==3)with
 |false=>
  have f:(t.b != 3)=true:=by simpa using z
  simp-implicitDefEqProofs(disch:=try exact al)only[kv,Nat.reduceAdd,bM,l,i,f];refine aK.2 ⟨?_,p⟩;have:¬t.b=3:=by simpa using z
  rw[dW,j0,if_neg (λh=>this h.1)];rfl
 |true=>
  have f:(t.b != 3)=false:=by simpa using z
  cases A:(t.d==0)with
  |false=>
   have m:(t.d != 0)=true:=by simpa using A
   simp-implicitDefEqProofs(disch:=try exact al)only[kv,Nat.reduceAdd,bM,l,i,f,m];refine aK.2 ⟨?_,p⟩;have:¬t.d=0:=by simpa using A
   rw[dW,j0,if_neg (λh=>this h.2)];rfl
  |true=>
   have m:(t.d != 0)=false:=by simpa using A
   have u:j0 x t=dE x.b1 t.r:=by rw[j0,if_pos ⟨by simpa using z,by simpa using A⟩]
   by_cases q:t.r<0
   ·simp-implicitDefEqProofs(disch:=try exact al)only[kv,Nat.reduceAdd,bM,l,i,f,m,q,decide_true];refine aK.2 ⟨?_,p⟩;rw[dW,u,eL.2 (.inl q)];rfl
   ·by_cases w:(x.b1.length:Int)<=t.r
    ·simp-implicitDefEqProofs(disch:=try exact al)only[kv,Nat.reduceAdd,bM,l,i,f,m,q,w,ae.len en,decide_true,decide_false];refine aK.2 ⟨?_,p⟩;rw[dW,u,eL.2 (.inr w)];rfl
    ·have R:t.r.toNat<x.b1.length:=ai;have E:dE x.b1 t.r=D x.b1[t.r.toNat]:=by rw[hj ai];simp[R]
     obtain⟨L,n,ro,els,Y,Q,_,g,e,s,fv,rfl,aN⟩:=ae.at_ (K:=kb) en (j:=t.r) (a:=x.b1[t.r.toNat]) ai (by simp[R]);have af:=ad.b6 g;have M:H.get L=D (.row ro 2 els):=g;have ag:L≠H.next:=ai
     have aj:L≠H.next+1:=ai
     have am:L≠H.next+1+1:=ai
     by_cases B:k<0
     ·simp-implicitDefEqProofs(disch:=try exact al)only[kv,Nat.reduceAdd,bM,l,i,f,m,q,w,ae.len en,B,decide_true,decide_false];refine aK.2 ⟨?_,p⟩;rw[dW,u,E,Option.bind_some,eL.2 (.inl B)];rfl
     ·by_cases b8:(x.b1[t.r.toNat].length:Int)<=k
      ·simp-implicitDefEqProofs(disch:=try exact al)only[kv,Nat.reduceAdd,bM,l,i,f,m,q,w,ae.len en,B,b8,Q,M,e,aN.len hs,decide_true,decide_false];refine aK.2 ⟨?_,p⟩;rw[dW,u,E,Option.bind_some,eL.2 (.inr b8)];rfl
      ·have O:k.toNat<x.b1[t.r.toNat].length:=ai;obtain⟨L',ar,V,S,ab,U,_,N,G,s2,rfl⟩:=aN.at_ (K:=js) hs (j:=k) (a:=x.b1[t.r.toNat][k.toNat]) ai (by simp[O]);have an:=ad.b6 N;have T:H.get L'=D (.row V 4 S):=N;have ao:L'≠H.next:=ai
       have ap:L'≠H.next+1:=ai
       have aq:L'≠H.next+1+1:=ai
       rw[b7]at G;simp-implicitDefEqProofs(disch:=try exact al)only[kv,Nat.reduceAdd,bM,l,i,f,m,q,w,ae.len en,B,b8,Q,M,e,aN.len hs,U,T,G,decide_false];refine aK.2 ⟨?_,(((ay.refl H).dK _).dK _).dK _⟩;rw[dW,u,E,Option.bind_some,hj ai,List.getElem?_eq_getElem O];rfl
end
end
section
open Go.bp
section
variable {H:ad}{ok:Nat->Prop}
def Cb{x:bQ}{v:aa}(aD:c2 H ok x v)(f:Nat)(s:Int)(t:cz):W (aC P ax 109 [v,J X f,J X s,cX t] H) λr H'=>r= y (gO x f s t)/\ay H H':=by
 obtain⟨_,rfl,a,b,c,d,rfl,ae,ah,ak,au⟩:=aD;refine bZ (λ_=>TA 0) ?_;have k:=dZ ae ah ak au x.main;have h:=hH t;rw[b7]at h;have l:=(((ay.refl H).dK (.row Z 5 [[a,b,c,d,J X x.main]])).dK (.row Z 3 [[J X t.b,J X t.r,J X t.d]]));by_cases i:0<=s
 ·by_cases m:s<(x.sites.length:Int)
  ·have p:s.toNat<x.sites.length:=ai;have q:dE x.sites s=D x.sites[s.toNat]:=by rw[hj i];simp[p]
   obtain⟨L,n,ro,els,w,u,_,g,e,rfl⟩:=au.at_ (K:=kc) e4 (j:=s) (a:=x.sites[s.toNat]) ai (by simp[p]);have A:=ad.b6 g;have o:H.get L=D (.row ro 4 els):=g;have B:L≠H.next:=ai
   have E:L≠H.next+1:=ai
   rw[b7]at e;have he:∀z,ar P .eql 46 z (.agg [J X x.sites[s.toNat].ty.b,J X x.sites[s.toNat].ty.r,J X x.sites[s.toNat].ty.d]) (.agg [J X t.b,J X t.r,J X t.d])=D (y (decide (x.sites[s.toNat].ty=t))):=di _ t;cases aN:(x.sites[s.toNat].f==(f:Int))with
   |true=>
    simp-implicitDefEqProofs(disch:=try exact al)only[oy,Nat.reduceAdd,bM,k,h,i,m,au.len e4,u,o,e,aN,he,decide_true];exact aK.2 ⟨by rw[gO,q];simp[aN],l⟩
   |false=>
    simp-implicitDefEqProofs(disch:=try exact al)only[oy,bM,k,h,i,m,au.len e4,u,o,e,aN,decide_true];exact aK.2 ⟨by rw[gO,q];simp[aN],l⟩
  ·simp-implicitDefEqProofs(disch:=try exact al)only[oy,bM,k,h,i,m,au.len e4,decide_true,decide_false];exact aK.2 ⟨by rw[gO,eL.2 (.inr ai)],l⟩
 ·simp-implicitDefEqProofs(disch:=try exact al)only[oy,bM,k,h,i,decide_false];exact aK.2 ⟨by rw[gO,eL.2 (.inl ai)],l⟩
def vG{i:In}{v:aa}(h:aZ bu H ok i.args v)(a b c d e:Int)(l:Nat):b0 l (.agg [J X a,J X b,J X c,J X d,J X e,v])=D (.ptr l 0 0,.row Z 6 [[J X a,J X b,J X c,J X d,J X e,v]]):=
 nV l _ (by have f:=h.one;simp[f];exact⟨rfl,rfl,rfl,rfl,rfl⟩)
def Jw(i:In)(b c n g:Bool):Bool:=(b||i.b==0)&&((c||i.c==0)&&((n||i.n==0)&&(g||i.args.length==0)))
def yy(a b:Bool):a=C\/(a=Z/\b=C)\/(a=Z/\b=Z):=by cases a<;>cases b<;>simp
def Qp{i:In}{v:aa}{L:Nat}(d:aZ bu H ok i.args v)(g:H.get L=D (.row Z 6 [[J X i.op,J X i.a,J X i.b,J X i.c,J X i.n,v]]))(b c n a:Bool):
  fL (aC P ax) (.ptr L 0 0) (y b) (y c) (y n) (y a) H=D (y (Jw i b c n a),H):=by
 have az:(i.args.length==0)=((i.args.length:Int)==0):=by
  cases h:(i.args.length==0)<;>simp_all
 have e:=λH0=>d.len cU (H0:=H0)
 unfold Jw;rw[az];clear az d;rcases yy b (i.b==0)with rfl|⟨rfl,ae⟩|⟨rfl,ae⟩<;>rcases yy c (i.c==0)with rfl|⟨rfl,ah⟩|⟨rfl,ah⟩<;>rcases yy n (i.n==0)with rfl|⟨rfl,ak⟩|⟨rfl,ak⟩<;>rcases yy a ((i.args.length:Int)==0)with rfl|⟨rfl,au⟩|⟨rfl,au⟩<;>
  simp-implicitDefEqProofs(disch:=try exact al)only[fL,bM, *]<;>rfl
def Qq{i:In}{v:aa}(k:vr H ok i v):W (aC P ax 102 [v] H) λr H'=>r= y (named i)/\ay H H':=by
 obtain⟨_,rfl,w,rfl,e⟩:=k;refine bZ (λ_=>Tt 0) ?_;have d:=vG e;have g:=ay.push H (.row Z 6 [[J X i.op,J X i.a,J X i.b,J X i.c,J X i.n,w]]);have f:=λb c n a=>Qp (e.aI g) (ad.bq H (.row Z 6 [[J X i.op,J X i.a,J X i.b,J X i.c,J X i.n,w]])) b c n a
 have l:=λH0=>e.len cU (H0:=H0)
 have fin:∀{a b:Bool},a=b->W (D (aa.bool a,H.push (.row Z 6 [[J X i.op,J X i.a,J X i.b,J X i.c,J X i.n,w]]))) λr H'=>r= y b/\ay H H':=λh=>aK.2 ⟨by rw[h],g⟩
 unfold named;simp only[];split
 case h_16 heq=>
  have t:∀j:Int,(i.op==j)=((16:Int)==j):=λj=>by rw[heq]
  have az:(i.args.length==0)=((i.args.length:Int)==0):=by
   cases h:(i.args.length==0)<;>simp_all
  rw[az];rcases Bool.eq_false_or_eq_true (i.a==0)with ae|ae<;>rcases Bool.eq_false_or_eq_true (i.b==0)with ah|ah<;>rcases Bool.eq_false_or_eq_true (i.c==0)with ak|ak<;>rcases Bool.eq_false_or_eq_true ((i.args.length:Int)==0)with au|au<;>
   simp-implicitDefEqProofs(disch:=try exact al)only[kt,mi,mh,ks,qh,bM,d,l,t,Int.reduceBEq,ae,ah,ak,au]<;>exact fin rfl
 case h_17 x1 x2 s x4 x5 x6 x7 x8 u x10 x11 x12 m o p q=>
  have x:(i.op==1)=false:=beq_eq_false_iff_ne.2 x1;have M:(i.op==11)=false:=beq_eq_false_iff_ne.2 x2;have N:(i.op==19)=false:=beq_eq_false_iff_ne.2 s;have O:(i.op==20)=false:=beq_eq_false_iff_ne.2 x4;have Q:(i.op==3)=false:=beq_eq_false_iff_ne.2 x5;have R:(i.op==10)=false:=beq_eq_false_iff_ne.2 x6;have S:(i.op==4)=false:=beq_eq_false_iff_ne.2 x7;have T:(i.op==5)=false:=beq_eq_false_iff_ne.2 x8;have U:(i.op==12)=false:=beq_eq_false_iff_ne.2 u;have z:(i.op==6)=false:=beq_eq_false_iff_ne.2 x10;have A:(i.op==7)=false:=beq_eq_false_iff_ne.2 x11;have B:(i.op==8)=false:=beq_eq_false_iff_ne.2 x12;have E:(i.op==9)=false:=beq_eq_false_iff_ne.2 m
  have G:(i.op==13)=false:=beq_eq_false_iff_ne.2 o;have K:(i.op==17)=false:=beq_eq_false_iff_ne.2 p;have L:(i.op==16)=false:=beq_eq_false_iff_ne.2 q;simp-implicitDefEqProofs(disch:=try exact al)only[kt,mi,mh,ks,qh,bM,d,f,x,M,N,O,Q,R,S,T,U,z,A,B,E,G,K,L];exact fin rfl
 all_goals
  rename_i heq;have t:∀j:Int,(i.op==j)=(_==j):=λj=>by rw[heq]
  simp-implicitDefEqProofs(disch:=try exact al)only[kt,mi,mh,ks,qh,bM,d,f,t,Int.reduceBEq];exact fin rfl
def a_{H:ad}{t:cz}{L:Nat}(h:H.get L=D (.row Z 3 [b7 t])):aj P H 46 (.ptr L 0 0)=D (cX t):=
 fY (n:=3) (i:=0) (c:=0) ag ag h rfl b_
def br(t:cz):aV (D (cX t)) (cX t)=true:=by simp[aV,cX,b7,aa.beq,eE.beq]
def cY{a:List Nat}{T:List fa}{H:ad}:∀{S:List fa},(∀H'∈cw T H,ay H H')->(∀t∈S,∀v,t.k= .read v->∀H',ay H H'->aV (t.rd H') v=C)->pj a T H S
 |[],_,_=>trivial
 |t::ts,ae,ah=>⟨λv c=> .inr λH' hm=>ah t (by simp) v c H' (ae H' hm),cY ae λd b=>ah d (by simp[b])⟩
def sw{A B zD:Nat}{a b d:cz}(g:H.get A=D (.row Z 3 [b7 a]))(i:H.get B=D (.row Z 3 [b7 b]))(m:H.get zD=D (.row Z 3 [b7 d]))(op:Int):
  W (g7 (aC P ax) (.ptr A 0 0) (.ptr B 0 0) (.ptr zD 0 0) (J X op) (y C) H) λr H'=>r= y (decide (a=cN/\b=cN/\d=cN))/\ay H H':=by
 simp-implicitDefEqProofs(disch:=try exact al)only[g7,aq];refine bk ia ?_;rintro _ ae ⟨rfl,e⟩;refine⟨e.1,?_⟩;by_cases k:a=cN
 ·subst k;simp-implicitDefEqProofs(disch:=try exact al)only[aq,a_ (e.get g),di,decide_true,c1];refine cE ia ?_;rintro _ ah ⟨rfl,n⟩;refine⟨n.1,?_⟩;have f:=e.trans n;by_cases l:b=cN
  ·subst l;simp-implicitDefEqProofs(disch:=try exact al)only[aq,a_ (f.get i),di,decide_true,c1];refine cE ia ?_;rintro _ ak ⟨rfl,o⟩;refine⟨o.1,?_⟩;have j:=f.trans o;simp-implicitDefEqProofs(disch:=try exact al)only[aq,a_ (j.get m),di,c1];refine cI (cJ ag ?_) (aK.2 ⟨by simp,j⟩);refine cY ?_ ?_
   ·simp only[cw,K.heap,List.forall_mem_cons]
    repeat' first|exact ay.refl _|exact e|exact f|exact j|(intro _ h;cases h;done)|refine aL ?_ ?_
   ·simp only[List.forall_mem_cons]
    repeat' first|(intro v c;cases c;done)|(intro v c;cases c;intro H' p;simp only[a_ (p.get g),br];done)|(intro v c;cases c;intro H' p;simp only[a_ (p.get i),br];done)|(intro v c;cases c;intro H' p;simp only[a_ (p.get m),br];done)|(intro _ h;cases h;done)|refine aL ?_ ?_
  ·simp-implicitDefEqProofs(disch:=try exact al)only[aq,a_ (f.get i),di,l,decide_false,c1,dQ];refine cI (cJ ag ?_) (aK.2 ⟨by simp[],f⟩);refine cY ?_ ?_
   ·simp only[cw,K.heap,List.forall_mem_cons]
    repeat' first|exact ay.refl _|exact e|exact f|(intro _ h;cases h;done)|refine aL ?_ ?_
   ·simp only[List.forall_mem_cons]
    repeat' first|(intro v c;cases c;done)|(intro v c;cases c;intro H' p;simp only[a_ (p.get g),br];done)|(intro v c;cases c;intro H' p;simp only[a_ (p.get i),br];done)|(intro _ h;cases h;done)|refine aL ?_ ?_
 ·simp-implicitDefEqProofs(disch:=try exact al)only[aq,a_ (e.get g),di,k,decide_false,dQ];refine cI (cJ ag ?_) (aK.2 ⟨by simp[],e⟩);refine cY ?_ ?_
  ·simp only[cw,K.heap,List.forall_mem_cons]
   repeat' first|exact ay.refl _|exact e|(intro _ h;cases h;done)|refine aL ?_ ?_
  ·simp only[List.forall_mem_cons]
   repeat' first|(intro v c;cases c;done)|(intro v c;cases c;intro H' p;simp only[a_ (p.get g),br];done)|(intro _ h;cases h;done)|refine aL ?_ ?_
def CM{A B zD:Nat}{a b d:cz}(g:H.get A=D (.row Z 3 [b7 a]))(i:H.get B=D (.row Z 3 [b7 b]))(m:H.get zD=D (.row Z 3 [b7 d]))(op:Int):
  W (jf (aC P ax) (.ptr A 0 0) (.ptr B 0 0) (.ptr zD 0 0) (J X op) (y C) H) λr H'=>r= y (decide (a=dI/\b=cN/\d=cN))/\ay H H':=by
 simp-implicitDefEqProofs(disch:=try exact al)only[jf,aq];refine bk lE ?_;rintro _ ae ⟨rfl,e⟩;refine⟨e.1,?_⟩;by_cases k:a=dI
 ·subst k;simp-implicitDefEqProofs(disch:=try exact al)only[aq,a_ (e.get g),di,decide_true,c1];refine cE ia ?_;rintro _ ah ⟨rfl,n⟩;refine⟨n.1,?_⟩;have f:=e.trans n;by_cases l:b=cN
  ·subst l;simp-implicitDefEqProofs(disch:=try exact al)only[aq,a_ (f.get i),di,decide_true,c1];refine cE ia ?_;rintro _ ak ⟨rfl,o⟩;refine⟨o.1,?_⟩;have j:=f.trans o;simp-implicitDefEqProofs(disch:=try exact al)only[aq,a_ (j.get m),di,c1];refine cI (cJ ag ?_) (aK.2 ⟨by simp,j⟩);refine cY ?_ ?_
   ·simp only[cw,K.heap,List.forall_mem_cons]
    repeat' first|exact ay.refl _|exact e|exact f|exact j|(intro _ h;cases h;done)|refine aL ?_ ?_
   ·simp only[List.forall_mem_cons]
    repeat' first|(intro v c;cases c;done)|(intro v c;cases c;intro H' p;simp only[a_ (p.get g),br];done)|(intro v c;cases c;intro H' p;simp only[a_ (p.get i),br];done)|(intro v c;cases c;intro H' p;simp only[a_ (p.get m),br];done)|(intro _ h;cases h;done)|refine aL ?_ ?_
  ·simp-implicitDefEqProofs(disch:=try exact al)only[aq,a_ (f.get i),di,l,decide_false,c1,dQ];refine cI (cJ ag ?_) (aK.2 ⟨by simp[],f⟩);refine cY ?_ ?_
   ·simp only[cw,K.heap,List.forall_mem_cons]
    repeat' first|exact ay.refl _|exact e|exact f|(intro _ h;cases h;done)|refine aL ?_ ?_
   ·simp only[List.forall_mem_cons]
    repeat' first|(intro v c;cases c;done)|(intro v c;cases c;intro H' p;simp only[a_ (p.get g),br];done)|(intro v c;cases c;intro H' p;simp only[a_ (p.get i),br];done)|(intro _ h;cases h;done)|refine aL ?_ ?_
 ·simp-implicitDefEqProofs(disch:=try exact al)only[aq,a_ (e.get g),di,k,decide_false,dQ];refine cI (cJ ag ?_) (aK.2 ⟨by simp[],e⟩);refine cY ?_ ?_
  ·simp only[cw,K.heap,List.forall_mem_cons]
   repeat' first|exact ay.refl _|exact e|(intro _ h;cases h;done)|refine aL ?_ ?_
  ·simp only[List.forall_mem_cons]
   repeat' first|(intro v c;cases c;done)|(intro v c;cases c;intro H' p;simp only[a_ (p.get g),br];done)|(intro _ h;cases h;done)|refine aL ?_ ?_
def CO{A B zD:Nat}{a b d:cz}(g:H.get A=D (.row Z 3 [b7 a]))(i:H.get B=D (.row Z 3 [b7 b]))(m:H.get zD=D (.row Z 3 [b7 d])):
  W (mj (aC P ax) (.ptr A 0 0) (.ptr B 0 0) (.ptr zD 0 0) (y C) H) λr H'=>r= y (decide (a=dI/\b=dI/\d=dI))/\ay H H':=by
 simp-implicitDefEqProofs(disch:=try exact al)only[mj,aq];refine bk lE ?_;rintro _ ae ⟨rfl,e⟩;refine⟨e.1,?_⟩;by_cases k:a=dI
 ·subst k;simp-implicitDefEqProofs(disch:=try exact al)only[aq,a_ (e.get g),di,decide_true,c1];refine cE lE ?_;rintro _ ah ⟨rfl,n⟩;refine⟨n.1,?_⟩;have f:=e.trans n;by_cases l:b=dI
  ·subst l;simp-implicitDefEqProofs(disch:=try exact al)only[aq,a_ (f.get i),di,decide_true,c1];refine cE lE ?_;rintro _ ak ⟨rfl,o⟩;refine⟨o.1,?_⟩;have j:=f.trans o;simp-implicitDefEqProofs(disch:=try exact al)only[aq,a_ (j.get m),di,c1];refine cI (cJ ag ?_) (aK.2 ⟨by simp,j⟩);refine cY ?_ ?_
   ·simp only[cw,K.heap,List.forall_mem_cons]
    repeat' first|exact ay.refl _|exact e|exact f|exact j|(intro _ h;cases h;done)|refine aL ?_ ?_
   ·simp only[List.forall_mem_cons]
    repeat' first|(intro v c;cases c;done)|(intro v c;cases c;intro H' p;simp only[a_ (p.get g),br];done)|(intro v c;cases c;intro H' p;simp only[a_ (p.get i),br];done)|(intro v c;cases c;intro H' p;simp only[a_ (p.get m),br];done)|(intro _ h;cases h;done)|refine aL ?_ ?_
  ·simp-implicitDefEqProofs(disch:=try exact al)only[aq,a_ (f.get i),di,l,decide_false,c1,dQ];refine cI (cJ ag ?_) (aK.2 ⟨by simp[],f⟩);refine cY ?_ ?_
   ·simp only[cw,K.heap,List.forall_mem_cons]
    repeat' first|exact ay.refl _|exact e|exact f|(intro _ h;cases h;done)|refine aL ?_ ?_
   ·simp only[List.forall_mem_cons]
    repeat' first|(intro v c;cases c;done)|(intro v c;cases c;intro H' p;simp only[a_ (p.get g),br];done)|(intro v c;cases c;intro H' p;simp only[a_ (p.get i),br];done)|(intro _ h;cases h;done)|refine aL ?_ ?_
 ·simp-implicitDefEqProofs(disch:=try exact al)only[aq,a_ (e.get g),di,k,decide_false,dQ];refine cI (cJ ag ?_) (aK.2 ⟨by simp[],e⟩);refine cY ?_ ?_
  ·simp only[cw,K.heap,List.forall_mem_cons]
   repeat' first|exact ay.refl _|exact e|(intro _ h;cases h;done)|refine aL ?_ ?_
  ·simp only[List.forall_mem_cons]
   repeat' first|(intro v c;cases c;done)|(intro v c;cases c;intro H' p;simp only[a_ (p.get g),br];done)|(intro _ h;cases h;done)|refine aL ?_ ?_
def CN{A B zD:Nat}{a b d:cz}(f:H.get A=D (.row Z 3 [b7 a]))(g:H.get B=D (.row Z 3 [b7 b]))(i:H.get zD=D (.row Z 3 [b7 d]))(op:Int):
  W (ku (aC P ax) (.ptr A 0 0) (.ptr B 0 0) (.ptr zD 0 0) (J X op) (y C) H) λr H'=>r= y (decide (a=dI/\b≠bt/\b=d))/\ay H H':=by
 simp-implicitDefEqProofs(disch:=try exact al)only[ku,aq];refine bk lE ?_;rintro _ ae ⟨rfl,e⟩;refine⟨e.1,?_⟩;have aS:(.agg [J X 0,J X 0,J X 0]:aa)=cX bt:=rfl;by_cases j:a=dI
 ·subst j;by_cases k:b=bt
  ·subst k;simp-implicitDefEqProofs(disch:=try exact al)only[aq,aS,a_ (e.get f),a_ (e.get g),di,gK,decide_true,decide_false,ne_eq,not_true_eq_false,c1,dQ];refine cI (cJ ag ?_) (aK.2 ⟨by simp,e⟩);refine cY ?_ ?_
   ·simp only[cw,K.heap,List.forall_mem_cons]
    repeat' first|exact ay.refl _|exact e|(intro _ h;cases h;done)|refine aL ?_ ?_
   ·simp only[List.forall_mem_cons]
    repeat' first|(intro v c;cases c;done)|(intro v c;cases c;intro H' p;simp only[a_ (p.get f),br];done)|(intro v c;cases c;intro H' p;simp only[a_ (p.get g),br];done)|(intro v c;cases c;intro H' p;simp only[a_ (p.get i),br];done)|(intro _ h;cases h;done)|refine aL ?_ ?_
  ·simp-implicitDefEqProofs(disch:=try exact al)only[aq,aS,a_ (e.get f),a_ (e.get g),a_ (e.get i),di,gK,k,decide_true,ne_eq,not_false_eq_true,c1];refine cI (cJ ag ?_) (aK.2 ⟨by simp[],e⟩);refine cY ?_ ?_
   ·simp only[cw,K.heap,List.forall_mem_cons]
    repeat' first|exact ay.refl _|exact e|(intro _ h;cases h;done)|refine aL ?_ ?_
   ·simp only[List.forall_mem_cons]
    repeat' first|(intro v c;cases c;done)|(intro v c;cases c;intro H' p;simp only[a_ (p.get f),br];done)|(intro v c;cases c;intro H' p;simp only[a_ (p.get g),br];done)|(intro v c;cases c;intro H' p;simp only[a_ (p.get i),br];done)|(intro _ h;cases h;done)|refine aL ?_ ?_
 ·simp-implicitDefEqProofs(disch:=try exact al)only[aq,a_ (e.get f),di,j,decide_false,dQ];refine cI (cJ ag ?_) (aK.2 ⟨by simp[],e⟩);refine cY ?_ ?_
  ·simp only[cw,K.heap,List.forall_mem_cons]
   repeat' first|exact ay.refl _|exact e|(intro _ h;cases h;done)|refine aL ?_ ?_
  ·simp only[List.forall_mem_cons]
   repeat' first|(intro v c;cases c;done)|(intro v c;cases c;intro H' p;simp only[a_ (p.get f),br];done)|(intro v c;cases c;intro H' p;simp only[a_ (p.get g),br];done)|(intro v c;cases c;intro H' p;simp only[a_ (p.get i),br];done)|(intro _ h;cases h;done)|refine aL ?_ ?_
def K8(n:Int)(a b d:cz):W (aC P ax 106 [J X n,cX a,cX b,cX d] H) λr H'=>r= y (fH n a b d)/\ay H H':=by
 refine bZ (λ_=>Tx 0) ?_;simp-implicitDefEqProofs(disch:=try exact al)only[xm,hH,aq,aG,n4];have z:=(((ay.refl H).dK (.row Z 3 [b7 a])).dK (.row Z 3 [b7 b])).dK (.row Z 3 [b7 d]);have c:(((H.push (.row Z 3 [b7 a])).push (.row Z 3 [b7 b])).push (.row Z 3 [b7 d])).get H.next=D (.row Z 3 [b7 a]):=by simp[ad.ho];omega
 have f:(((H.push (.row Z 3 [b7 a])).push (.row Z 3 [b7 b])).push (.row Z 3 [b7 d])).get (H.next+1)=D (.row Z 3 [b7 b]):=by simp[ad.ho]
 have g:(((H.push (.row Z 3 [b7 a])).push (.row Z 3 [b7 b])).push (.row Z 3 [b7 d])).get (H.next+1+1)=D (.row Z 3 [b7 d]):=by simp[ad.ho]
 have m:∀{e:Bool} {r:O},W r (λv H'=>v= y e/\ay (((H.push (.row Z 3 [b7 a])).push (.row Z 3 [b7 b])).push (.row Z 3 [b7 d])) H')->fH n a b d=e->W r λv H'=>v= y (fH n a b d)/\ay H H':=by
  intro e r h he;refine h.mono ?_;rintro _ H' ⟨rfl,p⟩;exact⟨by rw[he],z.trans p⟩
 by_cases i:n=14
 ·subst i;simp-implicitDefEqProofs(disch:=try exact al)only[aq,Int.reduceBEq];exact m (sw c f g _) rfl
 have A:(n==14)=false:=beq_eq_false_iff_ne.2 i;by_cases j:n=15
 ·subst j;simp-implicitDefEqProofs(disch:=try exact al)only[aq,aG,Int.reduceBEq];exact m (sw c f g _) rfl
 have B:(n==15)=false:=beq_eq_false_iff_ne.2 j;by_cases k:n=16
 ·subst k;simp-implicitDefEqProofs(disch:=try exact al)only[aq,aG,Int.reduceBEq];exact m (sw c f g _) rfl
 have E:(n==16)=false:=beq_eq_false_iff_ne.2 k;by_cases l:n=17
 ·subst l;simp-implicitDefEqProofs(disch:=try exact al)only[aq,aG,Int.reduceBEq];exact m (sw c f g _) rfl
 have G:(n==17)=false:=beq_eq_false_iff_ne.2 l;by_cases o:n=18
 ·subst o;simp-implicitDefEqProofs(disch:=try exact al)only[aq,aG,Int.reduceBEq];exact m (sw c f g _) rfl
 have K:(n==18)=false:=beq_eq_false_iff_ne.2 o;by_cases q:n=19
 ·subst q;simp-implicitDefEqProofs(disch:=try exact al)only[aq,aG,g7,Int.reduceBEq];exact m (CM c f g _) rfl
 have L:(n==19)=false:=beq_eq_false_iff_ne.2 q;by_cases s:n=20
 ·subst s;simp-implicitDefEqProofs(disch:=try exact al)only[aq,aG,g7,Int.reduceBEq];exact m (CM c f g _) rfl
 have M:(n==20)=false:=beq_eq_false_iff_ne.2 s;by_cases t:n=21
 ·subst t;simp-implicitDefEqProofs(disch:=try exact al)only[aq,aG,g7,jf,Int.reduceBEq];exact m (CN c f g _) rfl
 have N:(n==21)=false:=beq_eq_false_iff_ne.2 t;by_cases u:n=22
 ·subst u;simp-implicitDefEqProofs(disch:=try exact al)only[aq,aG,g7,jf,Int.reduceBEq];exact m (CN c f g _) rfl
 have Q:(n==22)=false:=beq_eq_false_iff_ne.2 u;by_cases w:n=23
 ·subst w;simp-implicitDefEqProofs(disch:=try exact al)only[aq,aG,g7,jf,ku,Int.reduceBEq];exact m (CO c f g) rfl
 have R:(n==23)=false:=beq_eq_false_iff_ne.2 w;by_cases x:n=24
 ·subst x;simp-implicitDefEqProofs(disch:=try exact al)only[aq,aG,g7,jf,ku,Int.reduceBEq];exact m (CO c f g) rfl
 have S:(n==24)=false:=beq_eq_false_iff_ne.2 x;simp-implicitDefEqProofs(disch:=try exact al)only[aq,aG,g7,jf,ku,mj,iD,A,B,E,G,K,L,M,N,Q,R,S];refine aK.2 ⟨?_,z⟩;rw[fH,if_neg ai,if_neg ai,if_neg ai,if_neg ai]
end
end
section
open Go.bp
def aZ.rd{α:Type}{K:ej α}{H:ad}{ok:Nat->Prop}{l:List α}{v:aa}(h:aZ K H ok l v):aa.beq v v=true:=by
 rcases h with⟨rfl,_⟩|⟨L,i,cap,ro,els,rfl,_⟩|⟨L,i,cap,rfl,_⟩<;>simp[aa.beq]
section
variable {H:ad}{ok:Nat->Prop}
def ct(c:b3)(v w:aa):List aa:=[J X c.params,v,y c.has,J X c.res.b,J X c.res.r,J X c.res.d,w]
def sM(i:In)(v:aa):List aa:=[J X i.op,J X i.a,J X i.b,J X i.c,J X i.n,v]
def iy{H:ad}{c:b3}{v w:aa}{L:Nat}(h:H.get L=D (.row Z 7 [ct c v w])):aj P H 49 (.ptr L 0 0)=D (.agg (ct c v w)):=
 fY (n:=7) (i:=0) (c:=0) ag ag h rfl b_
def w_{c:b3}{v w:aa}(ae:aZ ei H ok c.vars v)(ah:aZ e7 H ok c.ins w):aV (D (.agg (ct c v w))) (.agg (ct c v w))=true:=by
 simp[aV,ct,aa.beq,eE.beq,ae.rd,ah.rd]
def eA{α:Type}{K:ej α}{l:List α}{v:aa}(h:aZ K H ok l v):aV (D v) v=true:=h.rd
def pJ(c g:b3)(i:In):Bool:=i.a== -1||(g.has&&decide (a1 c i.a≠bt/\a1 c i.a=g.res))
def Lj{c g:b3}{i:In}{n o v w wi:aa}{zC I G:Nat}(gc:H.get zC=D (.row Z 7 [ct c n o]))(t:H.get I=D (.row Z 6 [sM i wi]))(s:H.get G=D (.row Z 7 [ct g v w]))
  (ae:aZ ei H ok c.vars n) (ah:aZ e7 H ok c.ins o) (u:c.vars.length<=1000000000) {N:Nat}:
  W (ml (aC P ax) N (.ptr zC 0 0) (.ptr I 0 0) (.ptr G 0 0) H) λr H'=>r= y (pJ c g i)/\ay H H':=by
 have l:=t;rw[sM]at l;cases f:(i.a== -1)with
 |true=>
  simp-implicitDefEqProofs(disch:=try exact al)only[ml,bM,l,f];exact aK.2 ⟨by simp[pJ,f],ay.refl _⟩
 |false=>
  have q:=gc;rw[ct]at q;simp-implicitDefEqProofs(disch:=try exact al)only[ml,bM,l,q,f];refine bk (s5 ⟨_,rfl,n,o,rfl,ae,ah⟩ i.a u) ?_;rintro _ K ⟨rfl,p⟩;refine⟨p.1,?_⟩;have e:=p.get s;rw[ct]at e;have x:=ad.b6 e;have A:G≠K.next:=ai
  have m:ay H (K.push (.row Z 3 [b7 (a1 c i.a)])):=p.dK _;have aS:∀z,ar P .neq 46 z (.agg [J X (a1 c i.a).b,J X (a1 c i.a).r,J X (a1 c i.a).d]) (.agg [J X 0,J X 0,J X 0])=D (y (decide (a1 c i.a≠bt))):=λz=>gK _ bt z
  have he:∀z,ar P .eql 46 z (.agg [J X (a1 c i.a).b,J X (a1 c i.a).r,J X (a1 c i.a).d]) (.agg [J X g.res.b,J X g.res.r,J X g.res.d])=D (y (decide (a1 c i.a=g.res))):=λz=>di _ g.res z
  cases h:g.has with
  |false=>
   rw[h]at e;simp-implicitDefEqProofs(disch:=try exact al)only[Nat.reduceAdd,bM,cX,b7,e];exact aK.2 ⟨by simp[pJ,f,h],m⟩
  |true=>
   rw[h]at e;by_cases j:a1 c i.a=bt
   ·have k:decide (a1 c i.a≠bt)=false:=by simp[j]
    simp-implicitDefEqProofs(disch:=try exact al)only[Nat.reduceAdd,bM,cX,b7,e,aS,k];exact aK.2 ⟨by simp[pJ,f,h,j],m⟩
   ·have k:decide (a1 c i.a≠bt)=true:=by simp[j]
    simp-implicitDefEqProofs(disch:=try exact al)only[Nat.reduceAdd,Nat.reduceLeDiff,bM,cX,b7,e,aS,he,k];exact aK.2 ⟨by simp[pJ,f,h,j],m⟩
def CT{c g:b3}{i:In}{O Q ab az wi:aa}{zC I G:Nat}(E:c.vars.length<=1000000000)(aj:g.vars.length<=1000000000)(ao:i.args.length<=g.vars.length){N:Nat}:∀(j k m:Nat) (H:ad),k+j=i.args.length->j<m->H.get zC=D (.row Z 7 [ct c O Q])->H.get I=D (.row Z 6 [sM i wi])->H.get G=D (.row Z 7 [ct g ab az])->
  aZ ei H ok c.vars O->aZ e7 H ok c.ins Q->aZ ei H ok g.vars ab->aZ bu H ok i.args wi->
  W (mm (aC P ax) N m (.ptr zC 0 0) (.ptr I 0 0) (.ptr G 0 0) (J X k) H) λr H'=>r= y (im c g (i.args.drop k) k&&pJ c g i)/\ay H H'
 |_,_,0,_,_,hm,_,_,_,_,_,_,_=>ai
 |0,k,m+1,H,an,_,gc,q,u,ae,ah,ak,au=>by
  have M:¬(k:Int)<(i.args.length:Int):=ai;have l:=q;rw[sM]at l;rw[List.drop_of_length_le ai,im,Bool.true_and];have e:=Lj (i:=i) (g:=g) gc q u ae ah E (N:=N);simp-implicitDefEqProofs(disch:=try exact al)only[tr,mm,bM,l,au.len cU,M,decide_false];exact e
 |j+1,k,m+1,H,an,hm,gc,q,u,ae,ah,ak,au=>by
  have M:(k:Int)<(i.args.length:Int):=ai;have U:k<i.args.length:=ai;have V:k<g.vars.length:=ai;have l:=q;rw[sM]at l;have o:=gc;rw[ct]at o;obtain⟨L,n,ro,els,aD,av,_,ag,e,rfl⟩:=au.at_ (K:=bu) cU (j:=(k:Int)) (a:=i.args[k]) ai (by simp[U]);have t:H.get L=D (.row ro 1 els):=ag;simp-implicitDefEqProofs(disch:=try exact al)only[tr,mm,bM,l,o,au.len cU,M,decide_true,av,t,e];refine bk (s5 ⟨_,rfl,O,Q,rfl,ae,ah⟩ i.args[k] E) ?_;rintro _ K ⟨rfl,p⟩;refine⟨p.1,?_⟩;have v:=p.get u;rw[ct]at v;have aF:=ad.b6 v;have aG:G≠K.next:=ai
  have f:ay H (K.push (.row Z 3 [b7 (a1 c i.args[k])])):=p.dK _;have x:=w_ ae ah;rw[ct]at x;obtain⟨R,aM,aw,af,aE,Y,_,S,A,rfl⟩:=(ak.aI p).at_ (K:=ei) dh (j:=(k:Int)) (a:=g.vars[k]) ai (by simp[V]);have T:K.get R=D (.row aw 3 af):=S;have aH:=ad.b6 S;have aL:R≠K.next:=ai
  rw[b7]at A;have aS:∀z,ar P .neq 46 z (.agg [J X (a1 c i.args[k]).b,J X (a1 c i.args[k]).r,J X (a1 c i.args[k]).d]) (.agg [J X g.vars[k].b,J X g.vars[k].r,J X g.vars[k].d])=D (y (decide (a1 c i.args[k]≠g.vars[k]))):=λz=>gK _ g.vars[k] z
  have he:∀z,ar P .eql 46 z (.agg [J X (a1 c i.args[k]).b,J X (a1 c i.args[k]).r,J X (a1 c i.args[k]).d]) (.agg [J X 0,J X 0,J X 0])=D (y (decide (a1 c i.args[k]=bt))):=λz=>di _ bt z
  rw[List.drop_eq_getElem_cons U,im];have am:g.vars[k]? =D g.vars[k]:=by simp[V]
  rw[am];by_cases w:a1 c i.args[k]=bt
  ·have s:decide (a1 c i.args[k]=bt)=true:=by simp[w]
   simp-implicitDefEqProofs(disch:=try exact al)only[Nat.reduceAdd,bM,l,o,t,e,x,eA au,cX,b7,he,s];exact aK.2 ⟨by simp[w],f⟩
  ·have s:decide (a1 c i.args[k]=bt)=false:=by simp[w]
   by_cases a8:a1 c i.args[k]=g.vars[k]
   ·have B:decide (a1 c i.args[k]≠g.vars[k])=false:=by simp[a8]
    simp-implicitDefEqProofs(disch:=try exact al)only[Nat.reduceAdd,bM,l,o,t,e,x,eA au,cX,b7,he,aS,s,B,v,Y,T,A,c3 (show k<=1000000000 by omega)];have:=CT E aj ao (N:=N) j (k+1) m (K.push (.row Z 3 [b7 (a1 c i.args[k])])) ai ai (f.get gc) (f.get q) (f.get u) (ae.aI f) (ah.aI f) (ak.aI f) (au.aI f);refine this.mono ?_;rintro r aA ⟨rfl,aq⟩;refine⟨?_,f.trans aq⟩;have ap:g.vars[k]≠bt:=a8▸w;simp[a8,ap]
   ·have B:decide (a1 c i.args[k]≠g.vars[k])=true:=by simp[a8]
    simp-implicitDefEqProofs(disch:=try exact al)only[Nat.reduceAdd,bM,l,o,t,e,x,eA au,cX,b7,he,aS,s,B,v,Y,T,A];refine aK.2 ⟨?_,f⟩;have:¬g.vars[k]=a1 c i.args[k]:=λh=>a8 h.symm
    simp[this]
def Lk{x:bQ}{c:b3}{i:In}{v U V:aa}(aD:c2 H ok x v)(aA:BT H ok c U)(am:vr H ok i V)(ab:c.vars.length<=1000000000)(af:∀g∈x.o,g.vars.length<=1000000000):W (aC P ax 110 [v,U,V] H) λr H'=>r= y (jE x c i)/\ay H H':=by
 obtain⟨_,rfl,a,b,cc,d,rfl,ae,ah,ak,au⟩:=aD;obtain⟨_,rfl,ee,ww,rfl,R,S⟩:=aA;obtain⟨_,rfl,wi,rfl,i1⟩:=am;refine bZ (λ_=>TC (i.args.length+1)) ?_;have l:=dZ ae ah ak au x.main;have m:=za R S c.params c.res.b c.res.r c.res.d c.has;have p:=vG i1 i.op i.a i.b i.c i.n;have Q:=(((ay.refl H).dK (.row Z 5 [[a,b,cc,d,J X x.main]])).dK (.row Z 7 [[J X c.params,ee,y c.has,J X c.res.b,J X c.res.r,J X c.res.d,ww]])).dK (.row Z 6 [[J X i.op,J X i.a,J X i.b,J X i.c,J X i.n,wi]]);by_cases k:i.c<0
 ·simp-implicitDefEqProofs(disch:=try exact al)only[lg,bM,l,m,p,k,decide_true];exact aK.2 ⟨by rw[jE,eL.2 (.inl k)],Q⟩
 by_cases b8:(x.o.length:Int)<=i.c
 ·simp-implicitDefEqProofs(disch:=try exact al)only[lg,Nat.reduceAdd,bM,l,m,p,k,b8,ak.len c0,decide_true,decide_false];exact aK.2 ⟨by rw[jE,eL.2 (.inr b8)],Q⟩
 have M:i.c.toNat<x.o.length:=ai;have ag:dE x.o i.c=D x.o[i.c.toNat]:=by rw[hj ai];simp[M]
 obtain⟨L,n,ro,els,aq,z,_,g,e,gv,gw,rfl,q,Y⟩:=ak.at_ (K:=fr) c0 (j:=i.c) (a:=x.o[i.c.toNat]) ai (by simp[M]);have aj:=af _ (List.getElem_mem M);generalize x.o[i.c.toNat]=G at*;have ar:=ad.b6 g;have s:H.get L=D (.row ro 7 els):=g;have av:L≠H.next:=ai
 have aw:L≠H.next+1:=ai
 have az:L≠H.next+1+1:=ai
 have t:=q.one;have u:=Y.one;have f:=Q.dK (.row Z 7 [[J X G.params,gv,y G.has,J X G.res.b,J X G.res.r,J X G.res.d,gw]]);rw[jE,ag];simp only[];have bad:¬(0<=G.params/\G.params<=G.vars.length/\(i.args.length:Int)=G.params)->(decide (0<=G.params/\G.params<=G.vars.length/\(i.args.length:Int)=G.params)&&(im c G i.args 0&&(i.a== -1||G.has&&decide (a1 c i.a≠bt/\a1 c i.a=G.res))))=false:=λh=>by rw[decide_eq_false h,Bool.false_and]
 by_cases w:G.params<0
 ·simp-implicitDefEqProofs(disch:=try exact al)only[lg,Nat.reduceAdd,bM,l,m,p,k,b8,ak.len c0,z,s,e,t,u,w,decide_true,decide_false];exact aK.2 ⟨by rw[bad ai],f⟩
 by_cases O:(G.vars.length:Int)<G.params
 ·simp-implicitDefEqProofs(disch:=try exact al)only[lg,Nat.reduceAdd,bM,l,m,p,k,b8,ak.len c0,q.len dh,z,s,e,t,u,w,O,decide_true,decide_false];exact aK.2 ⟨by rw[bad ai],f⟩
 by_cases T:(i.args.length:Int)=G.params
 ·have E:((i.args.length:Int) != G.params)=false:=by simp[T]
  simp-implicitDefEqProofs(disch:=try exact al)only[lg,Nat.reduceAdd,bM,l,m,p,k,b8,ak.len c0,q.len dh,i1.len cU,z,s,e,t,u,w,O,E,decide_false];have an:decide (0<=G.params/\G.params<=G.vars.length/\(i.args.length:Int)=G.params)=true:=by simp;omega
  rw[an,Bool.true_and];have gt:∀{A B zC zD:bL},((((H.push A).push B).push zC).push zD).get (H.next+1)=D B/\((((H.push A).push B).push zC).push zD).get (H.next+1+1)=D zC/\((((H.push A).push B).push zC).push zD).get (H.next+1+1+1)=D zD:=by
   intro A B zC zD;refine⟨?_,?_,?_⟩<;>simp[ad.ho]<;>omega
  have key:=CT (c:=c) (g:=G) (i:=i) ab aj ai (N:=i.args.length+1) i.args.length 0 (i.args.length+1) _ ai ai gt.1 gt.2.1 gt.2.2 (R.aI f) (S.aI f) (q.aI f) (i1.aI f);refine key.mono ?_;rintro r ap ⟨rfl,ao⟩;exact⟨by rw[List.drop_zero];rfl,f.trans ao⟩
 ·have E:((i.args.length:Int) != G.params)=true:=by simp[T]
  simp-implicitDefEqProofs(disch:=try exact al)only[lg,Nat.reduceAdd,bM,l,m,p,k,b8,ak.len c0,q.len dh,i1.len cU,z,s,e,t,u,w,O,E,decide_false];exact aK.2 ⟨by rw[bad ai],f⟩
