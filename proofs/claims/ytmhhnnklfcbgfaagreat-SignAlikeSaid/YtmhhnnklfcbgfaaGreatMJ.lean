/-
  Texts of one proof, laid together: Ni.
-/
import Derived.Test.YtmhhnnklfcbgfaaGreatMI
set_option linter.unusedVariables false
set_option linter.unusedSimpArgs false
set_option linter.defProp false
open Option renaming some→D
open Bool renaming true→C,false→Z
open Go.bo.aa renaming int→J,bool→y
open Go.IntKind renaming i64→X
namespace Go.Proofs.YtmhhnnklfcbgfaaGreat
open Go.bo
open Go.bp
section
variable {H:ad}{ok:Nat->Prop}
def DO{x:bQ}{l:List cz}{v:aa}{a b cc d:aa}{zX r:Nat}(E:r<=1000000)(z:l.length<=1000000){L10:aa->aa->ad->O}{Q:aa->ad->Prop}{N:Nat}:
  ∀(j k m:Nat) (H:ad),k+j=l.length->j<m->H.get zX=D (.row Z 5 [[a,b,cc,d,J X x.main]])->c2 H ok x (.agg [a,b,cc,d,J X x.main])->aZ js H ok l v->
  ((l.drop k).all (dB x.b1.length)=Z->∀H',ay H H'->Q (y Z) H')->((l.drop k).all (dB x.b1.length)=C->∀H',ay H H'->W (L10 (.ptr zX 0 0) (J X ((r+1:Nat):Int)) H') Q)->
  W (m7 (aC P ax) N L10 m (.ptr zX 0 0) (J X r) v (J X k) H) Q
 |_,_,0,_,_,B,_,_,_,_,_=>ai
 |0,k,m+1,H,A,_,aT,aD,h,q,dp=>by
  have u:¬(k:Int)<(l.length:Int):=ai;have:=dp (by rw[List.drop_of_length_le ai];rfl) H (ay.refl _);simp-implicitDefEqProofs(disch:=try exact al)only[m7,uI,o3,aq,aG,bf,h.len hs,u,decide_false,c3 (show r<=1000000000 by omega)];exact this
 |j+1,k,m+1,H,A,B,aT,aD,h,q,dp=>by
  have u:(k:Int)<(l.length:Int):=ai;have o:k<l.length:=ai;obtain⟨L,n,ro,els,R,M,_,g,e,s,rfl⟩:=h.at_ (K:=js) hs (j:=(k:Int)) (a:=l[k]) ai (by simp[o]);have G:aj P H 46 (.ptr L n 1)=D (cX l[k]):=fY (n:=3) (i:=n) (c:=1) ag ag g e b_;simp-implicitDefEqProofs(disch:=try exact al)only[m7,uI,aq,aG,aM,Nat.zero_add,bf,h.len hs,u,decide_true,M,G,ch aT];refine bk (wQ aD l[k]) ?_;rintro _ H1 ⟨rfl,f⟩;refine⟨f.1,?_⟩;cases w:dB x.b1.length l[k]with
  |false=>
   simp-implicitDefEqProofs(disch:=try exact al)only[aq,Bool.not_false];exact aK.2 (q (by rw[List.drop_eq_getElem_cons o,List.all_cons,w];rfl) H1 f)
  |true=>
   simp-implicitDefEqProofs(disch:=try exact al)only[aq,aG,Bool.not_true,c3 (show k<=1000000000 by omega)];refine DO E z j (k+1) m H1 ai ai (f.get aT) (aD.aI f) (h.aI f) (λt H' p=>q (by rw[List.drop_eq_getElem_cons o,List.all_cons,w,t];rfl) H' (f.trans p)) λt H' p=>dp ?_ H' (f.trans p)
   rw[List.drop_eq_getElem_cons o,List.all_cons,w,t];rfl
def j1(x:bQ)(l:List cz):Bool:=decide (l.length<=8)&&l.all (dB x.b1.length)
def Gu{x:bQ}{a b cc d:aa}{zX:Nat}(A:∀g∈x.o,g.vars.length<=1000000000)(hlen:∀c∈x.o,c.ins.length<=1000000000)(B:x.o.length<=1000000)(G:x.sites.length<=1000000)(ab:x.b1.length<=1000000){N:Nat}(v:∀c∈x.o,c.ins.length<N)(w:x.o.length<N)(z:x.sites.length<N)(U:8<N):
  ∀(j k m:Nat) (H:ad),k+j=x.b1.length->j<m->H.get zX=D (.row Z 5 [[a,b,cc,d,J X x.main]])->c2 H ok x (.agg [a,b,cc,d,J X x.main])->
  W (lz (aC P ax) N m (.ptr zX 0 0) (J X k) H) λr H'=>r= y ((x.b1.drop k).all (j1 x)&&(x.sites.all (gV x)&&(jL x x.o 0&&(jm x x.o 0&&gS x))))/\ay H H'
 |_,_,0,_,_,Y,_,_=>ai
 |0,k,m+1,H,V,_,aT,aD=>by
  have i:=aD;obtain⟨_,q,ck,b',Q,R,t,ae,ah,ak,au⟩:=aD;cases q;cases t;have h:¬(k:Int)<(x.b1.length:Int):=ai;rw[List.drop_of_length_le ai,List.all_nil,Bool.true_and];simp-implicitDefEqProofs(disch:=try exact al)only[lz,ri,m6,aq,aG,aM,Nat.zero_add,bf,k7 aT,ae.len en,h,decide_false];exact Is A hlen B G v w x.sites.length 0 N H ai z aT i
 |j+1,k,m+1,H,V,Y,aT,aD=>by
  have i:=aD;obtain⟨_,q,ck,b',Q,R,t,ae,ah,ak,au⟩:=aD;cases q;cases t;have h:(k:Int)<(x.b1.length:Int):=ai;have E:k<x.b1.length:=ai;obtain⟨L,n,ro,els,am,O,_,g,e,s,fv,rfl,aN⟩:=ae.at_ (K:=kb) en (j:=(k:Int)) (a:=x.b1[k]) ai (by simp[E]);have M:aj P H 93 (.ptr L n 1)=D fv:=by
   have S:H.get L=D (.row ro 2 els):=g;simp-implicitDefEqProofs(disch:=try exact al)only[bM,S,e]
  rw[List.drop_eq_getElem_cons E,List.all_cons,j1];by_cases u:(8:Int)<(x.b1[k].length:Int)
  ·simp-implicitDefEqProofs(disch:=try exact al)only[lz,ri,aq,aG,aM,Nat.zero_add,bf,k7 aT,ae.len en,h,decide_true,O,M,aN.len hs,u];exact aK.2 ⟨by simp[show¬x.b1[k].length<=8 by omega],ay.refl _⟩
  ·have T:decide (x.b1[k].length<=8)=true:=by simp;omega
   simp-implicitDefEqProofs(disch:=try exact al)only[lz,ri,aq,aG,aM,Nat.zero_add,bf,k7 aT,ae.len en,h,decide_true,decide_false,O,M,aN.len hs,u];rw[T,Bool.true_and];refine DO (x:=x) (l:=x.b1[k]) ai ai x.b1[k].length 0 N H ai ai aT i aN (λf H' p=> ?_) λf H' p=> ?_
   ·rw[List.drop_zero]at f;exact⟨by rw[f];simp,p⟩
   ·rw[List.drop_zero]at f;refine(Gu A hlen B G ab v w z U j (k+1) m H' ai ai (p.get aT) (i.aI p)).mono ?_;rintro r ag ⟨rfl,af⟩;exact⟨by rw[f];simp,p.trans af⟩
def Ei(x:bQ):∀(cs:List b3) (s f:Nat),s<=2500->(jL x cs s&&jm x cs f)=(decide (s+eR cs<=2500)&&hl x cs f)
 |[],s,f,h=>by simp[jL,jm,eR,hl,h]
 |c::cs,s,f,h=>by
  have aA:codeOk x f c=(head x c&&(c.ins.all (dw x f c)&&hK (h5 c.ins))):=by
   simp only[codeOk,head,Bool.and_assoc]
  rw[jL,jm,eR,hl,aA];by_cases ae:s+c.ins.length<=2500
  ·have a:=Ei x cs (s+c.ins.length) (f+1) ae;have e:decide (s+(c.ins.length+eR cs)<=2500)=decide (s+c.ins.length+eR cs<=2500):=by rw[Nat.add_assoc]
   rw[e,decide_eq_true ae,Bool.true_and];cases head x c<;>cases(c.ins.all (dw x f c)&&hK (h5 c.ins))<;>simp_all
  ·rw[decide_eq_false ae,decide_eq_false ai];simp
def Tl(x:bQ):(decide (x.b1.length<=12/\x.globals.length<=8/\1<=x.o.length/\x.o.length<=16/\x.sites.length<=60)&&(x.globals.all (dB x.b1.length)&&(x.b1.all (j1 x)&&(x.sites.all (gV x)&&(jL x x.o 0&&(jm x x.o 0&&gS x))))))=right x:=by
 have h:=Ei x x.o 0 0 ai;rw[Nat.zero_add]at h;have e:(jL x x.o 0&&(jm x x.o 0&&gS x))=(decide (eR x.o<=2500)&&hl x x.o 0&&gS x):=by rw[<-Bool.and_assoc,h]
 have r:(λl:List cz=>decide (l.length<=8)&&l.all (dB x.b1.length))=j1 x:=rfl;rw[e,right,r];cases gS x<;>cases x.globals.all (dB x.b1.length)<;>cases x.b1.all (j1 x)<;>cases x.sites.all (gV x)<;>cases decide (eR x.o<=2500)<;>cases hl x x.o 0<;>simp
def AR{x:bQ}{v:aa}(aD:c2 H ok x v)(p:∀g∈x.o,g.vars.length<=1000000000)(hlen:∀c∈x.o,c.ins.length<=1000000000):W (aC P ax 24 [v] H) λr H'=>r= y (right x)/\ay H H':=by
 obtain⟨_,rfl,a,b,cc,d,rfl,ae,ah,ak,au⟩:=aD;refine bZ (λ_=>Us 1000000001) ?_;have h:=dZ ae ah ak au x.main;have e:=ay.push H (.row Z 5 [[a,b,cc,d,J X x.main]]);have aT:(H.push (.row Z 5 [[a,b,cc,d,J X x.main]])).get H.next=D (.row Z 5 [[a,b,cc,d,J X x.main]]):=ad.bq _ _
 rw[<-Tl];by_cases f:(12:Int)<(x.b1.length:Int)
 ·simp-implicitDefEqProofs(disch:=try exact al)only[lx,bM,h,ae.len en,f,decide_true];exact aK.2 ⟨by rw[decide_eq_false ai];rfl,e⟩
 by_cases i:(8:Int)<(x.globals.length:Int)
 ·simp-implicitDefEqProofs(disch:=try exact al)only[lx,bM,h,ae.len en,ah.len dh,f,i,decide_true,decide_false];exact aK.2 ⟨by rw[decide_eq_false ai];rfl,e⟩
 by_cases j:(x.o.length:Int)<1
 ·simp-implicitDefEqProofs(disch:=try exact al)only[lx,bM,h,ae.len en,ah.len dh,ak.len c0,f,i,j,decide_true,decide_false];exact aK.2 ⟨by rw[decide_eq_false ai];rfl,e⟩
 by_cases l:(16:Int)<(x.o.length:Int)
 ·simp-implicitDefEqProofs(disch:=try exact al)only[lx,bM,h,ae.len en,ah.len dh,ak.len c0,f,i,j,l,decide_true,decide_false];exact aK.2 ⟨by rw[decide_eq_false ai];rfl,e⟩
 by_cases m:(60:Int)<(x.sites.length:Int)
 ·simp-implicitDefEqProofs(disch:=try exact al)only[lx,bM,h,ae.len en,ah.len dh,ak.len c0,au.len e4,f,i,j,l,m,decide_true,decide_false];exact aK.2 ⟨by rw[decide_eq_false ai];rfl,e⟩
 rw[decide_eq_true ai,Bool.true_and];simp-implicitDefEqProofs(disch:=try exact al)only[lx,Nat.reduceAdd,bM,h,ae.len en,ah.len dh,ak.len c0,au.len e4,f,i,j,l,m,decide_false];have n:c2 (H.push (.row Z 5 [[a,b,cc,d,J X x.main]])) ok x (.agg [a,b,cc,d,J X x.main]):=⟨_,rfl,a,b,cc,d,rfl,ae.aI e,ah.aI e,ak.aI e,au.aI e⟩;refine cE (I3 n (ah.aI e) ai) ?_;rintro _ H1 ⟨rfl,k⟩;refine⟨k.1,?_⟩;have q:=e.trans k;cases u:x.globals.all (dB x.b1.length)with
 |false=>
  simp-implicitDefEqProofs(disch:=try exact al)only[aq,Bool.not_false];exact aK.2 ⟨by simp,q⟩
 |true=>
  simp-implicitDefEqProofs(disch:=try exact al)only[aq,Bool.not_true];have key:=Gu (x:=x) p hlen ai ai ai (N:=1000000001) (λc aA=>by have:=hlen c aA;omega) ai ai ai x.b1.length 0 1000000001 H1 ai ai (k.get aT) (n.aI k);refine key.mono ?_;rintro r t ⟨rfl,s⟩;exact⟨by rw[List.drop_zero,Bool.true_and],q.trans s⟩
