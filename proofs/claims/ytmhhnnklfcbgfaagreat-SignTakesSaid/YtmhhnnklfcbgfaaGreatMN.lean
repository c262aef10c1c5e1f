/-
  Texts of one proof, laid together: Rc Rd Re Rf Rg Rh ShH Ri Rj Rk Rl Sa.
-/
import Derived.Test.YtmhhnnklfcbgfaaGreatMM
set_option linter.unusedVariables false
set_option linter.unusedSimpArgs false
set_option linter.defProp false
open Option renaming some→A,none→Z
open Bool renaming true→J,false→I
open Go.cv.af renaming int→D,bool→C
open Go.IntKind renaming i64→F
namespace Go.Proofs.YtmhhnnklfcbgfaaGreat
open Go.cv
section
open Go.a2
set_option maxRecDepth 2000
structure fY(m:Nat)(p:df):Prop extends May m p where
 hm:m<=60
 nl:∀N∈p.nodes,N.length<=60
 dz:∀fs∈p.fields,∀l∈fs,l.length<=60
 nn:p.nodes.length<=1000000
def OV{n m:Nat}{l:List bt}(hm:m<=60)(aL:n<=1000000):fY m (ho n m l):=by
 refine {acB n m (dN n l)with hm:=hm,nl:= ?_,dz:= ?_,nn:=by grind[ho,iH]}
 ·grind[ho,iH,kW]
 grind[ho,iH,kW]
def fY.Fp{m:Nat}{p:df}(h:fY m p){t k:Nat}(a_:t<m)(c:k<8):∃fs,p.fields[t]? =A fs/\fs[k]? =A (p.er t k)/\fs.length=8:=by
 have ar:=h.len;have a:p.fields[t]? =A p.fields[t]:=al;have b:=h.wid _ (List.getElem_mem (by omega:t<p.fields.length));grind[df.er]
def fY.MV{m:Nat}{p:df}(h:fY m p)(t k:Nat):(p.er t k).length<=60:=by
 unfold df.er;cases e:p.fields[t]? with
 |none=>simp
 |some fs=>
  simp only[Option.bind_some];cases a:fs[k]? with
  |none=>simp
  |some l=>exact h.dz fs (List.mem_of_getElem? e) l (List.mem_of_getElem? a)
section
variable {H:ae}{ok:Nat->Prop}
theorem ahN{B m a:Nat}(g:H.get B=A (.row I 1 [[D F (m:Nat)]]))(b:a<m):W (aK P aD 253 [D F (a:Nat),.ptr B 0 0] H) λr H'=>r= C I/\H'=H:=by
 refine agf 0 ?_;refine bF @It.eq_1 (iE g) ?_;grind[aE]
theorem NS{l:List Nat}{v:af}{B m:Nat}(hw:∀a∈l,a<m)(c:l.length<=1000000000)(ar:aI aN H ok (aO l) v)(g:H.get B=A (.row I 1 [[D F (m:Nat)]])){N:Nat}:∀(j k q:Nat),k+j=l.length->j<q->
  W (xu (aK P aD) N q v (.func (.func 253) [] [.ptr B 0 0]) (D F l.length) (D F k) H) λr H'=>r= D F (-1)/\H'=H
 |_,_,0,_,hm=>aa
 |0,k,q+1,d,_=>by
  have f:¬(k:Int)<(l.length:Int):=aa;refine bT @xu.eq_2 @Cq.eq_1 @Iw.eq_1 ?_;grind[aE]
 |j+1,k,q+1,d,hm=>by
  have b:k<l.length:=aa;obtain⟨p,i1,i2⟩:=ar.int (j:=(k:Int)) (a:=((l[k]:Nat):Int)) aa (by simp[aO,b]);have e:=hw _ (List.getElem_mem b);have on:=NS (B:=B) (v:=v) hw c ar g (N:=N) j (k+1) q;refine bb @xu.eq_2 @Cq.eq_1 i1 i2 @qK.eq_1 @pB.eq_1 ?_;refine dK (ahN g e) ?_;refine bM ?_;grind
theorem Xa{l:List Nat}{v:af}{B m:Nat}(hw:∀a∈l,a<m)(b:l.length<=1000000000)(ar:aI aN H ok (aO l) v)(g:H.get B=A (.row I 1 [[D F (m:Nat)]])):
  W (aK P aD 252 [v,.func (.func 253) [] [.ptr B 0 0]] H) λr H'=>r= C I/\H'=H:=by
 refine age 0 ?_;have hlen:(aO l).length=l.length:=by simp[aO]
 have key:W (aK P aD 261 [v,.func (.func 253) [] [.ptr B 0 0]] H) λr H'=>r= D F (-1)/\H'=H:=by
  refine agk (l.length+1) ?_;refine bT @Iv.eq_1 (ar.bf bV) hlen ?_;exact NS hw b ar g l.length 0 (l.length+1) aa aa
 refine bK @Is.eq_1 ?_;refine dK key ?_;refine bM ?_;grind[aE]
theorem Ps{ls:List (List Nat)}{v:af}{B m:Nat}(hw:∀l∈ls,∀a∈l,a<m)(d:∀l∈ls,l.length<=60)(b:ls.length<=1000000000)(ar:aI (bp aN) H ok (ls.map aO) v)(g:H.get B=A (.row I 1 [[D F (m:Nat)]])){N:Nat}:∀(j k q:Nat),k+j=ls.length->j<q->
  W (xi (aK P aD) N q (.ptr B 0 0) v (D F ls.length) (D F k) H) λr H'=>r= C J/\H'=H
 |_,_,0,_,hm=>aa
 |0,k,q+1,c,_=>by
  have h:¬(k:Int)<(ls.length:Int):=aa;refine bT @xi.eq_2 @Ci.eq_1 @Ib.eq_1 ?_;grind[aE]
 |j+1,k,q+1,c,hm=>by
  have e:k<ls.length:=aa;obtain⟨p,w,i1,i2,i3⟩:=ar.list (j:=(k:Int)) (a:=aO ls[k]) aa al;have f:=List.getElem_mem e;have on:=Ps (B:=B) (v:=v) hw d b ar g (N:=N) j (k+1) q;refine cu @xi.eq_2 @Ci.eq_1 i1 i2 ?_;refine dK (Xa (hw _ f) al i3 g) ?_;refine bM ?_;grind
def Pt{ls:List (List Nat)}{v:af}{m:Nat}(hw:∀l∈ls,∀a∈l,a<m)(d:∀l∈ls,l.length<=60)(c:ls.length<=1000000000)(ar:aI (bp aN) H ok (ls.map aO) v):
  W (aK P aD 226 [v,D F (m:Nat)] H) λr H'=>r= C J/\aw H H':=by
 refine afY (ls.length+1) ?_;have b:=aw.push H (.row I 1 [[D F (m:Nat)]]);have hlen:(ls.map aO).length=ls.length:=aW;refine cu @Ia.eq_1 @Lb (ar.bf dJ) hlen ?_;exact(Ps hw d c (ar.aC b) (ae.a1 _ _) ls.length 0 _ aa aa).mono λr H' q=>⟨q.1,q.2▸b⟩
theorem aI.vv{l:List (List (List Int))}{v:af}(h:aI (bp (bp aN)) H ok l v){j:Int}{a:List (List Int)}(b:0<=j)(c:l[j.toNat]? =A a):∃p w,ct P 152 v (D F j)=A p/\aJ P H 31 p=A w/\aI (bp aN) H ok a w:=by
 obtain⟨p,cs,d,e,w,rfl,f⟩:=aI.val (K:=bp (bp aN)) nO aG h b c;grind
def zE(l:Nat){x y:af}(aF:x.one=J)(a:y.one=J):fl l (.agg [x,y])=A (.ptr l 0 0,.row I 2 [[x,y]]):=by simp[fl,af.cells,aF,a]
theorem OW{m:Nat}{p:df}(b:fY m p){zX:Nat}{nv fv:af}{N:Nat}:∀(j k q:Nat) (H:ae),k+j=m->j<q->aI (bp (bp aN)) H ok (p.fields.map (·.map aO)) fv->H.get zX=A (.row I 2 [[nv,fv]])->
  W (wY (aK P aD) N q (.ptr zX 0 0) (D F m) fv (D F m) (D F k) H) λr H'=>r= C J/\aw H H'
 |_,_,0,_,_,hm,_,_=>aa
 |0,k,q+1,H,h,_,aB,g=>by
  have y:¬(k:Int)<(m:Int):=aa;refine bT @wY.eq_2 @BZ.eq_1 @HP.eq_1 ?_;exact aE.2 ⟨rfl,.refl _⟩
 |j+1,k,q+1,H,h,hm,aB,g=>by
  have x:=b.len;have B:=b.hm;have v:p.fields[0]? =A p.fields[0]:=al;have w:p.fields[k]? =A p.fields[k]:=al;have t:=List.getElem_mem (by omega:0<p.fields.length);have mk:=List.getElem_mem (by omega:k<p.fields.length);obtain⟨E,w0,i1,i2,i3⟩:=aB.vv (j:=0) (a:=p.fields[0].map aO) aa al;obtain⟨c,u,i,n,d⟩:=aB.vv (j:=(k:Int)) (a:=p.fields[k].map aO) aa al;have o:∀H0,bD P H0 .len [31] [w0]=A (D F 8):=λH0=>by rw[i3.len dJ,List.length_map,b.wid _ t];rfl
  have s:∀H0,bD P H0 .len [31] [u]=A (D F 8):=λH0=>by rw[d.len dJ,List.length_map,b.wid _ mk];rfl
  have on:=OW b (zX:=zX) (nv:=nv) (fv:=fv) (N:=N) j (k+1) q;have e:((8:Int) != 8)=false:=rfl;have gp:¬(8:Int)>8:=b0;refine bb @wY.eq_2 @BZ.eq_1 i1 i2 i (ag n (ag o (ag s (ag (fF g) (ag e gp))))) ?_;refine cY (Pt (λl ar a f=>b.er _ mk l ar a f) (b.dz _ mk) (by rw[b.wid _ mk];omega) d) λH1 c=> ?_
  refine bM ?_;exact(on H1 aa aa (aB.aC c) (c.get g)).mono λr H' z=>⟨z.1,c.trans z.2⟩
def acU{m:Nat}{p:df}(a:fY m p){nv fv:af}(g:aI (bp aN) H ok (p.nodes.map aO) nv)(b:aI (bp (bp aN)) H ok (p.fields.map (·.map aO)) fv):
  W (aK P aD 185 [.agg [nv,fv]] H) λr H'=>r= C J/\aw H H':=by
 refine afE (m+1) ?_;have c:=aw.push H (.row I 2 [[nv,fv]]);have e:=ae.a1 H (.row I 2 [[nv,fv]]);have i:=a.hm;have h:∀H0,bD P H0 .len [152] [fv]=A (D F (m:Nat)):=λH0=>by rw[b.len nO,List.length_map,a.len]
 have gp:¬(m:Int)>60:=aa;refine dd @HO.eq_1 (λz0=>zE z0 g.one b.one) (fF e) h gp ?_;refine cY (Pt (ls:=p.nodes) a.nodes a.nl (by have:=a.nn;omega) (g.aC c)) λH1 d=> ?_
 have f:=d.get e;refine bF (fF f) h ?_;exact(OW a m 0 _ H1 aa aa ((b.aC c).aC d) f).mono λr H' z=>⟨z.1,(c.trans d).trans z.2⟩
def hj(of:List Nat):List Nat->Int
 |[]=> -1
 |a::_=>((of.getD a 0:Nat):Int)
theorem Lz{of l:List Nat}{ov lv:af}{ok':Nat->Prop}(aX:aI aN H ok (aO of) ov)(ar:aI aN H ok' (aO l) lv)(aF:∀a∈l,a<of.length):W (aK P aD 190 [ov,lv] H) λr H'=>r= D F (hj of l)/\H'=H:=by
 refine afK 0 ?_;have hlen:(aO l).length=l.length:=by simp[aO]
 cases l with
 |nil=>
  refine bT @B8.eq_1 (ar.bf bV) hlen ?_;exact aE.2 ⟨rfl,rfl⟩
 |cons a bs=>
  have b:=aF a aW;obtain⟨p,i1,i2⟩:=ar.int (j:=0) (a:=((a:Nat):Int)) aa (by simp[aO]);obtain⟨c,i3,i4⟩:=aX.int (j:=(a:Int)) (a:=((of.getD a 0:Nat):Int)) aa (by grind[aO]);have e:(((bs.length+1:Nat):Int)==0)=false:=beq_eq_false_iff_ne.2 aa;refine bb @B8.eq_1 (ar.bf bV) hlen e i1 (ag i2 (ag i3 i4)) ?_;exact aE.2 ⟨rfl,rfl⟩
def fw(p:df)(set:List Nat)(k:Nat):List Nat:=set.flatMap λt=>p.er t k
theorem Nb{m:Nat}{p:df}(c:fY m p){set:List Nat}(i:∀t∈set,t<m)(y:set.length<=1000){cR zX B:Nat}(h:cR<8){nv fv sv:af}{ok':Nat->Prop}{N:Nat}(f:zX<B):∀(j k q:Nat) (H:ae) (l:List Int) (v:af),k+j=set.length->j<q->aI (bp (bp aN)) H (· <B) (p.fields.map (·.map aO)) fv->aI aN H (· <B) (aO set) sv->H.get zX=A (.row I 2 [[nv,fv]])->aZ aN B ba H l v->B<=H.next->l.length<=60*k->
  W (w9 (aK P aD) N q (D F (cR:Nat)) (.ptr zX 0 0) v sv (D F set.length) (D F k) H) λr H'=>aZ aN B ba H' (l++aO (fw p (set.drop k) cR)) r/\cg B H H'
 |_,_,0,_,_,_,_,hm,_,_,_,_,_,_=>aa
 |0,k,q+1,H,l,v,x,_,aB,d,g,n,e,_=>by
  have T:¬(k:Int)<(set.length:Int):=aa;refine bT @w9.eq_2 @B9.eq_1 @H2.eq_1 ?_;rw[List.drop_of_length_le aa];exact aE.2 ⟨by grind[fw,aO],.refl _ _⟩
 |j+1,k,q+1,H,l,v,x,hm,aB,d,g,n,e,hle=>by
  have b:k<set.length:=aa;have a_:=i _ (List.getElem_mem b);obtain⟨U,i1,i2⟩:=d.int (j:=(k:Int)) (a:=((set[k]:Nat):Int)) aa (by simp[aO,b]);have on:=Nb c i y h (nv:=nv) (fv:=fv) (sv:=sv) (ok':=ok') (N:=N) f j (k+1) q;rw[List.drop_eq_getElem_cons b];generalize set[k]=t at*;obtain⟨fs,O,Q,R⟩:=c.Fp a_ h;obtain⟨V,ab,E,G,K⟩:=aB.vv (j:=(t:Int)) (a:=fs.map aO) aa al;obtain⟨Y,ad,bS,b2,L⟩:=K.list (j:=(cR:Int)) (a:=aO (p.er t cR)) aa al;have S:=c.MV t cR;have w:l.length+(aO (p.er t cR)).length<=1000000000:=by simp[aO];omega
  obtain⟨M,H1,o,s,a3,a4,a5⟩:=n.ints e L w;have u:B<=H1.next:=by have:=a3.1;omega
  have nn:H.next<=H1.next:=a3.1
  refine bb @w9.eq_2 @B9.eq_1 i1 i2 (fF g) (ag E (ag G (ag bS (ag b2 o)))) ?_;refine(on H1 _ M aa aa (aB.eu a3) (d.eu a3) ((a3.2 zX f).trans g) s u (by simp[aO];omega)).mono λr H' z=>⟨?_,a3.trans z.2⟩
  grind[fw,aO]
def Nc{m:Nat}{p:df}(j:fY m p){set:List Nat}(l:∀t∈set,t<m)(o:set.length<=1000){cR:Nat}(h:cR<8){nv fv sv:af}{ok':Nat->Prop}(i:nv.one=J)(aB:aI (bp (bp aN)) H ok (p.fields.map (·.map aO)) fv)(b:aI aN H ok' (aO set) sv):
  W (aK P aD 191 [.agg [nv,fv],sv,D F (cR:Nat)] H) λr H'=>aZ aN H.next ba H' (aO (fw p set cR)) r/\aw H H':=by
 refine afL (set.length+1) ?_;have a:=aw.push H (.row I 2 [[nv,fv]]);have d:=ae.a1 H (.row I 2 [[nv,fv]]);have hlen:(aO set).length=set.length:=by simp[aO]
 refine cu @HZ.eq_1 (λz0=>zE z0 i aB.one) (b.bf bV) hlen ?_;refine(Nb j l o h (B:=H.next+1) (ok':=ok') aa set.length 0 _ _ [] .aq aa aa ((aB.below.aC a).keep (.le λL f=>aa)) ((b.below.aC a).keep (.le λL f=>aa)) d (aZ.nil aN _ _ _) aW aW).mono λr H' z=>⟨⟨?_,λL n c e=>by have:=z.1.low L n c e;omega⟩,?_⟩
 ·simpa using z.1.eS
 ·exact⟨by have:=z.2.1;simp at this;omega,λk g=>(z.2.2 k aa).trans (a.2 k g)⟩
end
end
section
open Go.a2
set_option maxRecDepth 2000
def aZ.kt{α:Type}{K:e0 α}(c:Plain K){B:Nat}{H:ae}{l:List α}{v:af}(h:aZ K B ba H l v):aI K H (λk=>B<=k) l v:=by
 rcases h.eS with ah|⟨L,els,cap,a,g,d,i,m,e⟩
 ·exact .inl ah
 ·exact .inr (.inl ⟨L,0,cap,I,els,a,h.low _ _ _ a,d,aa,λj x b=>by
   obtain⟨cs,n,f⟩:=e j x b;exact⟨cs,al,c f⟩⟩)
def acE{L set:List Nat}(h:set∈c2 L):∃r,r<L.length/\aS L r=r/\set=db L.length λs=>aS L s=r:=by
 grind[c2,vA]
def ahI{L:List Nat}(g:a2.Good L){s:Nat}(a:s<L.length):(db L.length λt=>aS L t=aS L s)∈c2 L:=by
 simp only[c2,List.mem_map];exact⟨aS L s,vA.2 ⟨g.lt a,g.id s⟩,rfl⟩
def SG{m:Nat}{p:df}{L set:List Nat}(h:dW m p L)(b:set∈c2 L):(∀t∈set,t<m)/\set.length<=m/\(∀s∈set,∀t∈set,bW p s t)/\∃t,set[0]? =A t:=by
 obtain⟨r,ah,ai,rfl⟩:=acE b;rw[h.len]at ah ⊢;refine⟨λt a_=>(g4.1 a_).1,kW _ _,λs b t a_=>h.sub s t ?_,?_⟩
 ·show aS L s=aS L t;grind[g4]
 ·have au:r∈db m λs=>aS L s=r:=g4.2 aa
  cases e:db m λs=>aS L s=r with
  |nil=>grind
  |cons a l=>exact⟨a,rfl⟩
def s6{p:df}{set:List Nat}{k a:Nat}:a∈fw p set k↔∃t∈set,a∈p.er t k:=by simp[fw]
def Z9{m:Nat}{p:df}(a:fY m p)(set:List Nat)(k:Nat):(fw p set k).length<=60*set.length:=by
 unfold fw
 induction set with
 |nil=>simp
 |cons t ts b=>simp only[List.flatMap_cons,List.length_append,List.length_cons];have:=a.MV t k;omega
section
variable {zD m:Nat}{p:df}{ok GA okv:Nat->Prop}{nv fv sv:af}{zX:Nat}
theorem ML{set:List Nat}(f:fY m p)(ad:∀k,ok k->k≠zD)(aj:∀k,GA k->k≠zD)(v:zX≠zD)(z:nv.one=J)(B:∀t∈set,t<m)(ak:set.length<=m)(G:∀s∈set,∀t∈set,bW p s t){x10 x11 x12:af}{L1:af->af->af->af->af->af->ae->O}{Q:af->ae->Prop}{N:Nat}:
  ∀(j k q:Nat) (L:List Nat) (b:Bool) (H:ae),k+j=8->j<q->fr zD L H->dW m p L->aI (bp (bp aN)) H ok (p.fields.map (·.map aO)) fv->aI aN H GA (aO set) sv->H.get zX=A (.row I 2 [[nv,fv]])->
  (∀(L':List Nat) (b':Bool) (H':ae),fr zD L' H'->dW m p L'->ja L L'->(b'=J->b=J\/hO L'<hO L)->(b'=I->b=I/\L'=L)->(∀cR,k<=cR->cR<8->∀a∈fw p set cR,∀c∈fw p set cR,en L' a c)->fZ (· =zD) H H'->
   W (rO (aK P aD) N L1 (.ptr (zD+1) 0 0) (.ptr zX 0 0) (C b') x10 x11 x12 H') Q)->
  W (w4 (aK P aD) N L1 q (.ptr (zD+1) 0 0) (.ptr zX 0 0) (C b) sv x10 x11 x12 (D F 8) (D F k) H) Q
 |_,_,0,_,_,_,_,hm,_,_,_,_,_,_=>aa
 |0,k,q+1,L,b,H,Y,_,h,l,aB,r,g,fin=>by
  have ax:¬(k:Int)<8:=aa;refine bF @w4.eq_2 @B2.eq_1 ?_;exact fin L b H h l (.refl h.g) (λe=> .inl e) (λe=>⟨e,rfl⟩) aa (.refl _ _)
 |j+1,k,q+1,L,b,H,Y,hm,h,l,aB,r,g,fin=>by
  have ab:k<8:=aa;have aE:=f.hm;have on:=ML f ad aj v z B ak G (x10:=x10) (x11:=x11) (x12:=x12) (L1:=L1) (Q:=Q) (N:=N) j (k+1) q;refine bT @w4.eq_2 @B2.eq_1 (m0 g) ?_;refine e2 (Nc f B aa ab z aB r) λgv H1 ao S=> ?_
  have ar:=h.lt;have V:=l.len;have au:=Z9 f set k;have o:∀x∈fw p set k,x<L.length:=λx aF=>by
   obtain⟨t,_,ai⟩:=s6.1 aF;rw[V];exact(f.toMay.dz ai).1
  have am:∀a∈fw p set k,∀c∈fw p set k,bW p a c:=λa n c aA=>by
   obtain⟨s,ah,ai⟩:=s6.1 n;obtain⟨t,ay,aM⟩:=s6.1 aA;exact .field (G s ah t ay) ai aM
  refine bM ?_;refine cB (TJ (ok:=λq=>H.next<=q) aa aa (h.aC S) aa o (ao.kt fy)) ?_;rintro _ d ⟨T,rfl,ai,M,ap,U⟩;refine⟨M.1,?_⟩;have i:=(S.mut (· =zD)).trans M;have R:=l.TE al am;have K:=JF h.g o;have rel:=TH h.g o;have y:aI (bp (bp aN)) d ok (p.fields.map (·.map aO)) fv:=aB.keep (.mut i aa);have E:aI aN d GA (aO set) sv:=r.keep (.mut i aa);have u:d.get zX=A (.row I 2 [[nv,fv]]):=i.get g v;have w:∀{L':List Nat},ja (qH L (fw p set k)) L'->(∀cR,k+1<=cR->cR<8->∀a∈fw p set cR,∀c∈fw p set cR,en L' a c)->∀cR,k<=cR->cR<8->∀a∈fw p set cR,∀c∈fw p set cR,en L' a c:=λan av cR ah ai a n c aA=>by
   by_cases e:cR=k
   ·subst e;exact an.le _ _ (rel a n c aA)
   grind
  cases T with
  |true=>
   refine bK @HV.eq_1 ?_;refine on _ J d aa aa ai R y E u ?_;intro L' b' H' f1 f2 f3 f4 f5 f6 f7;have aL:=ap rfl;have hle:=f3.rA;exact fin L' b' H' f1 f2 (K.trans f3) aa al (w f3 f6) (i.trans f7)
  |false=>
   refine bK @HV.eq_1 ?_;refine on _ b d aa aa ai R y E u ?_;intro L' b' H' f1 f2 f3 f4 f5 f6 f7;have aL:=U rfl;exact fin L' b' H' f1 f2 (K.trans f3) al al (w f3 f6) (i.trans f7)
theorem M3(f:fY m p)(w:∀k,ok k->k≠zD)(x:∀k,okv k->k≠zD)(i:zX≠zD)(v:nv.one=J){L0:List Nat}(d:dW m p L0){xv:af}{N:Nat}(t:8<N):
  ∀(j k q:Nat) (L:List Nat) (b:Bool) (H:ae),k+j=(c2 L0).length->j<q->fr zD L H->dW m p L->aI (bp (bp aN)) H ok (p.fields.map (·.map aO)) fv->aI (bp aN) H okv ((c2 L0).map aO) xv->H.get zX=A (.row I 2 [[nv,fv]])->
  W (w3 (aK P aD) N q (.ptr (zD+1) 0 0) (.ptr zX 0 0) (C b) xv (D F (c2 L0).length) (D F k) H) λr H'=>∃L' b',r= C b'/\fr zD L' H'/\dW m p L'/\ja L L'/\(b'=J->b=J\/hO L'<hO L)/\(b'=I->b=I/\L'=L)/\(∀set∈(c2 L0).drop k,∀cR,cR<8->∀a∈fw p set cR,∀c∈fw p set cR,en L' a c)/\fZ (· =zD) H H'
 |_,_,0,_,_,_,_,hm,_,_,_,_,_=>aa
 |0,k,q+1,L,b,H,E,_,h,n,aB,l,g=>by
  have ak:¬(k:Int)<((c2 L0).length:Int):=aa;refine bT @w3.eq_2 @B1.eq_1 @tV.eq_1 ?_;exact aE.2 ⟨L,b,rfl,h,n,.refl h.g,λe=> .inl e,λe=>⟨e,rfl⟩,al,.refl _ _⟩
 |j+1,k,q+1,L,b,H,E,hm,h,n,aB,l,g=>by
  have u:k<(c2 L0).length:=aa;have an:(c2 L0).length<=m:=by
   have:=tz (L:=L0) L0.length;rw[d.len]at this;simpa [c2,d.len]using this
  have am:=f.hm;have on:=M3 f w x i v d (xv:=xv) t j (k+1) q;obtain⟨ah,ai,ay,t0,aM⟩:=SG d (List.getElem_mem u);obtain⟨ap,aF,i1,i2,i3⟩:=l.list (j:=(k:Int)) (a:=aO (c2 L0)[k]) aa al;rw[List.drop_eq_getElem_cons u];generalize (c2 L0)[k]=set at*;have G:=ah t0 (List.mem_of_getElem? aM);obtain⟨ar,K,M⟩:=i3.int (j:=0) (a:=((t0:Nat):Int)) aa (by simp[aO,aM]);obtain⟨fs,Y,ab,B⟩:=f.Fp G (show 0<8 by omega);obtain⟨au,V,bS,b2,O⟩:=aB.vv (j:=(t0:Int)) (a:=fs.map aO) aa al;have Q:∀H0,bD P H0 .len [31] [V]=A (D F 8):=λH0=>by rw[O.len dJ,List.length_map,B];rfl
  refine bb @w3.eq_2 @B1.eq_1 i1 i2 K (ag M (ag (fF g) (ag bS (ag b2 Q)))) ?_;refine ML f w x i v ah ai ay 8 0 N L b H aa t h n aB i3 g ?_;intro L1 z H1 f1 f2 f3 f4 f5 f6 f7;refine bK @rO.eq_1 ?_;refine(on L1 z H1 aa aa f1 f2 (aB.keep (.mut f7 aa)) (l.keep (.mut f7 aa)) (f7.get g i)).mono ?_;rintro r H' ⟨L',b',R,S,T,o,av,ax,aC,U⟩;have cX:=f3.rA;have ao:=o.rA;refine⟨L',b',R,S,T,f3.trans o,λe=> ?_,λe=> ?_,λs y cR aj a ad c aA=> ?_,f7.trans U⟩
  ·grind
  ·grind
  ·rcases List.mem_cons.1 y with rfl|y
   ·exact o.le _ _ al
   grind
def Zp(d:fY m p)(o:∀k,ok k->k≠zD){L:List Nat}{H:ae}(h:fr zD L H)(i:dW m p L)(n:nv.one=J)(aB:aI (bp (bp aN)) H ok (p.fields.map (·.map aO)) fv):
  W (aK P aD 188 [.ptr (zD+1) 0 0,.agg [nv,fv]] H) λr H'=>∃L' b,r= C b/\fr zD L' H'/\dW m p L'/\ja L L'/\(b=J->hO L'<hO L)/\(b=I->L'=L/\ki p L)/\fZ (· =zD) H H':=by
 refine afH (m+9) ?_;have v:=aw.push H (.row I 2 [[nv,fv]]);have x:=ae.a1 H (.row I 2 [[nv,fv]]);have S:=d.hm;have R:=i.len;have Q:=h.lt;refine bF @HU.eq_1 (λz0=>zE z0 n aB.one) ?_;refine cB (SQ (h.aC v) aa) ?_;rintro xv H1 ⟨ah,s1,f⟩;refine⟨f.1,?_⟩;have U:(c2 L).length<=m:=by
  have:=tz (L:=L) L.length;simp only[c2,List.length_map];omega
 have z:∀H0,bD P H0 .len [31] [xv]=A (D F (c2 L).length):=λH0=>by rw[s1.len dJ,List.length_map]
 refine bK z ?_;have q:=(v.mut (· =zD)).trans f;refine(M3 d o (okv:=λk=>(H.push (.row I 2 [[nv,fv]])).next<=k) (λk c e=>by simp at c;omega) (zX:=H.next) aa n i aa (c2 L).length 0 _ L I H1 aa aa ah i (aB.keep (.mut q λk c e=>o k c e)) s1 (f.get x aa)).mono ?_;rintro r H' ⟨L',b',B,E,G,K,M,w,N,O⟩;refine⟨L',b',B,E,G,K,λe=>(M e).resolve_left b0,λe=>⟨(w e).2,⟨λs t k a b y j l=> ?_⟩⟩,q.trans O⟩;obtain⟨-,T,c⟩:=d.toMay.dz j;obtain⟨-,a_,-⟩:=d.toMay.dz l;rw[<-(w e).2];refine N (db L.length λu=>aS L u=aS L s) (by rw[List.drop_zero];exact ahI h.g (show s<L.length by omega)) k c a (s6.2 ⟨s,g4.2 ⟨aa,rfl⟩,j⟩) b (s6.2 ⟨t,g4.2 ⟨aa,y.symm⟩,l⟩)
end
end
section
open Go.a2
set_option maxRecDepth 2000
section
variable {zD m:Nat}{p:df}{ok:Nat->Prop}{nv fv:af}{zX R:Nat}
theorem Pk(c:fY m p)(u:∀k,ok k->k≠zD){x2:af}{Q:af->ae->Prop}{N:Nat}:
  ∀(j k q:Nat) (L:List Nat) (H:ae),k+j=p.nodes.length->j<q->fr zD L H->dW m p L->aI (bp aN) H ok (p.nodes.map aO) nv->(∀l∈p.nodes.take k,∀a∈l,∀b∈l,en L a b)->
  (∀(L':List Nat) (H':ae),fr zD L' H'->dW m p L'->ic p L'->fZ (· =zD) H H'->W (Bs (aK P aD) N (.ptr zX 0 0) x2 (.ptr (zD+1) 0 0) H') Q)->
  W (wy (aK P aD) N q (.ptr zX 0 0) x2 (.ptr (zD+1) 0 0) nv (D F p.nodes.length) (D F k) H) Q
 |_,_,0,_,_,_,hm,_,_,_,_,_=>aa
 |0,k,q+1,L,H,y,_,h,n,aB,f,fin=>by
  have M:¬(k:Int)<(p.nodes.length:Int):=aa;refine bF @wy.eq_2 @Bo.eq_1 ?_;rw[List.take_of_length_le aa]at f;exact fin L H h n ⟨f⟩ (.refl _ _)
 |j+1,k,q+1,L,H,y,hm,h,n,aB,f,fin=>by
  have t:k<p.nodes.length:=aa;have O:=c.hm;have R:=c.nn;have w:=n.len;have on:=Pk c u (x2:=x2) (Q:=Q) (N:=N) j (k+1) q;have r:=List.getElem_mem t;obtain⟨T,U,i1,i2,i3⟩:=aB.list (j:=(k:Int)) (a:=aO p.nodes[k]) aa al;rw[List.take_add_one,List.getElem?_eq_getElem t]at on;generalize p.nodes[k]=l at*;have o:∀x∈l,x<L.length:=λx aF=>by rw[w];exact c.nodes l r x aF
  refine cu @wy.eq_2 @Bo.eq_1 i1 i2 ?_;refine cB (TJ u (by have:=c.nl l r;omega) h aa o i3) ?_;rintro _ v ⟨G,rfl,ai,s,S,K⟩;refine⟨s.1,?_⟩;have E:=n.TE al λa d b e=> .node r d e
  have z:=JF h.g o;refine bM ?_;refine on _ v aa aa ai E (aB.keep (.mut s aa)) (λB i a d b e=> ?_) λL' H' f1 f2 f3 f4=>fin L' H' f1 f2 f3 (s.trans f4)
  simp only[Option.toList,List.mem_append,List.mem_singleton]at i;rcases i with i|rfl
  ·exact z.le _ _ (f B i a d b e)
  ·exact TH h.g o a d b e
theorem O5(f:fY m p)(e:∀k,ok k->k≠zD)(c:zX≠zD)(d:nv.one=J){x2:af}{Q:af->ae->Prop}{N:Nat}:
  ∀(q:Nat) (L:List Nat) (H:ae),hO L<q->fr zD L H->dW m p L->ic p L->aI (bp (bp aN)) H ok (p.fields.map (·.map aO)) fv->H.get zX=A (.row I 2 [[nv,fv]])->
  (∀(L':List Nat) (H':ae),fr zD L' H'->dW m p L'->ic p L'->ki p L'->fZ (· =zD) H H'->W (Bt (aK P aD) N (.ptr zX 0 0) x2 (.ptr (zD+1) 0 0) H') Q)->
  W (Bw (aK P aD) N q (.ptr zX 0 0) x2 (.ptr (zD+1) 0 0) H) Q
 |0,_,_,hm,_,_,_,_,_,_=>aa
 |q+1,L,H,hm,h,l,aL,aB,g,fin=>by
  refine bT @Bw.eq_2 @Hk.eq_1 (m0 g) ?_;refine cB (Zp f e h l d aB) ?_;rintro _ H1 ⟨L1,b,rfl,ah,n,j,cX,i,a⟩;refine⟨a.1,?_⟩;cases b with
  |true=>
   have:=cX rfl;refine bM ?_;exact O5 f e c d (x2:=x2) (Q:=Q) (N:=N) q L1 H1 aa ah n (aL.Ab j) (aB.keep (.mut a aa)) (a.get g c) λL' H' f1 f2 f3 f4 f5=>fin L' H' f1 f2 f3 f4 (a.trans f5)
  |false=>
   obtain⟨rfl,aA⟩:=i rfl;refine bM ?_;grind
def bl(n:Nat)(a b c:af):List af:=[D F (n:Nat),a,b,c]
def hb{H:ae}{zC n:Nat}{a b c:af}(g:H.get zC=A (.row I 4 [bl n a b c])):aJ P H 3 (.ptr zC 0 0)=A (D F (n:Nat))/\aJ P H 30 (.ptr zC 0 1)=A a/\aJ P H 30 (.ptr zC 0 2)=A b/\aJ P H 31 (.ptr zC 0 3)=A c:=by
 refine⟨?_,?_,?_,?_⟩<;>(rw[eW aG g rfl];rfl)
def kq{H:ae}{zC n:Nat}{a b c:af}(g:H.get zC=A (.row I 4 [bl n a b c])):aJ P H 33 (.ptr zC 0 0)=A (.agg (bl n a b c)):=hA (n:=4) (i:=0) (c:=0) aG aG g rfl b0
theorem Ta{H:ae}{zC n:Nat}{a b c v:af}(g:H.get zC=A (.row I 4 [bl n a b c]))(e:v.one=J):cz P H 30 (.ptr zC 0 2) v=A (H.set zC (.row I 4 [bl n a v c])):=by
 have d:=dn e;rw[fb (n:=1) aG g rfl al al b0,d];rfl
theorem Tb{H:ae}{zC n:Nat}{a b c v:af}(g:H.get zC=A (.row I 4 [bl n a b c]))(e:v.one=J):cz P H 31 (.ptr zC 0 3) v=A (H.set zC (.row I 4 [bl n a b v])):=by
 have d:=dn e;rw[fb (n:=1) aG g rfl al al b0,d];rfl
def k1{H:ae}{zC:Nat}{n:Nat}{a b c:af}{r:List af}(g:H.get zC=A (.row I 4 [r]))(au:r.length=4)(d:a.one=J)(f:b.one=J)(aA:c.one=J):cz P H 33 (.ptr zC 0 0) (.agg (bl n a b c))=A (H.set zC (.row I 4 [bl n a b c])):=by
 rw[fb (n:=4) aG g (e:=r) rfl (by simp[af.cells,bl]) (by simp[af.cells,bl,d,f,aA];rfl) b0]
 match r,au with
 |[_,_,_,_],_=>simp[af.cells,bl,gl]
theorem PT{zF zC i:Nat}{set:List Nat}{ok':Nat->Prop}(p:∀k,ok' k->k<zF)(l:zF<zC)(h:∀s∈set,s<m)(hm:m<=60)(u:set.length<=60){x1 x2 x7 x50 x51 x52 nn ff sv:af}{cnt:Nat}{L10:af->af->af->af->af->af->af->ae->O}{Q:af->ae->Prop}{N:Nat}:
  ∀(j k q:Nat) (U:List Nat) (H:ae),k+j=set.length->j<q->U.length=m->H.get zF=A (.row I 1 (eD U))->H.get zC=A (.row I 4 [bl cnt (.az zF 0 m 1 (A m)) nn ff])->aI aN H ok' (aO set) sv->
  (∀(c:List Nat) (H':ae),c.length=m->(∀s,aS c s=if s∈set.drop k then i else aS U s)->H'.get zF=A (.row I 1 (eD c))->(∀q,q≠zF->H'.get q=H.get q)->H'.next=H.next->W (wo (aK P aD) N L10 x1 x2 x7 (.ptr zC 0 0) x50 x51 x52 H') Q)->
  W (wv (aK P aD) N L10 q x1 x2 x7 (.ptr zC 0 0) (D F i) x50 x51 x52 sv (D F set.length) (D F k) H) Q
 |_,_,0,_,_,_,aH,_,_,_,_,_=>aa
 |0,k,q+1,U,H,o,_,n,d,b5,f,fin=>by
  have w:¬(k:Int)<(set.length:Int):=aa;refine bF @wv.eq_2 @Bn.eq_1 ?_;grind
 |j+1,k,q+1,U,H,o,aH,n,d,b5,f,fin=>by
  have e:k<set.length:=aa;have on:=PT (i:=i) p l h hm u (x1:=x1) (x2:=x2) (x7:=x7) (x50:=x50) (x51:=x51) (x52:=x52) (nn:=nn) (ff:=ff) (sv:=sv) (cnt:=cnt) (L10:=L10) (Q:=Q) (N:=N) j (k+1) q;have r:=h _ (List.getElem_mem e);obtain⟨x,i1,i2⟩:=f.int (j:=(k:Int)) (a:=((set[k]:Nat):Int)) aa (by simp[aO,e]);rw[List.drop_eq_getElem_cons e]at fin;generalize set[k]=s at*;have st:=D0 d (show s<U.length by omega) i;have v:=ae.bm d;refine bb @wv.eq_2 @Bn.eq_1 i1 i2 (hb b5) (ag (im bV r) st) ?_;refine on (U.set s i) _ aa aa al (ae.cO v) (by grind[ae.b_]) (f.keep λq b aH g=>(by grind[ae.b_])) λc H' f1 f2 f3 f4 f5=>fin c H' f1 (λt=> ?_) f3 (by grind[ae.b_]) (by rw[f5];simp)
  grind[vu]
end
end
section
open Go.a2
set_option maxRecDepth 2000
section
variable {m:Nat}{p:df}
theorem ahH{L:List Nat}{i:Nat}{set:List Nat}(h:(c2 L)[i]? =A set):∃r,(gj L L.length)[i]? =A r/\set=db L.length λs=>aS L s=r:=by
 grind[c2]
def aa9{L:List Nat}(g:a2.Good L){i r:Nat}(h:(gj L L.length)[i]? =A r):g2 L r=i:=by
 have au:=vA.1 (List.mem_of_getElem? h);exact Ql (A1 g au.2 au.1) h
theorem PU{zF zC:Nat}{L:List Nat}{ok':Nat->Prop}(t:∀k,ok' k->k<zF)(p:zF<zC)(u:L.length=m)(hm:m<=60)(g:a2.Good L){x1 x2 nn ff sv:af}{cnt:Nat}{Q:af->ae->Prop}{N:Nat}(v:61<N):
  ∀(j k q:Nat) (U:List Nat) (H:ae),k+j=(c2 L).length->j<q->U.length=m->(∀s,s<m->g2 L (aS L s)<k->aS U s=g2 L (aS L s))->H.get zF=A (.row I 1 (eD U))->H.get zC=A (.row I 4 [bl cnt (.az zF 0 m 1 (A m)) nn ff])->aI (bp aN) H ok' ((c2 L).map aO) sv->
  (∀(d:List Nat) (H':ae),d.length=m->(∀s,s<m->aS d s=g2 L (aS L s))->H'.get zF=A (.row I 1 (eD d))->(∀q,q≠zF->H'.get q=H.get q)->H'.next=H.next->W (tK (aK P aD) N x1 x2 sv (.ptr zC 0 0) H') Q)->
  W (wu (aK P aD) N q x1 x2 sv (.ptr zC 0 0) sv (D F (c2 L).length) (D F k) H) Q
 |_,_,0,_,_,_,aH,_,_,_,_,_,_=>aa
 |0,k,q+1,U,H,x,_,h,l,f,b5,n,fin=>by
  have M:¬(k:Int)<((c2 L).length:Int):=aa;refine bF @wu.eq_2 @Bm.eq_1 ?_;refine fin U H h (λs c=>l s c ?_) f (λ_ _=>rfl) rfl;have:=(List.getElem?_eq_some_iff.1 (A1 (m:=L.length) g (g.id s) (by have:=g.le s;omega))).1;grind[c2]
 |j+1,k,q+1,U,H,x,aH,h,l,f,b5,n,fin=>by
  have y:k<(c2 L).length:=aa;have on:=PU t p u hm g (x1:=x1) (x2:=x2) (nn:=nn) (ff:=ff) (sv:=sv) (cnt:=cnt) (Q:=Q) v j (k+1) q;obtain⟨S,w,i1,i2,i3⟩:=n.list (j:=(k:Int)) (a:=aO (c2 L)[k]) aa al;obtain⟨r,au,e⟩:=ahH (List.getElem?_eq_getElem y);have K:=aa9 g au;have R:(c2 L).length<=m:=by
   grind[tz,c2]
  generalize (c2 L)[k]=set at*;have O:set.length<=m:=by grind[kW]
  have z:∀s∈set,s<m/\aS L s=r:=λs c=>by grind[g4]
  have lw:∀H0,bD P H0 .len [30] [w]=A (D F set.length):=λH0=>by rw[i3.len bV];simp[aO]
  refine dd @wu.eq_2 @Bm.eq_1 i1 i2 lw ?_;refine PT (i:=k) (set:=set) t p (λs c=>(z s c).1) hm aa set.length 0 N U H aa aa h f b5 i3 ?_;intro eP H1 f1 f2 f3 f4 f5;refine bK @wo.eq_1 ?_;refine on eP H1 aa aa f1 (λs c aP=> ?_) f3 al (n.keep λq b aH g=>⟨aH,al⟩) λd H' B E z3 z4 z5=>fin d H' B E z3 (λq aH=>(z4 q aH).trans (f4 q aH)) (z5.trans f5)
  rw[f2 s,List.drop_zero];by_cases o:s∈set
  ·grind
  ·rw[if_neg o];refine l s c ?_;have:g2 L (aS L s)≠k:=λG=>o (by
    have ah:=A1 (m:=L.length) g (g.id s) (by have:=g.le s;omega);grind[g4])
   omega
theorem Pv{zF zC:Nat}{U:List Nat}{ok:Nat->Prop}(n:fY m p)(R:∀k,ok k->k<zC)(r:zF<zC)(h:U.length=m){x1 x2 x7 nv:af}{cnt:Nat}{Q:af->ae->Prop}{N:Nat}:
  ∀(j k q:Nat) (done:List Int) (dv:af) (H:ae),k+j=p.nodes.length->j<q->done=(p.nodes.take k).map (hj U)->aZ aN (zC+1) ba H done dv->H.get zF=A (.row I 1 (eD U))->H.get zC=A (.row I 4 [bl cnt (.az zF 0 m 1 (A m)) dv .aq])->aI (bp aN) H ok (p.nodes.map aO) nv->
  (∀(c:af) (H':ae),aZ aN (zC+1) ba H' (p.nodes.map (hj U)) c->H'.get zC=A (.row I 4 [bl cnt (.az zF 0 m 1 (A m)) c .aq])->(∀q,q<zC->H'.get q=H.get q)->H.next<=H'.next->W (Bu (aK P aD) N x1 x2 x7 (.ptr zC 0 0) H') Q)->
  W (wB (aK P aD) N q x1 x2 x7 (.ptr zC 0 0) nv (D F p.nodes.length) (D F k) H) Q
 |_,_,0,_,_,_,_,aH,_,_,_,_,_,_=>aa
 |0,k,q+1,done,dv,H,G,_,B,ar,f,b5,i,fin=>by
  have ah:¬(k:Int)<(p.nodes.length:Int):=aa;refine bF @wB.eq_2 @Br.eq_1 ?_;grind
 |j+1,k,q+1,done,dv,H,G,aH,B,ar,f,b5,i,fin=>by
  have K:k<p.nodes.length:=aa;have ai:=n.nn;have on:=Pv n R r h (x1:=x1) (x2:=x2) (x7:=x7) (nv:=nv) (cnt:=cnt) (Q:=Q) (N:=N) j (k+1) q;obtain⟨u,w,i1,i2,i3⟩:=i.list (j:=(k:Int)) (a:=aO p.nodes[k]) aa al;have M:=List.getElem_mem K;have E:done++[hj U p.nodes[k]]=(p.nodes.take (k+1)).map (hj U):=by
   grind[List.take_add_one]
  have ab:done.length<=1000000:=al;generalize p.nodes[k]=l at*;have O:aI aN H ba (aO U) (.az zF 0 m 1 (A m)):= .inr (.inl ⟨zF,0,A m,I,_,by simp[aO,h,aN],trivial,f,by simp[aO,eD],λj x ad=>⟨[D F x],by
   grind[aO,eD],rfl⟩⟩)
  have iS:=ae.bm b5;refine dd @wB.eq_2 @Br.eq_1 i1 i2 (hb b5) ?_;refine dK (Lz O i3 λa z=>by rw[h];exact n.nodes l M a z) ?_;obtain⟨o,H1,v,d,a3,a4,a5⟩:=ar.j4 (a:=hj U l) aa aa;have u:=aw.push H (.row I 1 [[D F (hj U l)]]);have y:=(a3.2 zC aa).trans b5;have Y:(H.push (.row I 1 [[D F (hj U l)]])).next<=H1.next:=by grind[ae.fW]
  have rd:af.beq dv dv=true:=ar.az.rd;have S:bG (A dv) dv=true:=by simp[bG,rd]
  have st:=Ta y d.az.one;refine bb (hb b5) (hb (u.get b5)) @c3 v st S ?_;have t:∀q,q≠zC->(H1.set zC (.row I 4 [bl cnt (.az zF 0 m 1 (A m)) o .aq])).get q=H1.get q:=λq aH=>ae.b_ (Ne.symm aH)
  have s:∀q,q<zC->(H1.set zC (.row I 4 [bl cnt (.az zF 0 m 1 (A m)) o .aq])).get q=H.get q:=λq aH=>(t q aa).trans (a3.2 q aa)
  refine on _ o _ aa aa E (d.frame fy λL e=>t L (by have:=(d.jy e).1;omega)) ((s zF r).trans f) (ae.cO aa) (i.keep λq b aH g=>⟨aH,al⟩) λc H' T V z3 z4=>fin c H' T V (λq aH=>(z3 q aH).trans (s q aH)) (by simp at z4;omega)
end
end
section
open Go.a2
set_option maxRecDepth 2000
section
variable {m:Nat}{p:df}
theorem Jq{H:ae}{U:List Nat}{zF:Nat}(c:U.length=m)(a:H.get zF=A (.row I 1 (eD U)))(ok:Nat->Prop)(b:ok zF):aI aN H ok (aO U) (.az zF 0 m 1 (A m)):= .inr (.inl ⟨zF,0,A m,I,_,by simp[aO,c,aN],b,a,by simp[aO,eD],λj x d=>⟨[D F x],by
 grind[aO,eD],rfl⟩⟩)
theorem MK{zF zC B cnt zX:Nat}{U set:List Nat}(f:fY m p)(y:zF<B)(w:zC<B)(z:zX<B)(o:U.length=m)(G:∀t∈set,t<m)(ad:set.length<=m){nv fv sv nn ff x2 x87 x88 x89:af}(E:nv.one=J){L5:af->af->af->af->af->af->ae->O}{Q:af->ae->Prop}{N:Nat}:
  ∀(j k q:Nat) (l:List Int) (lv:af) (H:ae),k+j=8->j<q->B<=H.next->l=(List.range k).map (λcR=>hj U (fw p set cR))->aZ aN B ba H l lv->aI (bp (bp aN)) H (· <B) (p.fields.map (·.map aO)) fv->aI aN H (· <B) (aO set) sv->H.get zX=A (.row I 2 [[nv,fv]])->H.get zF=A (.row I 1 (eD U))->H.get zC=A (.row I 4 [bl cnt (.az zF 0 m 1 (A m)) nn ff])->
  (∀(g:af) (H':ae),aZ aN B ba H' ((List.range 8).map λcR=>hj U (fw p set cR)) g->cg B H H'->W (Bv (aK P aD) N L5 (.ptr zX 0 0) x2 (.ptr zC 0 0) g x87 x88 x89 H') Q)->
  W (wA (aK P aD) N L5 q (.ptr zX 0 0) x2 (.ptr zC 0 0) sv lv x87 x88 x89 (D F 8) (D F k) H) Q
 |_,_,0,_,_,_,_,aH,_,_,_,_,_,_,_,_,_=>aa
 |0,k,q+1,l,lv,H,V,_,v,d,ar,aB,r,aQ,h,b5,fin=>by
  have ao:¬(k:Int)<8:=aa;refine bF @wA.eq_2 @Bq.eq_1 ?_;obtain rfl:k=8:=aa;subst d;exact fin lv H ar (.refl _ _)
 |j+1,k,q+1,l,lv,H,V,aH,v,d,ar,aB,r,aQ,h,b5,fin=>by
  have Y:k<8:=aa;have au:=f.hm;have on:=MK f y w z o G ad (nv:=nv) (fv:=fv) (sv:=sv) (nn:=nn) (ff:=ff) (x2:=x2) (x87:=x87) (x88:=x88) (x89:=x89) (cnt:=cnt) E (L5:=L5) (Q:=Q) (N:=N) j (k+1) q;have S:l++[hj U (fw p set k)]=(List.range (k+1)).map (λcR=>hj U (fw p set cR)):=by rw[d,List.range_succ,List.map_append];rfl
  have ap:l.length<=100:=by rw[d];simp;omega
  refine bT @wA.eq_2 @Bq.eq_1 (m0 aQ) ?_;refine e2 (Nc f G aa Y E aB r) λgv H1 ah b=> ?_
  have T:∀x∈fw p set k,x<U.length:=λx aF=>by
   obtain⟨t,_,ai⟩:=s6.1 aF;rw[o];exact(f.toMay.dz ai).1
  have u:=b.get b5;have M:=b.get h;refine bK (hb u) ?_;refine dK (Lz (Jq o M ba trivial) ah.az T) ?_;generalize hj U (fw p set k)=c at*;have ab:=ar.aC b;have R:B<=H1.next:=by have:=b.1;omega
  obtain⟨ak,s,K,L,a3,a4,a5⟩:=ab.j4 (a:=c) R aa;have pp:=aw.push H1 (.row I 1 [[D F c]]);have an:(H1.push (.row I 1 [[D F c]])).next<=s.next:=by rw[ae.fW];exact a4
  have aj:∀l i n e q,bG (A (.az l i n e q)) (.az l i n e q)=true:=λl i n e q=>by simp[bG,af.beq]
  have pu:=(ek b v).trans a3;refine dd @c3 K (hb b5) (hb u) aj ?_;exact on _ ak s aa aa (by have:=a3.1;omega) S L (aB.eu pu) (r.eu pu) ((pu.2 zX z).trans aQ) ((pu.2 zF y).trans h) ((pu.2 zC w).trans b5) λg H' al am=>fin g H' al (pu.trans am)
theorem qB(l:Nat){v:af}(a:v.one=J):gu P l 31 1 [(0,v)]=A (.az l 0 1 1 (A 1),.row I 1 [[v]]):=(by grind[ng,dJ,dn])
theorem M1{zF zC E cnt zX:Nat}{U L:List Nat}(e:fY m p)(O:zF<zC)(r:zC<E)(R:zX<zF)(t:U.length=m)(i:dW m p L){nv fv sv nn x2:af}(u:nv.one=J){Q:af->ae->Prop}{N:Nat}(s:8<N):
  ∀(j k q:Nat) (done:List (List Int)) (dv:af) (H:ae),k+j=(c2 L).length->j<q->E<=H.next->done=((c2 L).take k).map (λset=>(List.range 8).map λcR=>hj U (fw p set cR))->aZ (bp aN) E (E<= ·) H done dv->aI (bp (bp aN)) H (· <zF) (p.fields.map (·.map aO)) fv->aI (bp aN) H (· <zF) ((c2 L).map aO) sv->H.get zX=A (.row I 2 [[nv,fv]])->H.get zF=A (.row I 1 (eD U))->H.get zC=A (.row I 4 [bl cnt (.az zF 0 m 1 (A m)) nn dv])->
  (∀(d:af) (H':ae),aZ (bp aN) E (E<= ·) H' ((c2 L).map λset=>(List.range 8).map λcR=>hj U (fw p set cR)) d->H'.get zC=A (.row I 4 [bl cnt (.az zF 0 m 1 (A m)) nn d])->(∀q,q<E->q≠zC->H'.get q=H.get q)->H.next<=H'.next->W (rJ (aK P aD) N x2 (.ptr zC 0 0) H') Q)->
  W (wz (aK P aD) N q (.ptr zX 0 0) x2 (.ptr zC 0 0) sv (D F (c2 L).length) (D F k) H) Q
 |_,_,0,_,_,_,_,aH,_,_,_,_,_,_,_,_,_=>aa
 |0,k,q+1,done,dv,H,V,_,o,S,ar,aB,h,aQ,n,b5,fin=>by
  have aJ:¬(k:Int)<((c2 L).length:Int):=aa;refine bF @wz.eq_2 @Bp.eq_1 ?_;grind
 |j+1,k,q+1,done,dv,H,V,aH,o,S,ar,aB,h,aQ,n,b5,fin=>by
  have Y:k<(c2 L).length:=aa;have aP:=e.hm;have aR:(c2 L).length<=m:=by
   have:=tz (L:=L) L.length;have:=i.len;grind[c2]
  have on:=M1 e O r R t i (nv:=nv) (fv:=fv) (sv:=sv) (nn:=nn) (x2:=x2) (cnt:=cnt) u (Q:=Q) s j (k+1) q;have T:done++[(List.range 8).map λcR=>hj U (fw p (c2 L)[k] cR)]=((c2 L).take (k+1)).map (λset=>(List.range 8).map λcR=>hj U (fw p set cR)):=by
   grind[List.take_add_one]
  have aG:done.length<=100:=al;obtain⟨ah,ai,ay,t0,aM⟩:=SG i (List.getElem_mem Y);obtain⟨aT,aW,i1,i2,i3⟩:=h.list (j:=(k:Int)) (a:=aO (c2 L)[k]) aa al;generalize (c2 L)[k]=set at*;have aj:=ah t0 (List.mem_of_getElem? aM);obtain⟨aU,ak,am⟩:=i3.int (j:=0) (a:=((t0:Nat):Int)) aa (by simp[aO,aM]);obtain⟨fs,aE,aF,z⟩:=e.Fp aj (show 0<8 by omega);obtain⟨aV,ap,bS,b2,an⟩:=aB.vv (j:=(t0:Int)) (a:=fs.map aO) aa al;have ao:∀H0,bD P H0 .len [31] [ap]=A (D F 8):=λH0=>by rw[an.len dJ,List.length_map,z];rfl
  have iS:=ae.bm b5;refine bb @wz.eq_2 @Bp.eq_1 i1 i2 ak (ag am (ag (fF aQ) (ag bS (ag b2 ao)))) ?_;refine MK e (B:=H.next) aa iS aa t ah ai u 8 0 N [] .aq H aa s aa rfl (aZ.nil aN _ _ _) (aB.keep (.le aa)) (i3.keep (.le aa)) aQ n b5 ?_;intro lv H1 w aA;have v:aw H H1:=aA;have G:=v.get b5;obtain⟨f,c,x,l,a3,a4,a5⟩:=aZ.sI (K:=bp aN) (ok:=(E<= ·)) (ok':=(E<= ·)) dJ ar o v (a:=(List.range 8).map λcR=>hj U (fw p set cR)) (cs:=[lv]) ⟨lv,rfl,w.kt fy⟩ aa aa;have aC:(H1.push (.row I 1 [[lv]])).next<=c.next:=by grind[ae.fW]
  have M:=(a3.2 zC r).trans b5;have st:=Tb M l.az.one;have y:ej P (H1.push (.row I 1 [[lv]])) [31,31] dv (.az H1.next 0 1 1 (A 1))=A (f,c):=x;refine bb @Bv.eq_1 @wq.eq_1 (hb G) (λz0=>qB z0 w.az.one) y st ?_;have ad:∀q,q≠zC->(c.set zC (.row I 4 [bl cnt (.az zF 0 m 1 (A m)) nn f])).get q=c.get q:=(by grind[ae.b_]);have aL:∀q,q<E->q≠zC->(c.set zC (.row I 4 [bl cnt (.az zF 0 m 1 (A m)) nn f])).get q=H.get q:=λq aH ab=>(ad q ab).trans (a3.2 q aH)
  have aS:H.next<=c.next:=a3.1
  refine on _ f _ aa aa (by simp;omega) T (l.keep λq b aH g=>al) (aB.keep λq b aH g=>al) (h.keep λq b aH g=>al) al al (ae.cO aa) λd H' au av aX ax=>fin d H' au av al (by simp at ax;omega)
end
end
section
open Go.a2
set_option maxRecDepth 2000
section
variable {m:Nat}{p:df}{L U:List Nat}
theorem oF(a:dW m p L)(aL:ic p L)(aA:ki p L){s:Nat}(b:s<m):aS L s=et (bW p) s:=by
 have e:=Zt a aL aA;rw[e];exact Ar al
theorem MJ(a:dW m p L)(aL:ic p L)(aA:ki p L){r:Nat}(au:r<=m):gj L r=dB (bW p) r:=
 AQ (by grind[oF])
theorem Zr(b:dW m p L)(aL:ic p L)(aA:ki p L){s:Nat}(a:s<m):g2 L (aS L s)=dj (bW p) s:=by
 have h:=(kr (bW.cl p).eqv s).2.1;grind[oF,g2,dj,MJ]
theorem Zs(b:dW m p L)(aL:ic p L)(aA:ki p L)(a:U.length=m)(ar:∀s,s<m->aS U s=g2 L (aS L s)):U=(List.range m).map (dj (bW p)):=by
 apply List.ext_getElem?;grind[pR,Zr]
theorem MI(b:U=(List.range m).map (dj (bW p))){l:List Nat}(ar:∀a∈l,a<m):hj U l=il (bW p) l:=by
 cases l with
 |nil=>rfl
 |cons a bs=>
  grind[hj,il]
theorem Zq(a:dW m p L)(aL:ic p L)(aA:ki p L){r:Nat}(au:r<m)(b:aS L r=r)(k:Nat):fw p (db L.length λs=>aS L s=r) k=kL p (bW p) m r k:=by
 unfold fw kL;have:(db L.length λs=>aS L s=r)=db m (bW p r):=by
  rw[a.len];refine AQ λs c=> ?_
  rw[oF a aL aA c];rw[oF a aL aA au]at b;constructor
  ·intro e;exact(pQ (bW.cl p).eqv).1 aa
  ·intro e;exact((pQ (bW.cl p).eqv).2 e).symm.trans b
 grind
theorem acF(f:May m p)(b:dW m p L)(aL:ic p L)(aA:ki p L)(i:U.length=m)(ar:∀s,s<m->aS U s=g2 L (aS L s)):merge p m=⟨(c2 L).length,U,p.nodes.map (hj U),(c2 L).map λset=>(List.range 8).map λcR=>hj U (fw p set cR)⟩:=by
 have e:=Zs b aL aA i ar;have c:gj L L.length=dB (bW p) m:=by rw[b.len];grind[MJ]
 unfold merge ry
 congr 1
 ·simp[c2,c]
 ·grind
 ·exact List.map_congr_left λl j=>(MI e λa d=>f.nodes l j a d).symm
 ·rw[c2,c,List.map_map];refine List.map_congr_left λr au=> ?_
  have g:r<m/\aS L r=r:=by rw[<-c]at au;have:=vA.1 au;rw[b.len]at this;omega
  show(List.range 8).map _=(List.range 8).map (λcR=>hj U (fw p (db L.length λs=>aS L s=r) cR));refine List.map_congr_left λk _=> ?_
  show _=hj U (fw p _ k);rw[Zq b aL aA g.1 g.2 k];exact(MI e λa d=>by
   obtain⟨t,_,_,h⟩:=vz.1 d;exact(f.dz h).1).symm
end
def hF(v:af):Prop:=∀L i n e c,v= .az L i n e (A c)->n<=c
def aZ.cap{α:Type}{K:e0 α}{B:Nat}{ok:Nat->Prop}{H:ae}{l:List α}{v:af}(h:aZ K B ok H l v):hF v:=by
 rcases h.eS with⟨rfl,_⟩|⟨L,els,cap,rfl,_,_,_,aA,_⟩
 ·intro L i n e c a;grind
 ·intro L' i n e c a;grind
def ky(H:ae)(ok:Nat->Prop)(k:a2.cK)(v:af):Prop:=∃ov nv fv,v= .agg (bl k.count ov nv fv)/\aI aN H ok (aO k.of) ov/\aI aN H ok k.nodes nv/\aI (bp aN) H ok k.fields fv/\hF nv
def acR{H:ae}{ok:Nat->Prop}{m:Nat}{p:df}{nv fv:af}(f:fY m p)(o:aI (bp aN) H ok (p.nodes.map aO) nv)(K:aI (bp (bp aN)) H ok (p.fields.map (·.map aO)) fv):
  W (aK P aD 132 [.agg [nv,fv]] H) λr H'=>∃ak,r= .tuple [ak,D F 0]/\ky H' (λL=>H.next<=L) (merge p m) ak/\aw H H':=by
 have hm:=f.hm;have bL:=f.nn;refine ae8 (p.nodes.length+m+100) ?_;obtain⟨zX,j⟩:∃zX,zX=H.next:=⟨_,rfl⟩
 have bt:=aw.push H (.row I 2 [[nv,fv]]);have a9:=ae.a1 H (.row I 2 [[nv,fv]]);have a3:(H.push (.row I 2 [[nv,fv]])).next=zX+1:=by rw[j];simp
 have a0:=aw.push (H.push (.row I 2 [[nv,fv]])) (.row I 4 [bl 0 .aq .aq .aq]);have an:=ae.a1 (H.push (.row I 2 [[nv,fv]])) (.row I 4 [bl 0 .aq .aq .aq]);have Q:=a0.get a9;have bw:∀(k:af->ae->O),fA (H.push (.row I 2 [[nv,fv]])) [D F 0,.aq,.aq,.aq] k=k (.ptr (zX+1) 0 0) ((H.push (.row I 2 [[nv,fv]])).push (.row I 4 [bl 0 .aq .aq .aq])):=λk=>by rw[kf,kh,a3];rfl
 rw[a3]at an;rw[<-j]at Q;simp only[Hj,zE _ o.one K.one,nq,bw,<-j];generalize bg:(H.push (.row I 2 [[nv,fv]])).push (.row I 4 [bl 0 .aq .aq .aq])=a6 at*;have bO:a6.next=zX+2:=by rw[<-bg];simp[j]
 have ad:=bt.trans a0;refine bK (m0 Q) ?_;refine bz (acU f (o.aC ad) (K.aC ad)) λa7 M=> ?_
 have ao:=M.get Q;have aL:∀H0,bD P H0 .len [152] [fv]=A (D F (m:Nat)):=λH0=>by rw[K.len nO,List.length_map,f.len]
 have aQ:∀H0,bD P H0 .len [31] [nv]=A (D F (p.nodes.length:Nat)):=λH0=>by rw[o.len dJ,List.length_map]
 refine bF (fF ao) aL ?_;refine cB (ac9 aa) ?_;rintro _ B ⟨rfl,f4,y⟩;refine⟨y.1,?_⟩;obtain⟨zD,bf⟩:∃zD,zD=a7.next:=⟨_,rfl⟩
 rw[<-bf]at f4 ⊢;have R:=y.get ao;have ah:=(ad.trans M).trans y;have bJ:zX+2<=zD:=by have:=M.1;omega
 have aF:aI (bp aN) B (· <zX) (p.nodes.map aO) nv:=j▸o.below.aC ah;have aB:aI (bp (bp aN)) B (· <zX) (p.fields.map (·.map aO)) fv:=j▸K.below.aC ah;refine bF (fF R) aQ ?_;refine Pk f (ok:=(· <zX)) (λk d=>aa) p.nodes.length 0 _ _ B aa aa f4 (dW.start m p) aF (λl ar=>al) ?_;intro L5 aj f5 aV br V;refine bK @Bs.eq_1 ?_;have bi:aI (bp (bp aN)) aj (· <zX) (p.fields.map (·.map aO)) fv:=aB.keep (.mut V λk d e=>aa);refine O5 f (ok:=(· <zX)) (λk d=>aa) (zX:=zX) aa o.one _ L5 aj (by have:=PL L5;have:=aV.len;omega) f5 aV br bi (V.get R aa) ?_;intro L bC f6 t cA cl bo;refine bK @Bt.eq_1 ?_;refine cB (SQ f6 (by have:=t.len;omega)) ?_
 rintro xv c ⟨f7,a4,aU⟩;refine⟨aU.1,?_⟩;have x:=(V.trans bo).trans aU;have ap:=x.get R aa;have be:c.get (zX+1)=A (.row I 4 [bl 0 .aq .aq .aq]):=x.get (y.get (M.get an)) aa;have bN:(c2 L).length<=m:=by
  have:=tz (L:=L) L.length;have:=t.len;grind[c2]
 have aT:∀H0,bD P H0 .len [31] [xv]=A (D F (c2 L).length):=λH0=>by rw[a4.len dJ,List.length_map]
 obtain⟨zF,G⟩:∃zF,zF=c.next:=⟨_,rfl⟩
 have bu:=aw.push c (.row I 1 (eD (List.replicate m 0)));have N:(c.push (.row I 1 (eD (List.replicate m 0)))).next=zF+1:=by rw[G];simp
 have a2:=aw.push (c.push (.row I 1 (eD (List.replicate m 0)))) (.row I 4 [bl (c2 L).length (.az zF 0 m 1 (A m)) .aq .aq]);have a8:ey P 33 [(0,D F (c2 L).length),(1,.az zF 0 m 1 (A m))]=A (.agg (bl (c2 L).length (.az zF 0 m 1 (A m)) .aq .aq)):=KV rfl rfl;have bx:∀(k:af->ae->O),fA (c.push (.row I 1 (eD (List.replicate m 0)))) [D F 0,.aq,.aq,.aq] k=k (.ptr (zF+1) 0 0) ((c.push (.row I 1 (eD (List.replicate m 0)))).push (.row I 4 [bl 0 .aq .aq .aq])):=λk=>by rw[kf,kh,N];rfl
 have bv:cz P ((c.push (.row I 1 (eD (List.replicate m 0)))).push (.row I 4 [bl 0 .aq .aq .aq])) 33 (.ptr (zF+1) 0 0) (.agg (bl (c2 L).length (.az zF 0 m 1 (A m)) .aq .aq))=A ((c.push (.row I 1 (eD (List.replicate m 0)))).push (.row I 4 [bl (c2 L).length (.az zF 0 m 1 (A m)) .aq .aq])):=by
  have g:=ae.a1 (c.push (.row I 1 (eD (List.replicate m 0)))) (.row I 4 [bl 0 .aq .aq .aq]);rw[N]at g;rw[k1 g rfl rfl rfl rfl,<-N,ae.lD]
 have ay:=a2.get (ae.a1 c (.row I 1 (eD (List.replicate m 0))));have S:=ae.a1 (c.push (.row I 1 (eD (List.replicate m 0)))) (.row I 4 [bl (c2 L).length (.az zF 0 m 1 (A m)) .aq .aq]);rw[N]at S;rw[<-G]at ay;have v:=bu.trans a2;have mk:=Pc zF m aa;simp only[aT,aL,eU,mr,dG,fF ap,<-G,mk,nq,a8,bx,bv];rw[nr aW];generalize bI:(c.push (.row I 1 (eD (List.replicate m 0)))).push (.row I 4 [bl (c2 L).length (.az zF 0 m 1 (A m)) .aq .aq])=i at*;have n9:i.next=zF+2:=by grind[ae.fW]
 have bH:zD+1<zF:=by have:=f7.lt;omega
 have a5:aI (bp aN) i (· <zF) ((c2 L).map aO) xv:=G▸a4.below.aC v;have bk:aI (bp aN) i (· <zF) (p.nodes.map aO) nv:=((aF.keep (.mut x λk d e=>aa)).aC v).keep (.le λk d=>aa);have bj:aI (bp (bp aN)) i (· <zF) (p.fields.map (·.map aO)) fv:=((aB.keep (.mut x λk d e=>aa)).aC v).keep (.le λk d=>aa);have ba:=v.get ap;have bG:=v.get be;refine PU (m:=m) (L:=L) (ok':=(· <zF)) (λk d=>d) (show zF<zF+1 by omega) t.len hm t.h1 aa (c2 L).length 0 _ (List.replicate m 0) i aa aa aW (λs bM aP=>aa) ay S a5 ?_;intro U ai T bh av Y n10;have bb:=(Y (zF+1) aa).trans S;have am:=(Y zX aa).trans ba;have aG:du i (· <zF) ai (· <zF):=λq b aH g=>⟨aH,al⟩
 refine bT @tK.eq_1 (fF am) aQ ?_;refine Pv f (ok:=(· <zF)) (λk d=>aa) (show zF<zF+1 by omega) T p.nodes.length 0 _ [] .aq ai aa aa rfl (aZ.nil aN _ _ _) av bb (bk.keep aG) ?_;intro u z aR au ab n11;have aJ:du i (· <zF) z (· <zF):=aG.trans λq b aH g=>⟨aH,al⟩
 have ax:=(ab zF aa).trans av;have a_:=(ab zX aa).trans am;refine bF @Bu.eq_1 aT ?_;have iS:=ae.bm au;refine M1 f (E:=z.next) (show zF<zF+1 by omega) iS aa T t o.one aa (c2 L).length 0 _ [] .aq z aa aa (ds _) rfl (aZ.nil (bp aN) _ _ _) (bj.keep aJ) (a5.keep aJ) a_ ax au ?_;intro w h aM bc aX n12;have aA:h.get (zX+1)=A (.row I 4 [bl 0 .aq .aq .aq]):=al;have aS:aI aN h (λk=>zF+2<=k) (p.nodes.map (hj U)) u:=(aR.kt fy).keep λq b aH g=>⟨aH,by grind[ae.bm]⟩
 have bE:=(aX zF aa aa).trans ax;have bn:=ae.bm aA;have st:=k1 aA rfl (n:=(c2 L).length) (a:= .az zF 0 m 1 (A m)) rfl aS.one aM.az.one;have bd:(h.set (zX+1) (.row I 4 [bl (c2 L).length (.az zF 0 m 1 (A m)) u w])).get (zX+1)=A (.row I 4 [bl (c2 L).length (.az zF 0 m 1 (A m)) u w]):=ae.cO bn;have bs:∀q,q≠zX+1->(h.set (zX+1) (.row I 4 [bl (c2 L).length (.az zF 0 m 1 (A m)) u w])).get q=h.get q:=λq aH=>ae.b_ (Ne.symm aH)
 have n13:(h.set (zX+1) (.row I 4 [bl (c2 L).length (.az zF 0 m 1 (A m)) u w])).next=h.next:=aW
 refine cu @rJ.eq_1 (kq bc) st (kq bd) ?_;generalize h.set (zX+1) (.row I 4 [bl (c2 L).length (.az zF 0 m 1 (A m)) u w])=bA at*;rw[acF f.toMay t cA cl T bh];have bq:∀q,q<zX->c.get q=B.get q:=λq aH=>x.2 q (by have:=y.1;omega) aa
 refine aE.2 ⟨_,rfl,⟨_,_,_,rfl,?_,?_,?_,aR.cap⟩,?_,?_⟩
 ·grind[Jq]
 ·exact aS.keep λq b (aH:zF+2<=q) g=>⟨show zX<=q by omega,al⟩
 ·exact aM.az.keep λq b (aH:z.next<=q) g=>⟨show zX<=q by omega,al⟩
 ·omega
 ·intro q aH;rw[bs q aa,aX q aa aa,ab q aa,Y q aa,v.2 q aa,bq q aa,ah.2 q aH]
end
section
set_option maxRecDepth 100000
set_option maxHeartbeats 4000000
noncomputable section
def ahd(G:ao):hr Tryz.f11 G:=⟨_,λN=>t1 an⟩
def ahg(G:ao):hr Tryz.f14 G:=⟨_,λN=>t1 an⟩
def HX(G:ao)(N:Nat):eP 4 Tryz.f18 G N (·.ad.ad.ad.ad.ad.ad) (a8 Tryz.f18) []:=⟨_,v1 an⟩
def B5(G:ao)(N:Nat)(L2:b8):ew 4 41 42 Tryz.f18 G N (·.ad.ad.ad.ad.ad.aj.ad.aj.aj) (bo L2 4 41 42) [(4,(a6 (HX G N) 4))]:=⟨_,v3 an⟩
def w6(G:ao)(N:Nat):Nat->b8
 |0=>gQ
 |n+1=>B5 G N (w6 G N n)
def tX(G:ao)(N:Nat):eP 4 Tryz.f18 G N (·.ad.ad.ad.ad.ad) (a8 Tryz.f18) []:=⟨_,v1 (ak ((HX G N).2) (ak (bh (bH (λm=>(B5 G N (w6 G N m)).2))) an))⟩
def HY(G:ao)(N:Nat)(L3:b8)(L4:cF):e6 3 4 5 19 20 Tryz.f18 G N (·.ad.ad.ad.ad.aj.ad.aj.aj.ad.aj.ad.ad.aj.aj.ad.ad.ad) (b3 L4 3 4 5 19 20) [(2,(bo L3 3 4 5)),(1,(bo L3 3 4 5)),(0,(a6 (tX G N) 4))]:=⟨_,v5 an⟩
def B7(G:ao)(N:Nat)(L3:b8)(L4:cF):e6 3 4 5 19 20 Tryz.f18 G N (·.ad.ad.ad.ad.aj.ad.aj.aj.ad.aj.ad.ad.aj.aj) (b3 L4 3 4 5 19 20) [(2,(bo L3 3 4 5)),(1,(bo L3 3 4 5)),(0,(a6 (tX G N) 4))]:=⟨_,v5 (ak (ak (ak ((HY G N L3 L4).2) an) an) an)⟩
def w8(G:ao)(N:Nat)(L3:b8):Nat->cF
 |0=>hW
 |n+1=>B7 G N L3 (w8 G N L3 n)
def B6(G:ao)(N:Nat)(L3:b8):ew 3 4 5 Tryz.f18 G N (·.ad.ad.ad.ad.aj.ad.aj.aj) (bo L3 3 4 5) [(0,(a6 (tX G N) 4))]:=⟨_,v3 (ak (bh (ak (ak (bh (bH (λm=>(B7 G N L3 (w8 G N L3 m)).2))) an) an)) an)⟩
def w7(G:ao)(N:Nat):Nat->b8
 |0=>gQ
 |n+1=>B6 G N (w7 G N n)
def BS(G:ao)(N:Nat):f_ Tryz.f18 G N:=⟨_,t1 (ak (ak (ak (ak (ak ((tX G N).2) (ak (bh (bH (λm=>(B6 G N (w7 G N m)).2))) an)) an) an) an) an)⟩
def Rr(N:Nat):=eo Tryz.func18 λG=>(BS G N).2
def t_(G:ao)(N:Nat):eP 4 Tryz.f20 G N (·.ad.ad.ad.ad.ad) (a8 Tryz.f20) []:=⟨_,v1 an⟩
def xb(G:ao)(N:Nat)(L1:cF):e6 3 4 15 16 17 Tryz.f20 G N (·.ad.ad.ad.ad.aj.ad.aj.aj.ad.ad.ad) (b3 L1 3 4 15 16 17) [(0,(a6 (t_ G N) 4))]:=⟨_,v5 an⟩
def Ce(G:ao)(N:Nat)(L1:cF):gZ 3 4 5 7 15 16 17 Tryz.f20 G N (·.ad.ad.ad.ad.aj.ad.aj.aj.ad.ad.aj.aj.ad.ad.ad) (b3 (xb G N L1) 3 4 15 16 17) [(1,(b3 (xb G N L1) 3 4 15 16 17)),(0,(a6 (t_ G N) 4))]:=⟨_,pF an⟩
def Cd(G:ao)(N:Nat)(L1:cF)(L4:jr):sx 3 4 5 7 15 16 17 27 28 29 Tryz.f20 G N (·.ad.ad.ad.ad.aj.ad.aj.aj.ad.ad.aj.aj.ad.ad.aj.ad.aj.aj) (qY L4 3 4 5 7 15 16 17 27 28 29) [(2,(dw (Ce G N L1) 3 4 5 7 15 16 17)),(1,(b3 (xb G N L1) 3 4 15 16 17)),(0,(a6 (t_ G N) 4))]:=⟨_,v10 an⟩
def xd(G:ao)(N:Nat)(L1:cF):Nat->jr
 |0=>y9
 |n+1=>Cd G N L1 (xd G N L1 n)
def Cc(G:ao)(N:Nat)(L1:cF):e6 3 4 15 16 17 Tryz.f20 G N (·.ad.ad.ad.ad.aj.ad.aj.aj) (b3 L1 3 4 15 16 17) [(0,(a6 (t_ G N) 4))]:=⟨_,v5 (ak (ak (ak ((xb G N L1).2) (bh (ak (ak (ak ((Ce G N L1).2) (ak (bh (bH (λm=>(Cd G N L1 (xd G N L1 m)).2))) an)) an) an))) an) an)⟩
def xc(G:ao)(N:Nat):Nat->cF
 |0=>hW
 |n+1=>Cc G N (xc G N n)
def Cb(G:ao)(N:Nat):f_ Tryz.f20 G N:=⟨_,t1 (ak (ak (ak (ak (ak ((t_ G N).2) (ak (bh (bH (λm=>(Cc G N (xc G N m)).2))) an)) an) an) an) an)⟩
def Rs(N:Nat):=eo Tryz.func20 λG=>(Cb G N).2
def Cg(G:ao):eQ Tryz.f22 G:=⟨_,λN=>t2 an⟩
def Rt(N:Nat):=c6 Tryz.func22 λG=>(Cg G).2 N
def IF(G:ao)(N:Nat)(L0:ck):dO 1 2 3 4 Tryz.f36 G N (·.ad.ad.ad.aj.aj) (bO L0 1 2 3 4) [(0,(a8 Tryz.f36))]:=⟨_,l6 an⟩
def Cy(G:ao)(N:Nat):Nat->ck
 |0=>fB
 |n+1=>IF G N (Cy G N n)
def IE(G:ao)(N:Nat):f_ Tryz.f36 G N:=⟨_,t1 (ak (ak (ak (bh (bH (λm=>(IF G N (Cy G N m)).2))) an) an) an)⟩
def agt(N:Nat):=eo Tryz.func36 λG=>(IE G N).2
def IH(G:ao)(N:Nat):eP 3 Tryz.f38 G N (·.ad.ad.ad.ad.ad.ad.ad) (a8 Tryz.f38) []:=⟨_,v1 an⟩
def CG(G:ao)(N:Nat)(L2:ck):dO 1 3 43 44 Tryz.f38 G N (·.ad.ad.ad.ad.ad.ad.aj.ad.aj.aj) (bO L2 1 3 43 44) [(2,(a6 (IH G N) 3))]:=⟨_,l6 an⟩
def xG(G:ao)(N:Nat):Nat->ck
 |0=>fB
 |n+1=>CG G N (xG G N n)
def CI(G:ao)(N:Nat):ew 1 3 4 Tryz.f38 G N (·.ad.ad.ad.ad.ad) (a8 Tryz.f38) []:=⟨_,v3 (ak (ak ((IH G N).2) (ak (bh (bH (λm=>(CG G N (xG G N m)).2))) an)) an)⟩
def CH(G:ao)(N:Nat)(L3:cF):e6 1 3 4 17 18 Tryz.f38 G N (·.ad.ad.ad.ad.aj.ad.aj.aj) (b3 L3 1 3 4 17 18) [(0,(bo (CI G N) 1 3 4))]:=⟨_,nF an⟩
def xH(G:ao)(N:Nat):Nat->cF
 |0=>hW
 |n+1=>CH G N (xH G N n)
def CF(G:ao)(N:Nat):f_ Tryz.f38 G N:=⟨_,q3 (ak (ak (ak (ak (ak ((CI G N).2) (ak (bh (bH (λm=>(CH G N (xH G N m)).2))) an)) an) an) an) an)⟩
def Ru(N:Nat):=eo Tryz.func38 λG=>(CF G N).2
def uj(G:ao)(N:Nat):eP 7 Tryz.f40 G N (·.ad.ad.ad) (a8 Tryz.f40) []:=⟨_,v1 an⟩
def r1(G:ao)(N:Nat)(L1:ei):gZ 0 1 2 7 24 25 26 Tryz.f40 G N (·.ad.ad.aj.ad.aj.aj.ad.ad.ad) (dw L1 0 1 2 7 24 25 26) [(0,(a6 (uj G N) 7))]:=⟨_,hf an⟩
def CV(G:ao)(N:Nat)(L1:ei)(L3:jr):sx 0 1 2 7 24 25 26 33 34 35 Tryz.f40 G N (·.ad.ad.aj.ad.aj.aj.ad.ad.aj.aj.ad.ad.aj.aj.ad.ad.ad) (qY L3 0 1 2 7 24 25 26 33 34 35) [(2,(dw (r1 G N L1) 0 1 2 7 24 25 26)),(1,(dw (r1 G N L1) 0 1 2 7 24 25 26)),(0,(a6 (uj G N) 7))]:=⟨_,v10 an⟩
def CU(G:ao)(N:Nat)(L1:ei)(L3:jr):sx 0 1 2 7 24 25 26 33 34 35 Tryz.f40 G N (·.ad.ad.aj.ad.aj.aj.ad.ad.aj.aj.ad.ad.aj.aj) (qY L3 0 1 2 7 24 25 26 33 34 35) [(2,(dw (r1 G N L1) 0 1 2 7 24 25 26)),(1,(dw (r1 G N L1) 0 1 2 7 24 25 26)),(0,(a6 (uj G N) 7))]:=⟨_,v10 (ak (ak (ak ((CV G N L1 L3).2) an) an) an)⟩
def um(G:ao)(N:Nat)(L1:ei):Nat->jr
 |0=>y9
 |n+1=>CU G N L1 (um G N L1 n)
def CT(G:ao)(N:Nat)(L1:ei):gZ 0 1 2 7 24 25 26 Tryz.f40 G N (·.ad.ad.aj.ad.aj.aj) (dw L1 0 1 2 7 24 25 26) [(0,(a6 (uj G N) 7))]:=⟨_,hf (ak (ak (ak ((r1 G N L1).2) (bh (ak (ak (bh (bH (λm=>(CU G N L1 (um G N L1 m)).2))) an) an))) an) an)⟩
def uk(G:ao)(N:Nat):Nat->ei
 |0=>k5
 |n+1=>CT G N (uk G N n)
def II(G:ao)(N:Nat):nA Tryz.f40 G N:=⟨_,t3 (ak (ak (ak ((uj G N).2) (ak (bh (bH (λm=>(CT G N (uk G N m)).2))) an)) an) an)⟩
def agw(N:Nat):=hp Tryz.func40 λG=>(II G N).2
def IM(G:ao):eQ Tryz.f44 G:=⟨_,λN=>t2 an⟩
def agA(N:Nat):=c6 Tryz.func44 λG=>(IM G).2 N
def CW(G:ao):W0 Tryz.f45 G (·.ad.ad) (a8 Tryz.f45) []:=⟨_,λN=>v0 an⟩
def xQ(G:ao):oq 0 3 6 7 Tryz.f45 G (·.ad.aj.ad.aj.ad) (bu (CW G)) [(0,(bu (CW G)))]:=⟨_,λN=>v4 an⟩
def IN(G:ao):eQ Tryz.f45 G:=⟨_,λN=>t2 (ak (ak ((CW G).2 N) (ak (bh (ak ((xQ G).2 N) an)) an)) an)⟩
def agB(N:Nat):=c6 Tryz.func45 λG=>(IN G).2 N
def CY(G:ao)(N:Nat):eP 5 Tryz.f46 G N (·.ad.ad.ad) (a8 Tryz.f46) []:=⟨_,v1 an⟩
def IQ(G:ao)(N:Nat)(L1:cF):e6 1 5 8 9 10 Tryz.f46 G N (·.ad.ad.aj.ad.aj.aj.ad.ad.ad) (b3 L1 1 5 8 9 10) [(0,(a6 (CY G N) 5))]:=⟨_,v5 an⟩
def CX(G:ao)(N:Nat)(L1:cF):e6 1 5 8 9 10 Tryz.f46 G N (·.ad.ad.aj.ad.aj.aj) (b3 L1 1 5 8 9 10) [(0,(a6 (CY G N) 5))]:=⟨_,v5 (ak (ak (ak ((IQ G N L1).2) an) an) an)⟩
def xR(G:ao)(N:Nat):Nat->cF
 |0=>hW
 |n+1=>CX G N (xR G N n)
def IP(G:ao)(N:Nat):gn Tryz.f46 G N:=⟨_,t2 (ak (ak (ak ((CY G N).2) (ak (bh (bH (λm=>(CX G N (xR G N m)).2))) an)) an) an)⟩
def agC(N:Nat):=c6 Tryz.func46 λG=>(IP G N).2
def IS(G:ao):eQ Tryz.f47 G:=⟨_,λN=>t2 an⟩
def agD(N:Nat):=c6 Tryz.func47 λG=>(IS G).2 N
def I1(G:ao):eQ Tryz.f78 G:=⟨_,λN=>pD an (x:=trivial)⟩
def agS(N:Nat):=c6 Tryz.func78 λG=>(I1 G).2 N
def I9(G:ao)(N:Nat):eP 3 Tryz.f80 G N (·.ad.ad.ad) (a8 Tryz.f80) []:=⟨_,v1 an⟩
def Dh(G:ao)(N:Nat)(L1:cF):e6 1 3 7 8 9 Tryz.f80 G N (·.ad.ad.aj.ad.aj.aj) (b3 L1 1 3 7 8 9) [(0,(a6 (I9 G N) 3))]:=⟨_,v5 an⟩
def yj(G:ao)(N:Nat):Nat->cF
 |0=>hW
 |n+1=>Dh G N (yj G N n)
def I8(G:ao)(N:Nat):f_ Tryz.f80 G N:=⟨_,t1 (ak (ak (ak ((I9 G N).2) (ak (bh (bH (λm=>(Dh G N (yj G N m)).2))) an)) an) an)⟩
def agU(N:Nat):=eo Tryz.func80 λG=>(I8 G N).2
def DU(G:ao):W0 Tryz.f93 G (·.ad.ad) (a8 Tryz.f93) []:=⟨_,λN=>v0 an⟩
def yT(G:ao):sz 0 2 4 8 9 Tryz.f93 G (·.ad.aj.ad.aj.ad) (bu (DU G)) [(0,(bu (DU G)))]:=⟨_,λN=>v5 an⟩
def Jh(G:ao):jS Tryz.f93 G:=⟨_,λN=>t3 (ak (ak ((DU G).2 N) (ak (bh (ak ((yT G).2 N) an)) an)) an)⟩
def ag8(N:Nat):=hp Tryz.func93 λG=>(Jh G).2 N
def G9(G:ao):eQ Tryz.f100 G:=⟨_,λN=>t2 an⟩
def aeN(N:Nat):=c6 Tryz.func100 λG=>(G9 G).2 N
end
end
section
open Go.a2
set_option maxRecDepth 2000
section
variable {H:ae}{ok ok':Nat->Prop}{x:bq}
theorem adi(au:ep x):0<b7 x:=by have:=au.ax;grind[b7]
theorem PH(au:ep x):b7 x<=70000:=by have:=au.ax;have:=au.globals;grind[lU,b7]
def Oz{H:ae}{a b c d:af}{m:Int}{zX:Nat}(g:H.get zX=A (.row I 5 [[a,b,c,d,D F m]])):aJ P H 25 (.ptr zX 0 3)=A d:=by rw[eW aG g rfl];rfl
theorem O2(au:right x=J){V:af}(aF:cE H ok x V){l:List bt}{lv:af}(aJ:gy (b7 x) x.sites.length l)(ar:l.length<=800000000)(aB:aI cU H ok' l lv):W (aK P aD 78 [V,lv] H) λr H'=>ky H' (λL=>H.next<=L) (a2.merge (ho (b7 x) x.sites.length l) x.sites.length) r/\aw H H':=by
 have aN:=aF;have u:=fG au;have Q:=u.sites;have aL:=PH u;obtain⟨_,rfl,a,b,cc,d,rfl,ah,ai,ay,aM⟩:=aF;refine agS 0 ?_;have aQ:=aw.push H (.row I 5 [[a,b,cc,d,D F x.main]]);have ao:=ae.a1 H (.row I 5 [[a,b,cc,d,D F x.main]]);have aT:bG (A (.agg [a,b,cc,d,D F x.main])) (.agg [a,b,cc,d,D F x.main])=true:=by simp[bG,af.beq,e9.beq,ah.rd,ai.rd,ay.rd,aM.rd]
 have Y:=aw.push (H.push (.row I 5 [[a,b,cc,d,D F x.main]])) (.row I 4 [bl 0 .aq .aq .aq]);have E:=ae.a1 (H.push (.row I 5 [[a,b,cc,d,D F x.main]])) (.row I 4 [bl 0 .aq .aq .aq]);have j:=Y.get ao;obtain⟨zX,o⟩:∃zX,zX=H.next:=⟨_,rfl⟩
 have ab:(H.push (.row I 5 [[a,b,cc,d,D F x.main]])).next=zX+1:=by rw[o];simp
 have aZ:∀(k:af->ae->O),fA (H.push (.row I 5 [[a,b,cc,d,D F x.main]])) [D F 0,.aq,.aq,.aq] k=k (.ptr (zX+1) 0 0) ((H.push (.row I 5 [[a,b,cc,d,D F x.main]])).push (.row I 4 [bl 0 .aq .aq .aq])):=λk=>by rw[kf,kh,ab];rfl
 rw[ab]at E;rw[<-o]at j;simp only[I1,dQ ah ai ay aM,nq,aZ,<-o];have w:=aQ.trans Y;generalize av:(H.push (.row I 5 [[a,b,cc,d,D F x.main]])).push (.row I 4 [bl 0 .aq .aq .aq])=ad at*;have a7:ad.next=zX+2:=by rw[<-av];simp[o]
 refine bK (cq j) ?_;refine bz (Xj au (aN.aC w)) λaj y=> ?_
 have ap:=y.get j;have hlen:=aM.len fV (H0:=aj);have aA:∀H0,bD P H0 .len [25] [d]=A (D F (x.sites.length:Nat)):=λH0=>aM.len fV
 refine cu (Oz ap) aA @K.heap.eq_1 @K.val.eq_1 ?_;refine cB (adW aJ aL (adi u) Q ar (aB.aC (w.trans y))) ?_;rintro _ i ⟨pv,rfl,⟨nv,fv,rfl,N,M⟩,U⟩;refine⟨U.1,?_⟩;have T:=y.trans U;have aR:=ae.a1 i (.row I 2 [[.aq,.aq]]);have B:=aw.push i (.row I 2 [[nv,fv]]);have aV:cz P (i.push (.row I 2 [[.aq,.aq]])) 154 (.ptr i.next 0 0) (.agg [nv,fv])=A (i.push (.row I 2 [[nv,fv]])):=by
  rw[yZ aR N.one M.one,ae.lD]
 refine bK aV ?_;have aP:=aw.push i (.row I 2 [[.aq,.aq]]);have z:=T.trans B;have a8:=T.trans aP;have aU:bG (A d) d=true:=by simp[bG,aM.rd]
 refine dy (λH' p=>(ag (cq (p.get j)) (ag aT (ag (Oz (p.get j)) aU)))) ?_;have ak:=ae.a1 i (.row I 2 [[nv,fv]]);have S:=(w.trans z);have n5:(i.push (.row I 2 [[nv,fv]])).next=i.next+1:=aW
 have an:=z.get E;have aG:=N.aC B;have ax:=M.aC B;generalize i.push (.row I 2 [[nv,fv]])=t at*;refine bK (m0 ak) ?_;refine cB (acR (OV Q aa) aG ax) ?_;rintro _ e ⟨a3,rfl,⟨ov,h,f,rfl,a6,bd,bo,bO⟩,m⟩;refine⟨m.1,?_⟩;have aS:=ae.a1 e (.row I 4 [bl 0 .aq .aq .aq]);generalize a4:a2.merge (ho (b7 x) x.sites.length l) x.sites.length=k at*;have mh:cz P (e.push (.row I 4 [bl 0 .aq .aq .aq])) 33 (.ptr e.next 0 0) (.agg (bl k.count ov h f))=A (e.push (.row I 4 [bl k.count ov h f])):=by
  rw[k1 aS rfl a6.one bd.one bo.one,ae.lD]
 have s:=aw.push e (.row I 4 [bl k.count ov h f]);have al:=ae.a1 e (.row I 4 [bl k.count ov h f]);have a0:∀(q:af->ae->O),fA e [D F 0,.aq,.aq,.aq] q=q (.ptr e.next 0 0) (e.push (.row I 4 [bl 0 .aq .aq .aq])):=λq=>by rw[kf,kh];rfl
 have G:=(m.trans s).get an;have aX:=k1 (a:=ov) (b:=h) (c:=f) (n:=k.count) G rfl a6.one bd.one bo.one;have aO:=ae.bm G;have am:((e.push (.row I 4 [bl k.count ov h f])).set (zX+1) (.row I 4 [bl k.count ov h f])).get (zX+1)=A (.row I 4 [bl k.count ov h f]):=ae.cO aO;have R:∀q,q≠zX+1->((e.push (.row I 4 [bl k.count ov h f])).set (zX+1) (.row I 4 [bl k.count ov h f])).get q=(e.push (.row I 4 [bl k.count ov h f])).get q:=λq aH=>ae.b_ (Ne.symm aH)
 simp only[zn,List.getElem?_cons_zero,List.getElem?_cons_succ,mr,a0,mh];rw[nr aW];simp only[kq al,mr,aX];rw[nr aW];simp only[kq am,mr];have a5:zX+2<=t.next:=by have:=z.1;omega
 have v:du e (λL=>t.next<=L) ((e.push (.row I 4 [bl k.count ov h f])).set (zX+1) (.row I 4 [bl k.count ov h f])) (λL=>zX<=L):=λq b (aH:t.next<=q) g=>⟨show zX<=q by omega,by rw[R q aa];exact s.get g⟩
 refine aE.2 ⟨⟨_,_,_,rfl,a6.keep v,bd.keep v,bo.keep v,bO⟩,⟨by have:=S.1;have:=m.1;have:=s.1;simp at*;omega,λq aH=> ?_⟩⟩;rw[R q aa,s.2 q (by have:=m.1;omega),m.2 q aa,S.2 q aH]
end
end
section
open Go.a2
set_option maxRecDepth 2000
def aia(l:Nat)(c:bt):gu P l 53 1 [(0,.agg (cZ c))]=A (.az l 0 1 4 (A 1),.row I 4 [cZ c]):=by
 cases c<;>exact ng iG l rfl rfl rfl
theorem Ns{a:Int}:∀{l:List Int} {i:Nat},l[i]? =A a->(∀j:Nat,j<i->l[j]? ≠A a)->l.idxOf a=i
 |[],i,h,_=>al
 |x::l,0,h,_=>al
 |x::l,i+1,h,aB=>by
  have aF:x≠a:=λe=>aB 0 aa al
  rw[List.idxOf_cons,beq_eq_false_iff_ne.2 aF,pC,Ns (fH h) al]
def aa8{R:Nat->Nat->Prop}(he:gx R){m s:Nat}(a:s<m):pN (aO ((List.range m).map (dj R))) ((dj R s:Nat):Int)=((et R s:Nat):Int):=by
 have ar:=kr he s;have ah:(aO ((List.range m).map (dj R)))[et R s]? =A ((dj R s:Nat):Int):=by
  grind[sU,aO]
 grind[pN,Ns,aO,sU]
section
variable {H:ae}{ok ok':Nat->Prop}
theorem Kq{R:Nat->Nat->Prop}(he:gx R){m zX cnt:Nat}{ov nv fv:af}(hm:m<=1000000){B:Nat}(c:zX<B){N:Nat}:∀(j k q:Nat) (H:ae) (l:List bt) (v:af),k+j=m->j<q->l=(List.range k).map (λs=>bt.same s (et R s))->aZ cU B ba H l v->B<=H.next->H.get zX=A (.row I 4 [bl cnt ov nv fv])->aI aN H (· <B) (aO ((List.range m).map (dj R))) ov->
  W (yj (aK P aD) N q (.ptr zX 0 0) v ov (D F m) (D F k) H) λr H'=>aZ cU B ba H' (hZ R m) r/\cg B H H'
 |_,_,0,_,_,_,_,aH,_,_,_,_,_=>aa
 |0,k,q+1,H,l,v,x,_,u,ar,b,g,aX=>by
  have E:¬(k:Int)<(m:Int):=aa;refine bT @yj.eq_2 @Dh.eq_1 @I9.eq_1 ?_;have e:k=m:=aa;subst e;exact aE.2 ⟨by grind[hZ],.refl _ _⟩
 |j+1,k,q+1,H,l,v,x,aH,u,ar,b,g,aX=>by
  have d:k<m:=aa;have on:=Kq he (cnt:=cnt) (ov:=ov) (nv:=nv) (fv:=fv) hm c (N:=N) j (k+1) q;have hlen:(aO ((List.range m).map (dj R))).length=m:=by simp[aO]
  obtain⟨p,i1,i2⟩:=aX.int (j:=(k:Int)) (a:=((dj R k:Nat):Int)) aa (by simp[aO,d]);have t:ey P 56 [(0,D F 5),(1,D F (k:Nat)),(2,D F (et R k:Nat))]=A (.agg (cZ (.same k (et R k)))):=KX rfl rfl rfl;refine dd @yj.eq_2 @Dh.eq_1 i1 i2 (hb g) ?_;have f:=Nv (a:=((dj R k:Nat):Int)) aX aa;rw[aa8 he d]at f;refine dK f ?_;obtain⟨h,H1,i,o,a3,a4,a5⟩:=aZ.sI (K:=cU) (ok:=ba) (ok':=ba) iG ar b (aw.refl H) (a:=bt.same k (et R k)) (cs:=cZ (.same k (et R k))) rfl (λ_ _=>trivial) al;have y:(H.push (.row I 4 [cZ (.same k (et R k))])).next<=H1.next:=by grind[ae.fW]
  have n:ej P (H.push (.row I 4 [cZ (.same k (et R k))])) [53,53] v (.az H.next 0 1 4 (A 1))=A (h,H1):=i;have w:l++[bt.same k (et R k)]=(List.range (k+1)).map (λs=>bt.same s (et R s)):=by grind[List.range_succ]
  refine bT t @aia n ?_;exact(on H1 _ h aa aa w o aa ((a3.2 zX c).trans g) (aX.eu a3)).mono λr H' z=>⟨z.1,a3.trans z.2⟩
def V_(l n:Nat){a b c:af}(d:a.one=J)(e:b.one=J)(aA:c.one=J):fl l (.agg (bl n a b c))=A (.ptr l 0 0,.row I 4 [bl n a b c]):=by simp[fl,af.cells,bl,d,e,aA];rfl
def U2{R:Nat->Nat->Prop}(he:gx R){m:Nat}{k:a2.cK}{v:af}(hm:m<=1000000)(d:k.of=(List.range m).map (dj R))(f:ky H ok k v):W (aK P aD 80 [v] H) λr H'=>aZ cU H.next ba H' (hZ R m) r/\aw H H':=by
 obtain⟨ov,nv,fv,rfl,a6,bd,bo,_⟩:=f;rw[d]at a6;refine agU (m+1) ?_;have b:=aw.push H (.row I 4 [bl k.count ov nv fv]);have a:=ae.a1 H (.row I 4 [bl k.count ov nv fv]);have hlen:∀H0,bD P H0 .len [30] [ov]=A (D F m):=λH0=>by rw[a6.len bV];simp[aO]
 refine cu @I8.eq_1 (λz0 g=>V_ z0 g a6.one bd.one bo.one) (hb a) hlen ?_;refine(Kq he hm (B:=H.next+1) aa m 0 _ _ [] .aq aa aa rfl (aZ.nil cU _ _ _) aW a ((a6.below.aC b).keep (.le λL h=>aa))).mono λr H' z=>⟨⟨z.1.eS,λL n c e=>by have:=z.1.low L n c e;omega⟩,⟨by have:=z.2.1;simp at this;omega,λq aH=>(z.2.2 q aa).trans (b.2 q aH)⟩⟩
end
end
section
open Go.a2
set_option maxRecDepth 2000
def OR:fj 198 53 1:=⟨aG,aG,⟨24,aG,b0⟩,⟨.aq,aG,rfl,rfl⟩,b0⟩
def J5{H:ae}{ok ok':Nat->Prop}(a:bt)(cs:List af)(h:cU.V H ok a cs):cU.V H ok' a cs:=h
section
variable {H:ae}{ok ok':Nat->Prop}
theorem aai{n:Nat}(aL:n<=1000000000):W (aK P aD 133 [.aq,.int .i64 n] H) λr H'=>aZ cU H.next ba H' [] r/\aw H H':=by
 refine ae9 0 ?_;have bu:∀H0,bD P H0 .cap [53] [.aq]=A (.int .i64 0):=λH0=>aG
 have c:∀H0,bD P H0 .len [53] [.aq]=A (.int .i64 0):=λH0=>aG
 have w0:IntKind.i64.wrap ((0:Int)-0)=0:=b0;have j:IntKind.i64.wrap ((n:Int)-0)=(n:Int):=by grind[wrap_i64]
 by_cases f:n=0
 ·subst f;have d:¬(0:Int)>0:=b0;have l:IntKind.i64.wrap (((0:Nat):Int)-0)=0:=b0;refine bb @Bx.eq_1 @Hl.eq_1 @Hm.eq_1 bu c (ag w0 (ag @Int.lt_irrefl @Int.ofNat_zero)) ?_;exact aE.2 ⟨aZ.nil cU _ _ _,.refl _⟩
 ·have d:(0:Int)<(n:Int):=aa;have g:gI P 53 .aq Z (A (.int .i64 0)) Z=A .aq:=aG;have pp:=aw.push H (.row I 4 (List.replicate n [.int .i64 0,.int .i64 0,.int .i64 0,.int .i64 0]));have e:=ae.a1 H (.row I 4 (List.replicate n [.int .i64 0,.int .i64 0,.int .i64 0,.int .i64 0]));have ap:ej P H [53,3] .aq (.int .i64 (n:Nat))=A (.az H.next 0 n 4 Z,H.push (.row I 4 (List.replicate n [.int .i64 0,.int .i64 0,.int .i64 0,.int .i64 0]))):=by
   have u:P.underlying 53=A (.slice 56):=aG;have i64:oJ P 3=true:=aG;have b:cM P 56=A 4:=aG;have k:ml P 56=A 32:=aG;have z3:gb P 56=A (.agg [.int .i64 0,.int .i64 0,.int .i64 0,.int .i64 0]):=aG;have aA:0<n/\(af.agg [.int .i64 0,.int .i64 0,.int .i64 0,.int .i64 0]).cells.length=4/\0<4/\(af.agg [.int .i64 0,.int .i64 0,.int .i64 0,.int .i64 0]).cells.all af.one=J/\n*32<=140737488355328/\n<=1125899906842624:=⟨aa,rfl,b0,rfl,aa,aa⟩;simp only[ej,u,i64,if_true,zp,b,k,z3];show(if _ then _ else _)=_;rw[if_pos aA];rfl
  have h:gI P 53 (.az H.next 0 n 4 Z) Z (A (.int .i64 0)) Z=A (.az H.next 0 0 4 Z):=by
   have u:P.underlying 53=A (.slice 56):=aG;have b:cM P 56=A 4:=aG;simp[gI,u,b,dR]
  refine bb @Bx.eq_1 @Hl.eq_1 @Hm.eq_1 bu c (ag w0 (ag j (ag g (ag h ap)))) ?_;refine aE.2 ⟨⟨.inr ⟨H.next,_,Z,rfl,trivial,e,aW,.inl rfl,λi a aP=>al⟩,al⟩,pp⟩
theorem aZ.LD{B:Nat}{H1:ae}{l m:List bt}{v w:af}(h:aZ cU B ba H1 l v)(b:B<=H1.next)(hm:aI cU H1 ok m w)(ar:l.length+m.length<=1000000000):
  ∃a H',ej P H1 [53,53] v w=A (a,H')/\aZ cU B ba H' (l++m) a/\cg B H1 H':=by
 obtain⟨a,H',c,d,a3,_,_⟩:=h.app iG b ((hm.zS iG).plain (okE':=λ_=>False) J5) (λ_ _ h=>h.elim) (λ_ _ _ _=>trivial) (ok':=ba) trivial ar;grind
theorem aI.As{l:List (List bt)}{v:af}(h:aI (bp cU) H ok l v){j:Int}{a:List bt}(b:0<=j)(c:l[j.toNat]? =A a):∃p w,ct P 198 v (D F j)=A p/\aJ P H 53 p=A w/\aI cU H ok a w:=by
 obtain⟨p,cs,d,e,w,rfl,f⟩:=aI.val (K:=bp cU) OR aG h b c;grind
theorem Xh{b l2:List bt}{v:af}(h:aI (bp cU) H ok [b,l2] v)(L:b.length+l2.length<=1000000000):W (aK P aD 79 [v] H) λr H'=>aZ cU H.next ba H' (b++l2) r/\aw H H':=by
 refine agT 3 ?_;have lv:∀H0,bD P H0 .len [198] [v]=A (D F 2):=λH0=>by rw[h.len OR];rfl
 obtain⟨O,E,i1,i2,i3⟩:=h.As (j:=0) (a:=b) aa rfl;obtain⟨R,G,t,w,y⟩:=h.As (j:=1) (a:=l2) aa rfl;have cX:∀H0,bD P H0 .len [53] [E]=A (D F b.length):=λH0=>i3.len iG
 have B:∀H0,bD P H0 .len [53] [G]=A (D F l2.length):=λH0=>y.len iG
 have k:IntKind.i64.wrap ((0:Int)+(b.length:Int))=((b.length:Nat):Int):=by grind[wrap_i64]
 have l:IntKind.i64.wrap ((b.length:Int)+(l2.length:Int))=((b.length+l2.length:Nat):Int):=by grind[wrap_i64]
 have a6:IntKind.i64.wrap ((0:Int)+1)=1:=b0;have bd:IntKind.i64.wrap ((1:Int)+1)=2:=b0;have d0:(0:Int)<2:=b0;have d1:(1:Int)<2:=b0;have d2:¬(2:Int)<2:=b0;refine bb @I2.eq_1 @I7.eq_2 @I4.eq_1 @Dg.eq_1 @yi.eq_1 (ag lv (ag i1 (ag i2 (ag t (ag w (ag cX (ag B (ag k (ag l (ag a6 (ag bd (ag d0 (ag d1 d2))))))))))))) ?_;refine e2 (aai aa) λg H1 m d=> ?_
 have n:H.next<=H1.next:=d.1
 have ah:=h.below.aC d;obtain⟨Q,T,p,q,s⟩:=ah.As (j:=0) (a:=b) aa rfl;obtain⟨v2,c,x1,x2,x3⟩:=m.LD n s al;have ai:=ah.eu x3;obtain⟨S,U,u,x,z⟩:=ai.As (j:=1) (a:=l2) aa rfl;have o:H.next<=c.next:=by have:=x3.1;omega
 obtain⟨v3,i,K,e,f⟩:=x2.LD o z al;have M:H1.next<=c.next:=x3.1
 have N:c.next<=i.next:=f.1
 refine bb @I6.eq_2 @I3.eq_1 @I5.eq_1 lv p (ag q (ag u (ag x (ag x1 (ag K (ag a6 (ag bd (ag d0 (ag d1 d2))))))))) ?_;rw[List.nil_append]at e;exact aE.2 ⟨e,((ek d aa).trans x3).trans f⟩
end
end
section
open Go.a2
set_option maxRecDepth 2000
def MT{α β:Type}{f:α->List β}{n:Nat}:∀{l:List α},(∀a∈l,(f a).length<=n)->(l.flatMap f).length<=n*l.length
 |[],_=>aW
 |a::l,h=>by
  have ah:=h a aW;have ai:=MT (f:=f) (n:=n) (l:=l) λb c=>h b al
  grind[Nat.mul_succ]
def LQ{x:bq}(au:ep x):∀{cs:List bQ} {f:Nat},(∀(j:Nat) (c:bQ),cs[j]? =A c->x.ax[f+j]? =A c)->(kJ x cs f).length<=7*hz cs
 |[],_,_=>by grind[kJ]
 |c::cs,f,h=>by
  have aA:mu x f c:=⟨au,by simpa using h 0 c rfl⟩;have ah:(vb x f c).length<=7*c.ins.length:=MT λi aP=>FB (aA.ok.ins aP) au
  have ai:=LQ au (cs:=cs) (f:=f+1) λj a b=>by
   have:=h (j+1) a al;grind
  grind[kJ,hz]
def zN{x:bq}(au:right x=J):(cons x).length<=17500:=by
 have ah:=LQ (fG au) (cs:=x.ax) (f:=0) λj c h=>al
 have ai:=nT au;unfold cons;omega
theorem JE:∀{l r:List Nat},aO l=aO r->l=r
 |[],[],_=>rfl
 |[],b::r,h=>by simp[aO]at h
 |a::l,[],h=>by simp[aO]at h
 |a::l,b::r,h=>by
  simp only[aO,List.map_cons,List.cons.injEq]at h;have ah:a=b:=aa;rw[ah,JE (l:=l) (r:=r) h.2]
def aic(l:Nat){v w:af}(a:v.one=J)(hw:w.one=J):gu P l 198 2 [(0,v),(1,w)]=A (.az l 0 2 1 (A 2),.row I 1 [[v],[w]]):=by
 have u:P.underlying 198=A (.slice 53):=aG;have d:cM P 53=A 1:=aG;have z3:gb P 53=A .aq:=aG;have c:=dn a;have cw:=dn hw;have b:af.aq.cells=[af.aq]:=rfl;have on:af.aq.one=true:=rfl;simp[gu,u,d,z3,lZ,c,cw,b,a,hw,on,List.replicate]
section
variable {H:ae}{ok:Nat->Prop}{x:bq}
def VZ{n:Nat}{a b c:af}(d:af.beq a a=J)(e:af.beq b b=J)(aA:af.beq c c=J):bG (A (.agg (bl n a b c))) (.agg (bl n a b c))=true:=by
 simp[bG,bl,af.beq,e9.beq,d,e,aA]
def ky.keep{H H':ae}{ok ok':Nat->Prop}{k:a2.cK}{v:af}(p:du H ok H' ok')(h:ky H ok k v):ky H' ok' k v:=by
 obtain⟨a,b,c,e,ah,ai,ay,aM⟩:=h;exact⟨a,b,c,e,ah.keep p,ai.keep p,ay.keep p,aM⟩
theorem LA(au:right x=J){V lv:af}{zX zC:Nat}{o:Nat}(bf:(eb (b7 x) x.sites.length (cons x) (o+1)).of=(eb (b7 x) x.sites.length (cons x) o).of)(aJ:∀j,j<o->(eb (b7 x) x.sites.length (cons x) (j+1)).of≠(eb (b7 x) x.sites.length (cons x) j).of)
  {cs:List af} (bc:V= .agg cs) (bd:zX+1<zC) {N:Nat}:∀(q i:Nat) (H:ae) (U:af),i<=o->o<i+q->cE H (· <zX) x V->H.get zX=A (.row I 5 [cs])->aI cU H (· <zC) (cons x) lv->(∃r,H.get (zX+1)=A (.row I 4 [r])/\r.length=4)->(∃n a b c,U= .agg (bl n a b c)/\H.get zC=A (.row I 4 [bl n a b c]))->ky H (λq=>zX<=q/\q≠zC) (eb (b7 x) x.sites.length (cons x) i) U->
  W (Cy (aK P aD) N q (.ptr zX 0 0) (.ptr (zX+1) 0 0) lv (.ptr zC 0 0) H) λr H'=>ky H' (λL=>zX<=L) (eb (b7 x) x.sites.length (cons x) (o+1)) r/\cg zX H H'
 |0,i,_,_,aP,aH,_,_,_,_,_,_=>aa
 |q+1,i,H,U,aP,aH,aF,aQ,ao,⟨bw,ax,aL⟩,⟨n,a,b,c,aX,b5⟩,be=>by
  have aG:=fG au;have bI:=aG.sites;subst aX;obtain⟨bY,b',f,av,ah,ai,ay,aM⟩:=be;simp only[af.agg.injEq,bl,List.cons.injEq,af.int.injEq,and_true,true_and]at av;obtain⟨bz,rfl,rfl,rfl⟩:=av;obtain rfl:n=(eb (b7 x) x.sites.length (cons x) i).count:=aa;have bF:=ae.bm b5;have bE:=zN au;have bv:=VZ (n:=(eb (b7 x) x.sites.length (cons x) i).count) ah.rd ai.rd ay.rd;have he:=vZ (b7 x) x.sites.length (cons x) i;have bh:=u9 (b7 x) x.sites.length (cons x) i;have bg:eb (b7 x) x.sites.length (cons x) (i+1)=a2.merge (ho (b7 x) x.sites.length (cons x++hZ (m8 (b7 x) x.sites.length (cons x) i) x.sites.length)) x.sites.length:=rfl
  obtain⟨_,a3,a0,t,bu,d0,a4,ab,ad,aj,ak⟩:=aF;have aF:cE H (· <zX) x V:=⟨_,a3,a0,t,bu,d0,a4,ab,ad,aj,ak⟩;have aZ:cs=[a0,t,bu,d0,D F x.main]:=al;subst aZ;have bt:bG (A (.agg [a0,t,bu,d0,D F x.main])) (.agg [a0,t,bu,d0,D F x.main])=true:=by simp[bG,af.beq,e9.beq,ab.rd,ad.rd,aj.rd,ak.rd]
  generalize bD:eb (b7 x) x.sites.length (cons x) i=aN at*;refine bT @Cy.eq_2 @IF.eq_1 (kq b5) ?_;refine e2 (U2 he aa bh ⟨a,b,c,rfl,ah,ai,ay,aM⟩) λB H1 aS M=> ?_
  generalize bA:m8 (b7 x) x.sites.length (cons x) i=R at*;have S:=aw.push H1 (.row I 1 [[lv],[B]]);have a5:=ae.a1 H1 (.row I 1 [[lv],[B]]);have bC:(hZ R x.sites.length).length=x.sites.length:=by simp[hZ]
  have two:aI (bp cU) (H1.push (.row I 1 [[lv],[B]])) ba [cons x,hZ R x.sites.length] (.az H1.next 0 2 1 (A 2)):=by
   refine .inr (.inl ⟨H1.next,0,A 2,I,_,rfl,trivial,a5,aW,λj y G=> ?_⟩)
   match j,G with
   |0,G=>cases G;exact⟨[lv],rfl,lv,rfl,((ao.aC M).aC S).any⟩
   |1,G=>cases G;exact⟨[B],rfl,B,rfl,(aS.az.aC S).any⟩
  refine bK (λz0=>aic z0 ao.one aS.az.one) ?_;refine e2 (Xh two aa) λcl w bj bq=> ?_
  have Q:=(M.trans S).trans bq;have a7:=M.get aQ;have a8:=(M.trans S).get aQ;have aB:=Q.get aQ;refine bK (cq aB) ?_;have wf:gy (b7 x) x.sites.length (cons x++hZ R x.sites.length):=Uc (zO aG) (Ub he _ _);have bi:cE H (· <zX) x (.agg [a0,t,bu,d0,D F x.main]):=⟨_,rfl,a0,t,bu,d0,rfl,ab,ad,aj,ak⟩;refine e2 (O2 au (bi.keep (.aC Q)) wf al bj.az) ?_;rintro _ d ⟨bY,b',f,rfl,s,u,v,aT⟩ br;rw[<-bg]at s u v ⊢;generalize an:eb (b7 x) x.sites.length (cons x) (i+1)=aV at*;have bx:∀(q:af->ae->O),fA d [D F 0,.aq,.aq,.aq] q=q (.ptr d.next 0 0) (d.push (.row I 4 [bl 0 .aq .aq .aq])):=λq=>by rw[kf,kh];rfl
  have bs:=ae.a1 d (.row I 4 [bl 0 .aq .aq .aq]);have mh:cz P (d.push (.row I 4 [bl 0 .aq .aq .aq])) 33 (.ptr d.next 0 0) (.agg (bl aV.count bY b' f))=A (d.push (.row I 4 [bl aV.count bY b' f])):=by
   rw[k1 bs rfl s.one u.one v.one,ae.lD]
  have T:=aw.push d (.row I 4 [bl aV.count bY b' f]);have K:=ae.a1 d (.row I 4 [bl aV.count bY b' f]);have aU:=Q.trans br;have k:=aU.trans T;have am:=k.get b5;simp only[bx,mh];rw[nr aW];have bn:d.next<(d.push (.row I 4 [bl aV.count bY b' f])).next:=aW
  have bo:zC<d.next:=by have:=aU.1;omega
  obtain⟨E,a_⟩:∃E,E=d.next:=⟨_,rfl⟩
  rw[<-a_]at K bn bo ⊢;generalize d.push (.row I 4 [bl aV.count bY b' f])=l at*;have i1:=s.aC T;have hlen:(aO aV.of).length<=1000000000:=by
   have e:=u9 (b7 x) x.sites.length (cons x) (i+1);rw[an]at e;rw[e];simp[aO];omega
  refine bb (kq b5) bv (cq aQ) (cq a7) (cq a8) (ag (cq aB) (ag bt (ag (hb K) (hb am)))) ?_;refine dK (XE i1 (ah.aC k) hlen) ?_;have bH:zC<w.next:=by have:=Q.1;omega
  by_cases e:i=o
  ·subst e;have Y:aO aV.of=aO aN.of:=al;have aA:=k.get ax;have ar:=k1 (n:=aV.count) aA aL s.one u.one v.one;have bk:=ae.bm aA;have a6:(l.set (zX+1) (.row I 4 [bl aV.count bY b' f])).get (zX+1)=A (.row I 4 [bl aV.count bY b' f]):=ae.cO bk;have m:∀q,q≠zX+1->(l.set (zX+1) (.row I 4 [bl aV.count bY b' f])).get q=l.get q:=λq aH=>ae.b_ (Ne.symm aH)
   refine cu Y (kq K) ar (kq a6) ?_;have p:du d (λL=>w.next<=L) (l.set (zX+1) (.row I 4 [bl aV.count bY b' f])) (λL=>zX<=L):=λq b (aH:w.next<=q) g=>⟨show zX<=q by omega,by rw[m q aa];exact T.get g⟩
   rw[an];exact aE.2 ⟨⟨_,_,_,rfl,s.keep p,u.keep p,v.keep p,aT⟩,by have:=k.1;simpa using this,λq aH=>by rw[m q aa,k.2 q aa]⟩
  ·have Y:aO aV.of≠aO aN.of:=λh=>aJ i aa (by
    grind[JE])
   have ar:=k1 (n:=aV.count) (a:=bY) (b:=b') (c:=f) am rfl s.one u.one v.one;have iS:=ae.bm am;have m:∀q,q≠zC->(l.set zC (.row I 4 [bl aV.count bY b' f])).get q=l.get q:=λq aH=>ae.b_ (Ne.symm aH)
   refine bT Y (kq K) ar ?_;have aR:∀{ap:Nat->Prop},(∀q,ap q->q≠zC)->du H ap (l.set zC (.row I 4 [bl aV.count bY b' f])) ap:=λa9 q b aH g=>⟨aH,by rw[m q (a9 q aH)];exact k.get g⟩
   have p:du d (λL=>w.next<=L) (l.set zC (.row I 4 [bl aV.count bY b' f])) (λq=>zX<=q/\q≠zC):=λq b (aH:w.next<=q) g=>⟨show zX<=q/\q≠zC by omega,by rw[m q aa];exact T.get g⟩
   refine(LA au bf aJ bc bd q (i+1) _ (.agg (bl aV.count bY b' f)) aa aa (aF.keep (aR λq (aH:q<zX)=>aa)) (by rw[m zX aa];exact k.get aQ) (ao.keep (aR λq (aH:q<zC)=>aa)) ⟨bw,by rw[m _ aa];exact k.get ax,aL⟩ ⟨_,_,_,_,rfl,ae.cO iS⟩ ?_).mono λr H' z=>⟨z.1,⟨by have:=z.2.1;have:=k.1;simp at*;omega,λq aH=>by rw[z.2.2 q aH,m q aa,k.2 q aa]⟩⟩
   rw[an];exact⟨_,_,_,rfl,s.keep p,u.keep p,v.keep p,aT⟩
theorem WV(au:right x=J){V:af}(aF:cE H ok x V):W (aK P aD 36 [V] H) λr H'=>ky H' (λL=>H.next<=L) (a2.fK x) r/\aw H H':=by
 have y:=fG au;have aB:=y.sites;obtain⟨B,ax,U,Y,aA⟩:=Ju (b7 x) x.sites.length (cons x);have n:=aF;obtain⟨_,rfl,a,b,cc,d,rfl,ah,ai,ay,aM⟩:=aF;refine agt (B+1) ?_;obtain⟨zX,f⟩:∃zX,zX=H.next:=⟨_,rfl⟩
 have ak:=aw.push H (.row I 5 [[a,b,cc,d,D F x.main]]);have Q:=ae.a1 H (.row I 5 [[a,b,cc,d,D F x.main]]);have G:=aw.push (H.push (.row I 5 [[a,b,cc,d,D F x.main]])) (.row I 4 [bl 0 .aq .aq .aq]);have w:=ae.a1 (H.push (.row I 5 [[a,b,cc,d,D F x.main]])) (.row I 4 [bl 0 .aq .aq .aq]);have l:=G.get Q;have K:(H.push (.row I 5 [[a,b,cc,d,D F x.main]])).next=zX+1:=by rw[f];simp
 have am:∀(k:af->ae->O),fA (H.push (.row I 5 [[a,b,cc,d,D F x.main]])) [D F 0,.aq,.aq,.aq] k=k (.ptr (zX+1) 0 0) ((H.push (.row I 5 [[a,b,cc,d,D F x.main]])).push (.row I 4 [bl 0 .aq .aq .aq])):=λk=>by rw[kf,kh,K];rfl
 rw[K]at w;rw[<-f]at l;simp only[IE,dQ ah ai ay aM,nq,am,<-f];have i:=ak.trans G;generalize S:(H.push (.row I 5 [[a,b,cc,d,D F x.main]])).push (.row I 4 [bl 0 .aq .aq .aq])=M at*;have aE:M.next=zX+2:=by rw[<-S];simp[f]
 refine bK (cq l) ?_;refine e2 (W9 au (n.aC i)) λlv j E m=> ?_
 have aj:=i.trans m;have R:=m.get l;refine bK (cq R) ?_;have av:=zN au;refine e2 (O2 au (n.aC aj) (zO y) aa E.az) ?_;rintro _ c ⟨bY,b',e,rfl,p,s,t,ad⟩ u;have ab:eb (b7 x) x.sites.length (cons x) 0=a2.merge (ho (b7 x) x.sites.length (cons x)) x.sites.length:=rfl;rw[<-ab]at p s t ⊢;generalize T:eb (b7 x) x.sites.length (cons x) 0=aV at*;have an:∀(q:af->ae->O),fA c [D F 0,.aq,.aq,.aq] q=q (.ptr c.next 0 0) (c.push (.row I 4 [bl 0 .aq .aq .aq])):=λq=>by rw[kf,kh];rfl
 have al:=ae.a1 c (.row I 4 [bl 0 .aq .aq .aq]);have mh:cz P (c.push (.row I 4 [bl 0 .aq .aq .aq])) 33 (.ptr c.next 0 0) (.agg (bl aV.count bY b' e))=A (c.push (.row I 4 [bl aV.count bY b' e])):=by
  rw[k1 al rfl p.one s.one t.one,ae.lD]
 have v:=aw.push c (.row I 4 [bl aV.count bY b' e]);have N:=ae.a1 c (.row I 4 [bl aV.count bY b' e]);have h:=(m.trans u).trans v;simp only[an,mh];rw[nr aW];have ap:zX+2<=j.next:=by have:=m.1;omega
 have ar:j.next<=c.next:=u.1
 refine(LA au U Y rfl (zX:=zX) (zC:=c.next) aa (B+1) 0 _ (.agg (bl aV.count bY b' e)) aa aa (f▸n.keep λq b aH g=>⟨ae.bm g,(i.trans h).get g⟩) (h.get l) ((E.az.below.aC (u.trans v)).keep (.le λL ao=>aa)) ⟨_,h.get w,rfl⟩ ⟨_,_,_,_,rfl,N⟩ ?_).mono λr H' z=>⟨?_,⟨by have:=z.2.1;have:=(i.trans h).1;omega,λq aH=>by rw[z.2.2 q aa,(i.trans h).2 q aH]⟩⟩
 ·rw[T];have o:du c (λL=>j.next<=L) (c.push (.row I 4 [bl aV.count bY b' e])) (λq=>zX<=q/\q≠c.next):=λq b (aH:j.next<=q) g=>⟨show zX<=q/\q≠c.next by have:=ae.bm g;omega,v.get g⟩
  exact⟨_,_,_,rfl,p.keep o,s.keep o,t.keep o,ad⟩
 grind[a2.fK]
end
end
section
open Go.a2
set_option maxRecDepth 2000
section
variable {H:ae}{ok ok':Nat->Prop}
theorem acL{o:List Int}{ov:af}{B:Nat}{a:Int}(g:H.get B=A (.row I 1 [[D F a]]))(aX:aI aN H ok o ov)(b:o.length<=1000000000):W (aK P aD 100 [ov,.ptr B 0 0] H) λr H'=>r= C (decide (a∈o))/\H'=H:=by
 refine aeN 0 ?_;refine bF @G9.eq_1 (iE g) ?_;refine dK (Fc aX b) ?_;grind[aE]
theorem NT{os:List (List Int)}{v:af}{B:Nat}{a:Int}(g:H.get B=A (.row I 1 [[D F a]]))(aX:aI (bp aN) H ok os v)(d:os.length<=1000000000)(b:∀o∈os,o.length<=1000000000){N:Nat}:∀(j k q:Nat),k+j=os.length->j<q->(∀o∈os.take k,a∉o)->
  W (wP (aK P aD) N q v (.func (.func 100) [] [.ptr B 0 0]) (D F os.length) (D F k) H) λr H'=>∃i:Int,r= D F i/\(0<=i↔∃o∈os,a∈o)/\H'=H
 |_,_,0,_,hm,_=>aa
 |0,k,q+1,h,_,f=>by
  have m:¬(k:Int)<(os.length:Int):=aa;refine bT @wP.eq_2 @BM.eq_1 @Ht.eq_1 ?_;grind[aE]
 |j+1,k,q+1,h,hm,f=>by
  have c:k<os.length:=aa;have l:=List.getElem_mem c;obtain⟨p,w,i1,i2,i3⟩:=aX.list (j:=(k:Int)) (a:=os[k]) aa al;have on:=NT g aX d b (N:=N) j (k+1) q;rw[List.take_add_one,List.getElem?_eq_getElem c]at on;generalize os[k]=o at*;refine bb @wP.eq_2 @BM.eq_1 i1 i2 @qK.eq_1 @pB.eq_1 ?_;refine dK (acL g i3 (b o l)) ?_;by_cases e:a∈o
  ·refine bK e ?_;grind[aE]
  ·refine bK e ?_;grind
theorem Xb{os:List (List Int)}{v:af}{B:Nat}{a:Int}(g:H.get B=A (.row I 1 [[D F a]]))(aX:aI (bp aN) H ok os v)(c:os.length<=1000000000)(d:∀o∈os,o.length<=1000000000):W (aK P aD 99 [v,.func (.func 100) [] [.ptr B 0 0]] H) λr H'=>∃b,r= C b/\(b=J↔∃o∈os,a∈o)/\H'=H:=by
 refine aha 0 ?_;have key:W (aK P aD 146 [v,.func (.func 100) [] [.ptr B 0 0]] H) λr H'=>∃i:Int,r= D F i/\(0<=i↔∃o∈os,a∈o)/\H'=H:=by
  refine afi (os.length+1) ?_;refine bF @Hs.eq_1 (aX.bf dJ) ?_;exact NT g aX c d os.length 0 _ aa aa λo h=>al
 refine bK @Jk.eq_1 ?_;refine cB key ?_;rintro _ H1 ⟨i,rfl,aP,rfl⟩;refine⟨aa,?_⟩;refine bM ?_;grind[aE]
noncomputable def nQ(l:List Int)(os:List (List Int)):List Int:=open Classical in l.filter λa=>decide (∀o∈os,a∉o)
theorem O7{l:List Int}{os:List (List Int)}{lv ov:af}{B:Nat}(ar:l.length<=1000000000)(m:os.length<=1000000000)(s:∀o∈os,o.length<=1000000000){N:Nat}:∀(j k q:Nat) (H:ae) (r:List Int) (v:af),k+j=l.length->j<q->aZ aN B ba H r v->B<=H.next->r.length<=k->aI aN H (· <B) l lv->aI (bp aN) H (· <B) os ov->
  W (xR (aK P aD) N q ov v lv (D F l.length) (D F k) H) λw H'=>aZ aN B ba H' (r++nQ (l.drop k) os) w/\cg B H H'
 |_,_,0,_,_,_,_,aH,_,_,_,_,_=>aa
 |0,k,q+1,H,r,v,y,_,au,d,K,ah,ai=>by
  have Q:¬(k:Int)<(l.length:Int):=aa;refine bT @xR.eq_2 @CX.eq_1 @CY.eq_1 ?_;rw[List.drop_of_length_le aa];exact aE.2 ⟨by grind[nQ],.refl _ _⟩
 |j+1,k,q+1,H,r,v,y,aH,au,d,K,ah,ai=>by
  have R:k<l.length:=aa;obtain⟨p,i1,i2⟩:=ah.int (j:=(k:Int)) (a:=l[k]) aa al;have on:=O7 (lv:=lv) (ov:=ov) (B:=B) ar m s (N:=N) j (k+1) q;have x:nQ (l.drop k) os=(if(∀o∈os,l[k]∉o)then[l[k]]else[])++nQ (l.drop (k+1)) os:=by
   grind[List.drop_eq_getElem_cons,nQ]
  rw[x];generalize l[k]=a at*;have c:=aw.push H (.row I 1 [[D F a]]);have g:=ae.a1 H (.row I 1 [[D F a]]);have st:cz P (H.push (.row I 1 [[D F 0]])) 3 (.ptr H.next 0 0) (D F a)=A (H.push (.row I 1 [[D F a]])):=by
   rw[fb (n:=1) aG (ae.a1 H (.row I 1 [[D F 0]])) rfl rfl rfl b0];show A ((H.push _).set H.next (.row I 1 [gl _ 0 _]))=_;rw[ae.lD];rfl
  refine dd @xR.eq_2 @CX.eq_1 i1 i2 st ?_;refine cB (Xb g (ai.aC c) m s) ?_;rintro _ H1 ⟨b,rfl,O,rfl⟩;refine⟨ds _,?_⟩;have i:B<=(H.push (.row I 1 [[D F a]])).next:=by have:=c.1;omega
  generalize H.push (.row I 1 [[D F a]])=G at*;cases b with
  |true=>
   have e:¬∀o∈os,a∉o:=λh=>al
   rw[if_neg e,List.nil_append];refine bK @IQ.eq_1 ?_;exact(on _ r v aa aa (au.aC c) i aa (ah.aC c) (ai.aC c)).mono λw H' z=>⟨z.1,(ek c d).trans z.2⟩
  |false=>
   have e:∀o∈os,a∉o:=λo S T=>al
   rw[if_pos e];have E:=au.aC c;obtain⟨L,f,t,u,a3,a4,a5⟩:=E.j4 (a:=a) i aa;have M:(G.push (.row I 1 [[D F a]])).next<=f.next:=by grind[ae.fW]
   have pu:=(ek c d).trans a3;refine cu @IQ.eq_1 (iE g) @c3 t ?_;refine(on f (r++[a]) L aa aa u aa al (ah.eu pu) (ai.eu pu)).mono λw H' z=>⟨?_,pu.trans z.2⟩
   grind
theorem O8{l:List Int}{os:List (List Int)}{lv ov:af}(ar:l.length<=1000000000)(a:os.length<=1000000000)(b:∀o∈os,o.length<=1000000000)(ah:aI aN H ok l lv)(ai:aI (bp aN) H ok' os ov):W (aK P aD 46 [lv,ov] H) λr H'=>aZ aN H.next ba H' (nQ l os) r/\aw H H':=by
 refine agC (l.length+1) ?_;refine bF @IP.eq_1 (ah.bf bV) ?_;exact(O7 ar a b l.length 0 _ H [] .aq aa aa (aZ.nil aN _ _ _) aa aW ah.below ai.below).mono λr H' z=>⟨al,z.2⟩
