/-
  Texts of one proof, laid together: Rc Rd Re Rf Rg Rh ShH Ri Rj Rk Rl Sa.
-/
import Derived.Test.YtmhhnnklfcbgfaaGreatMM
set_option linter.unusedVariables false
set_option linter.unusedSimpArgs false
set_option linter.defProp false
open Option renaming some→A,none→Z
open Bool renaming true→J,false→I
open Go.cw.af renaming int→D,bool→C
open Go.IntKind renaming i64→F
namespace Go.Proofs.YtmhhnnklfcbgfaaGreat
open Go.cw
section
open Go.a_
set_option maxRecDepth 2000
structure fJ(m:Nat)(p:c8):Prop extends May m p where
 hm:m<=60
 nl:∀N∈p.nodes,N.length<=60
 dD:∀fs∈p.fields,∀l∈fs,l.length<=60
 nn:p.nodes.length<=1000000
def NL{n m:Nat}{l:List bp}(hm:m<=60)(aL:n<=1000000):fJ m (hb n m l):=by
 refine {abn n m (dH n l)with hm:=hm,nl:= ?_,dD:= ?_,nn:=by grind[hb,il]}
 ·grind[hb,il,ns]
 grind[hb,il,ns]
def fJ.Ex{m:Nat}{p:c8}(h:fJ m p){t k:Nat}(ba:t<m)(c:k<8):∃fs,p.fields[t]? =A fs/\fs[k]? =A (p.ee t k)/\fs.length=8:=by
 have aw:=h.len;have a:p.fields[t]? =A p.fields[t]:=al;have b:=h.wid _ (List.getElem_mem (by omega:t<p.fields.length));grind[c8.ee]
def fJ.LH{m:Nat}{p:c8}(h:fJ m p)(t k:Nat):(p.ee t k).length<=60:=by
 unfold c8.ee;cases e:p.fields[t]? with
 |none=>simp
 |some fs=>
  simp only[Option.bind_some];cases a:fs[k]? with
  |none=>simp
  |some l=>exact h.dD fs (List.mem_of_getElem? e) l (List.mem_of_getElem? a)
section
variable {H:ae}{ok:Nat->Prop}
theorem agG{B m a:Nat}(g:H.get B=A (.row I 1 [[D F (m:Nat)]]))(b:a<m):W (aK P aG 253 [D F (a:Nat),.ptr B 0 0] H) λr H'=>r= C I/\H'=H:=by
 refine aeZ 0 ?_;refine bG @Hv.eq_1 (iD g) ?_;grind[aD]
theorem MK{l:List Nat}{v:af}{B m:Nat}(hw:∀a∈l,a<m)(c:l.length<=1000000000)(aw:aH aN H ok (aQ l) v)(g:H.get B=A (.row I 1 [[D F (m:Nat)]])){N:Nat}:∀(j k q:Nat),k+j=l.length->j<q->
  W (wM (aK P aG) N q v (.func (.func 253) [] [.ptr B 0 0]) (D F l.length) (D F k) H) λr H'=>r= D F (-1)/\H'=H
 |_,_,0,_,hm=>ad
 |0,k,q+1,d,_=>by
  have f:¬(k:Int)<(l.length:Int):=ad;refine b3 @wM.eq_2 @BH.eq_1 @Hy.eq_1 ?_;grind[aD]
 |j+1,k,q+1,d,hm=>by
  have b:k<l.length:=ad;obtain⟨p,i1,i2⟩:=aw.int (j:=(k:Int)) (a:=((l[k]:Nat):Int)) ad (by simp[aQ,b]);have e:=hw _ (List.getElem_mem b);have on:=MK (B:=B) (v:=v) hw c aw g (N:=N) j (k+1) q;refine bh @wM.eq_2 @BH.eq_1 i1 i2 @qe.eq_1 @oY.eq_1 ?_;refine dK (agG g e) ?_;refine bN ?_;grind
theorem VT{l:List Nat}{v:af}{B m:Nat}(hw:∀a∈l,a<m)(b:l.length<=1000000000)(aw:aH aN H ok (aQ l) v)(g:H.get B=A (.row I 1 [[D F (m:Nat)]])):
  W (aK P aG 252 [v,.func (.func 253) [] [.ptr B 0 0]] H) λr H'=>r= C I/\H'=H:=by
 refine aeY 0 ?_;have hlen:(aQ l).length=l.length:=by simp[aQ]
 have key:W (aK P aG 261 [v,.func (.func 253) [] [.ptr B 0 0]] H) λr H'=>r= D F (-1)/\H'=H:=by
  refine ae3 (l.length+1) ?_;refine b3 @Hx.eq_1 (aw.bg b0) hlen ?_;exact MK hw b aw g l.length 0 (l.length+1) ad ad
 refine bP @Hu.eq_1 ?_;refine dK key ?_;refine bN ?_;grind[aD]
theorem Oe{ls:List (List Nat)}{v:af}{B m:Nat}(hw:∀l∈ls,∀a∈l,a<m)(d:∀l∈ls,l.length<=60)(b:ls.length<=1000000000)(aw:aH (bu aN) H ok (ls.map aQ) v)(g:H.get B=A (.row I 1 [[D F (m:Nat)]])){N:Nat}:∀(j k q:Nat),k+j=ls.length->j<q->
  W (wB (aK P aG) N q (.ptr B 0 0) v (D F ls.length) (D F k) H) λr H'=>r= C J/\H'=H
 |_,_,0,_,hm=>ad
 |0,k,q+1,c,_=>by
  have h:¬(k:Int)<(ls.length:Int):=ad;refine b3 @wB.eq_2 @By.eq_1 @Hg.eq_1 ?_;grind[aD]
 |j+1,k,q+1,c,hm=>by
  have e:k<ls.length:=ad;obtain⟨p,w,i1,i2,i3⟩:=aw.list (j:=(k:Int)) (a:=aQ ls[k]) ad al;have f:=List.getElem_mem e;have on:=Oe (B:=B) (v:=v) hw d b aw g (N:=N) j (k+1) q;refine cv @wB.eq_2 @By.eq_1 i1 i2 ?_;refine dK (VT (hw _ f) al i3 g) ?_;refine bN ?_;grind
def Of{ls:List (List Nat)}{v:af}{m:Nat}(hw:∀l∈ls,∀a∈l,a<m)(d:∀l∈ls,l.length<=60)(c:ls.length<=1000000000)(aw:aH (bu aN) H ok (ls.map aQ) v):
  W (aK P aG 226 [v,D F (m:Nat)] H) λr H'=>r= C J/\au H H':=by
 refine aeI (ls.length+1) ?_;have b:=au.push H (.row I 1 [[D F (m:Nat)]]);have hlen:(ls.map aQ).length=ls.length:=aX;refine cv @Hf.eq_1 @Kc (aw.bg dP) hlen ?_;exact(Oe hw d c (aw.aB b) (ae.a2 _ _) ls.length 0 _ ad ad).mono λr H' q=>⟨q.1,q.2▸b⟩
theorem aH.uU{l:List (List (List Int))}{v:af}(h:aH (bu (bu aN)) H ok l v){j:Int}{a:List (List Int)}(b:0<=j)(c:l[j.toNat]? =A a):∃p w,ct P 152 v (D F j)=A p/\aI P H 31 p=A w/\aH (bu aN) H ok a w:=by
 obtain⟨p,cs,d,e,w,rfl,f⟩:=aH.val (K:=bu (bu aN)) nr aF h b c;grind
def yU(l:Nat){x y:af}(aE:x.one=J)(a:y.one=J):fj l (.agg [x,y])=A (.ptr l 0 0,.row I 2 [[x,y]]):=by simp[fj,af.cells,aE,a]
theorem NM{m:Nat}{p:c8}(b:fJ m p){zX:Nat}{nv fv:af}{N:Nat}:∀(j k q:Nat) (H:ae),k+j=m->j<q->aH (bu (bu aN)) H ok (p.fields.map (·.map aQ)) fv->H.get zX=A (.row I 2 [[nv,fv]])->
  W (wb (aK P aG) N q (.ptr zX 0 0) (D F m) fv (D F m) (D F k) H) λr H'=>r= C J/\au H H'
 |_,_,0,_,_,hm,_,_=>ad
 |0,k,q+1,H,h,_,aC,g=>by
  have y:¬(k:Int)<(m:Int):=ad;refine b3 @wb.eq_2 @Bk.eq_1 @GY.eq_1 ?_;exact aD.2 ⟨rfl,.refl _⟩
 |j+1,k,q+1,H,h,hm,aC,g=>by
  have x:=b.len;have B:=b.hm;have v:p.fields[0]? =A p.fields[0]:=al;have w:p.fields[k]? =A p.fields[k]:=al;have t:=List.getElem_mem (by omega:0<p.fields.length);have mk:=List.getElem_mem (by omega:k<p.fields.length);obtain⟨E,w0,i1,i2,i3⟩:=aC.uU (j:=0) (a:=p.fields[0].map aQ) ad al;obtain⟨c,u,i,n,d⟩:=aC.uU (j:=(k:Int)) (a:=p.fields[k].map aQ) ad al;have o:∀H0,bE P H0 .len [31] [w0]=A (D F 8):=λH0=>by rw[i3.len dP,List.length_map,b.wid _ t];rfl
  have s:∀H0,bE P H0 .len [31] [u]=A (D F 8):=λH0=>by rw[d.len dP,List.length_map,b.wid _ mk];rfl
  have on:=NM b (zX:=zX) (nv:=nv) (fv:=fv) (N:=N) j (k+1) q;have e:((8:Int) != 8)=false:=rfl;have fY:¬(8:Int)>8:=bZ;refine bh @wb.eq_2 @Bk.eq_1 i1 i2 i (ag n (ag o (ag s (ag (fw g) (ag e fY))))) ?_;refine cT (Of (λl aw a f=>b.ee _ mk l aw a f) (b.dD _ mk) (by rw[b.wid _ mk];omega) d) λH1 c=> ?_
  refine bN ?_;exact(on H1 ad ad (aC.aB c) (c.get g)).mono λr H' z=>⟨z.1,c.trans z.2⟩
def abJ{m:Nat}{p:c8}(a:fJ m p){nv fv:af}(g:aH (bu aN) H ok (p.nodes.map aQ) nv)(b:aH (bu (bu aN)) H ok (p.fields.map (·.map aQ)) fv):
  W (aK P aG 185 [.agg [nv,fv]] H) λr H'=>r= C J/\au H H':=by
 refine aeq (m+1) ?_;have c:=au.push H (.row I 2 [[nv,fv]]);have e:=ae.a2 H (.row I 2 [[nv,fv]]);have i:=a.hm;have h:∀H0,bE P H0 .len [152] [fv]=A (D F (m:Nat)):=λH0=>by rw[b.len nr,List.length_map,a.len]
 have fY:¬(m:Int)>60:=ad;refine c_ @GX.eq_1 (λz0=>yU z0 g.one b.one) (fw e) h fY ?_;refine cT (Of (ls:=p.nodes) a.nodes a.nl (by have:=a.nn;omega) (g.aB c)) λH1 d=> ?_
 have f:=d.get e;refine bG (fw f) h ?_;exact(NM a m 0 _ H1 ad ad ((b.aB c).aB d) f).mono λr H' z=>⟨z.1,(c.trans d).trans z.2⟩
def g7(of:List Nat):List Nat->Int
 |[]=> -1
 |a::_=>((of.getD a 0:Nat):Int)
theorem Kz{of l:List Nat}{ov lv:af}{ok':Nat->Prop}(aZ:aH aN H ok (aQ of) ov)(aw:aH aN H ok' (aQ l) lv)(aE:∀a∈l,a<of.length):W (aK P aG 190 [ov,lv] H) λr H'=>r= D F (g7 of l)/\H'=H:=by
 refine aev 0 ?_;have hlen:(aQ l).length=l.length:=by simp[aQ]
 cases l with
 |nil=>
  refine b3 @Br.eq_1 (aw.bg b0) hlen ?_;exact aD.2 ⟨rfl,rfl⟩
 |cons a bs=>
  have b:=aE a aX;obtain⟨p,i1,i2⟩:=aw.int (j:=0) (a:=((a:Nat):Int)) ad (by simp[aQ]);obtain⟨c,i3,i4⟩:=aZ.int (j:=(a:Int)) (a:=((of.getD a 0:Nat):Int)) ad (by grind[aQ]);have e:(((bs.length+1:Nat):Int)==0)=false:=beq_eq_false_iff_ne.2 ad;refine bh @Br.eq_1 (aw.bg b0) hlen e i1 (ag i2 (ag i3 i4)) ?_;exact aD.2 ⟨rfl,rfl⟩
def fm(p:c8)(set:List Nat)(k:Nat):List Nat:=set.flatMap λt=>p.ee t k
theorem LY{m:Nat}{p:c8}(c:fJ m p){set:List Nat}(i:∀t∈set,t<m)(y:set.length<=1000){cO zX B:Nat}(h:cO<8){nv fv sv:af}{ok':Nat->Prop}{N:Nat}(f:zX<B):∀(j k q:Nat) (H:ae) (l:List Int) (v:af),k+j=set.length->j<q->aH (bu (bu aN)) H (· <B) (p.fields.map (·.map aQ)) fv->aH aN H (· <B) (aQ set) sv->H.get zX=A (.row I 2 [[nv,fv]])->aY aN B bb H l v->B<=H.next->l.length<=60*k->
  W (wm (aK P aG) N q (D F (cO:Nat)) (.ptr zX 0 0) v sv (D F set.length) (D F k) H) λr H'=>aY aN B bb H' (l++aQ (fm p (set.drop k) cO)) r/\cl B H H'
 |_,_,0,_,_,_,_,hm,_,_,_,_,_,_=>ad
 |0,k,q+1,H,l,v,x,_,aC,d,g,n,e,_=>by
  have T:¬(k:Int)<(set.length:Int):=ad;refine b3 @wm.eq_2 @Bs.eq_1 @G7.eq_1 ?_;rw[List.drop_of_length_le ad];exact aD.2 ⟨by grind[fm,aQ],.refl _ _⟩
 |j+1,k,q+1,H,l,v,x,hm,aC,d,g,n,e,hle=>by
  have b:k<set.length:=ad;have ba:=i _ (List.getElem_mem b);obtain⟨U,i1,i2⟩:=d.int (j:=(k:Int)) (a:=((set[k]:Nat):Int)) ad (by simp[aQ,b]);have on:=LY c i y h (nv:=nv) (fv:=fv) (sv:=sv) (ok':=ok') (N:=N) f j (k+1) q;rw[List.drop_eq_getElem_cons b];generalize set[k]=t at*;obtain⟨fs,O,Q,R⟩:=c.Ex ba h;obtain⟨V,aa,E,G,K⟩:=aC.uU (j:=(t:Int)) (a:=fs.map aQ) ad al;obtain⟨Y,ab,bV,b9,L⟩:=K.list (j:=(cO:Int)) (a:=aQ (p.ee t cO)) ad al;have S:=c.LH t cO;have w:l.length+(aQ (p.ee t cO)).length<=1000000000:=by simp[aQ];omega
  obtain⟨M,H1,o,s,a3,a4,a5⟩:=n.ints e L w;have u:B<=H1.next:=by have:=a3.1;omega
  have nn:H.next<=H1.next:=a3.1
  refine bh @wm.eq_2 @Bs.eq_1 i1 i2 (fw g) (ag E (ag G (ag bV (ag b9 o)))) ?_;refine(on H1 _ M ad ad (aC.e3 a3) (d.e3 a3) ((a3.2 zX f).trans g) s u (by simp[aQ];omega)).mono λr H' z=>⟨?_,a3.trans z.2⟩
  grind[fm,aQ]
def LZ{m:Nat}{p:c8}(j:fJ m p){set:List Nat}(l:∀t∈set,t<m)(o:set.length<=1000){cO:Nat}(h:cO<8){nv fv sv:af}{ok':Nat->Prop}(i:nv.one=J)(aC:aH (bu (bu aN)) H ok (p.fields.map (·.map aQ)) fv)(b:aH aN H ok' (aQ set) sv):
  W (aK P aG 191 [.agg [nv,fv],sv,D F (cO:Nat)] H) λr H'=>aY aN H.next bb H' (aQ (fm p set cO)) r/\au H H':=by
 refine aew (set.length+1) ?_;have a:=au.push H (.row I 2 [[nv,fv]]);have d:=ae.a2 H (.row I 2 [[nv,fv]]);have hlen:(aQ set).length=set.length:=by simp[aQ]
 refine cv @G6.eq_1 (λz0=>yU z0 i aC.one) (b.bg b0) hlen ?_;refine(LY j l o h (B:=H.next+1) (ok':=ok') ad set.length 0 _ _ [] .ao ad ad ((aC.below.aB a).keep (.le λL f=>ad)) ((b.below.aB a).keep (.le λL f=>ad)) d (aY.nil aN _ _ _) aX aX).mono λr H' z=>⟨⟨?_,λL n c e=>by have:=z.1.low L n c e;omega⟩,?_⟩
 ·simpa using z.1.eL
 ·exact⟨by have:=z.2.1;simp at this;omega,λk g=>(z.2.2 k ad).trans (a.2 k g)⟩
end
end
section
open Go.a_
set_option maxRecDepth 2000
def aY.kJ{α:Type}{K:eS α}(c:Plain K){B:Nat}{H:ae}{l:List α}{v:af}(h:aY K B bb H l v):aH K H (λk=>B<=k) l v:=by
 rcases h.eL with ah|⟨L,els,cap,a,g,d,i,m,e⟩
 ·exact .inl ah
 ·exact .inr (.inl ⟨L,0,cap,I,els,a,h.low _ _ _ a,d,ad,λj x b=>by
   obtain⟨cs,n,f⟩:=e j x b;exact⟨cs,al,c f⟩⟩)
def abr{L set:List Nat}(h:set∈cX L):∃r,r<L.length/\aR L r=r/\set=c7 L.length λs=>aR L s=r:=by
 grind[cX,uY]
def agz{L:List Nat}(g:a_.Good L){s:Nat}(a:s<L.length):(c7 L.length λt=>aR L t=aR L s)∈cX L:=by
 simp only[cX,List.mem_map];exact⟨aR L s,uY.2 ⟨g.lt a,g.id s⟩,rfl⟩
def RB{m:Nat}{p:c8}{L set:List Nat}(h:dN m p L)(b:set∈cX L):(∀t∈set,t<m)/\set.length<=m/\(∀s∈set,∀t∈set,bR p s t)/\∃t,set[0]? =A t:=by
 obtain⟨r,ah,ai,rfl⟩:=abr b;rw[h.len]at ah ⊢;refine⟨λt ba=>(g_.1 ba).1,ns _ _,λs b t ba=>h.sub s t ?_,?_⟩
 ·show aR L s=aR L t;grind[g_]
 ·have ar:r∈c7 m λs=>aR L s=r:=g_.2 ad
  cases e:c7 m λs=>aR L s=r with
  |nil=>grind
  |cons a l=>exact⟨a,rfl⟩
def sB{p:c8}{set:List Nat}{k a:Nat}:a∈fm p set k↔∃t∈set,a∈p.ee t k:=by simp[fm]
def YW{m:Nat}{p:c8}(a:fJ m p)(set:List Nat)(k:Nat):(fm p set k).length<=60*set.length:=by
 unfold fm
 induction set with
 |nil=>simp
 |cons t ts b=>simp only[List.flatMap_cons,List.length_append,List.length_cons];have:=a.LH t k;omega
section
variable {zD m:Nat}{p:c8}{ok FF okv:Nat->Prop}{nv fv sv:af}{zX:Nat}
theorem Lx{set:List Nat}(f:fJ m p)(ab:∀k,ok k->k≠zD)(aj:∀k,FF k->k≠zD)(v:zX≠zD)(z:nv.one=J)(B:∀t∈set,t<m)(ak:set.length<=m)(G:∀s∈set,∀t∈set,bR p s t){x10 x11 x12:af}{L1:af->af->af->af->af->af->ae->O}{Q:af->ae->Prop}{N:Nat}:
  ∀(j k q:Nat) (L:List Nat) (b:Bool) (H:ae),k+j=8->j<q->fi zD L H->dN m p L->aH (bu (bu aN)) H ok (p.fields.map (·.map aQ)) fv->aH aN H FF (aQ set) sv->H.get zX=A (.row I 2 [[nv,fv]])->
  (∀(L':List Nat) (b':Bool) (H':ae),fi zD L' H'->dN m p L'->iP L L'->(b'=J->b=J\/hA L'<hA L)->(b'=I->b=I/\L'=L)->(∀cO,k<=cO->cO<8->∀a∈fm p set cO,∀c∈fm p set cO,ed L' a c)->fK (· =zD) H H'->
   W (ra (aK P aG) N L1 (.ptr (zD+1) 0 0) (.ptr zX 0 0) (C b') x10 x11 x12 H') Q)->
  W (wj (aK P aG) N L1 q (.ptr (zD+1) 0 0) (.ptr zX 0 0) (C b) sv x10 x11 x12 (D F 8) (D F k) H) Q
 |_,_,0,_,_,_,_,hm,_,_,_,_,_,_=>ad
 |0,k,q+1,L,b,H,Y,_,h,l,aC,r,g,fin=>by
  have ay:¬(k:Int)<8:=ad;refine bG @wj.eq_2 @Bn.eq_1 ?_;exact fin L b H h l (.refl h.g) (λe=> .inl e) (λe=>⟨e,rfl⟩) ad (.refl _ _)
 |j+1,k,q+1,L,b,H,Y,hm,h,l,aC,r,g,fin=>by
  have aa:k<8:=ad;have aD:=f.hm;have on:=Lx f ab aj v z B ak G (x10:=x10) (x11:=x11) (x12:=x12) (L1:=L1) (Q:=Q) (N:=N) j (k+1) q;refine b3 @wj.eq_2 @Bn.eq_1 (mE g) ?_;refine e2 (LZ f B ad aa z aC r) λgv H1 ap S=> ?_
  have ar:=h.lt;have V:=l.len;have av:=YW f set k;have o:∀x∈fm p set k,x<L.length:=λx aE=>by
   obtain⟨t,_,ai⟩:=sB.1 aE;rw[V];exact(f.toMay.dD ai).1
  have am:∀a∈fm p set k,∀c∈fm p set k,bR p a c:=λa n c aA=>by
   obtain⟨s,ah,ai⟩:=sB.1 n;obtain⟨t,ax,aM⟩:=sB.1 aA;exact .field (G s ah t ax) ai aM
  refine bN ?_;refine cK (Sz (ok:=λq=>H.next<=q) ad ad (h.aB S) ad o (ap.kJ fx)) ?_;rintro _ d ⟨T,rfl,ai,M,aq,U⟩;refine⟨M.1,?_⟩;have i:=(S.mut (· =zD)).trans M;have R:=l.Su al am;have K:=II h.g o;have rel:=Sx h.g o;have y:aH (bu (bu aN)) d ok (p.fields.map (·.map aQ)) fv:=aC.keep (.mut i ad);have E:aH aN d FF (aQ set) sv:=r.keep (.mut i ad);have u:d.get zX=A (.row I 2 [[nv,fv]]):=i.get g v;have w:∀{L':List Nat},iP (qc L (fm p set k)) L'->(∀cO,k+1<=cO->cO<8->∀a∈fm p set cO,∀c∈fm p set cO,ed L' a c)->∀cO,k<=cO->cO<8->∀a∈fm p set cO,∀c∈fm p set cO,ed L' a c:=λan aw cO ah ai a n c aA=>by
   by_cases e:cO=k
   ·subst e;exact an.le _ _ (rel a n c aA)
   grind
  cases T with
  |true=>
   refine bP @G4.eq_1 ?_;refine on _ J d ad ad ai R y E u ?_;intro L' b' H' f1 f2 f3 f4 f5 f6 f7;have aL:=aq rfl;have hle:=f3.qY;exact fin L' b' H' f1 f2 (K.trans f3) ad al (w f3 f6) (i.trans f7)
  |false=>
   refine bP @G4.eq_1 ?_;refine on _ b d ad ad ai R y E u ?_;intro L' b' H' f1 f2 f3 f4 f5 f6 f7;have aL:=U rfl;exact fin L' b' H' f1 f2 (K.trans f3) al al (w f3 f6) (i.trans f7)
theorem LP(f:fJ m p)(w:∀k,ok k->k≠zD)(x:∀k,okv k->k≠zD)(i:zX≠zD)(v:nv.one=J){L0:List Nat}(d:dN m p L0){xv:af}{N:Nat}(t:8<N):
  ∀(j k q:Nat) (L:List Nat) (b:Bool) (H:ae),k+j=(cX L0).length->j<q->fi zD L H->dN m p L->aH (bu (bu aN)) H ok (p.fields.map (·.map aQ)) fv->aH (bu aN) H okv ((cX L0).map aQ) xv->H.get zX=A (.row I 2 [[nv,fv]])->
  W (wh (aK P aG) N q (.ptr (zD+1) 0 0) (.ptr zX 0 0) (C b) xv (D F (cX L0).length) (D F k) H) λr H'=>∃L' b',r= C b'/\fi zD L' H'/\dN m p L'/\iP L L'/\(b'=J->b=J\/hA L'<hA L)/\(b'=I->b=I/\L'=L)/\(∀set∈(cX L0).drop k,∀cO,cO<8->∀a∈fm p set cO,∀c∈fm p set cO,ed L' a c)/\fK (· =zD) H H'
 |_,_,0,_,_,_,_,hm,_,_,_,_,_=>ad
 |0,k,q+1,L,b,H,E,_,h,n,aC,l,g=>by
  have ak:¬(k:Int)<((cX L0).length:Int):=ad;refine b3 @wh.eq_2 @Bm.eq_1 @tm.eq_1 ?_;exact aD.2 ⟨L,b,rfl,h,n,.refl h.g,λe=> .inl e,λe=>⟨e,rfl⟩,al,.refl _ _⟩
 |j+1,k,q+1,L,b,H,E,hm,h,n,aC,l,g=>by
  have u:k<(cX L0).length:=ad;have an:(cX L0).length<=m:=by
   have:=sW (L:=L0) L0.length;rw[d.len]at this;simpa [cX,d.len]using this
  have am:=f.hm;have on:=LP f w x i v d (xv:=xv) t j (k+1) q;obtain⟨ah,ai,ax,t0,aM⟩:=RB d (List.getElem_mem u);obtain⟨aq,aE,i1,i2,i3⟩:=l.list (j:=(k:Int)) (a:=aQ (cX L0)[k]) ad al;rw[List.drop_eq_getElem_cons u];generalize (cX L0)[k]=set at*;have G:=ah t0 (List.mem_of_getElem? aM);obtain⟨ar,K,M⟩:=i3.int (j:=0) (a:=((t0:Nat):Int)) ad (by simp[aQ,aM]);obtain⟨fs,Y,aa,B⟩:=f.Ex G (show 0<8 by omega);obtain⟨av,V,bV,b9,O⟩:=aC.uU (j:=(t0:Int)) (a:=fs.map aQ) ad al;have Q:∀H0,bE P H0 .len [31] [V]=A (D F 8):=λH0=>by rw[O.len dP,List.length_map,B];rfl
  refine bh @wh.eq_2 @Bm.eq_1 i1 i2 K (ag M (ag (fw g) (ag bV (ag b9 Q)))) ?_;refine Lx f w x i v ah ai ax 8 0 N L b H ad t h n aC i3 g ?_;intro L1 z H1 f1 f2 f3 f4 f5 f6 f7;refine bP @ra.eq_1 ?_;refine(on L1 z H1 ad ad f1 f2 (aC.keep (.mut f7 ad)) (l.keep (.mut f7 ad)) (f7.get g i)).mono ?_;rintro r H' ⟨L',b',R,S,T,o,aw,ay,aB,U⟩;have cL:=f3.qY;have ap:=o.qY;refine⟨L',b',R,S,T,f3.trans o,λe=> ?_,λe=> ?_,λs y cO aj a ab c aA=> ?_,f7.trans U⟩
  ·grind
  ·grind
  ·rcases List.mem_cons.1 y with rfl|y
   ·exact o.le _ _ al
   grind
def Yc(d:fJ m p)(o:∀k,ok k->k≠zD){L:List Nat}{H:ae}(h:fi zD L H)(i:dN m p L)(n:nv.one=J)(aC:aH (bu (bu aN)) H ok (p.fields.map (·.map aQ)) fv):
  W (aK P aG 188 [.ptr (zD+1) 0 0,.agg [nv,fv]] H) λr H'=>∃L' b,r= C b/\fi zD L' H'/\dN m p L'/\iP L L'/\(b=J->hA L'<hA L)/\(b=I->L'=L/\j7 p L)/\fK (· =zD) H H':=by
 refine aet (m+9) ?_;have v:=au.push H (.row I 2 [[nv,fv]]);have x:=ae.a2 H (.row I 2 [[nv,fv]]);have S:=d.hm;have R:=i.len;have Q:=h.lt;refine bG @G3.eq_1 (λz0=>yU z0 n aC.one) ?_;refine cK (RL (h.aB v) ad) ?_;rintro xv H1 ⟨ah,s1,f⟩;refine⟨f.1,?_⟩;have U:(cX L).length<=m:=by
  have:=sW (L:=L) L.length;simp only[cX,List.length_map];omega
 have z:∀H0,bE P H0 .len [31] [xv]=A (D F (cX L).length):=λH0=>by rw[s1.len dP,List.length_map]
 refine bP z ?_;have q:=(v.mut (· =zD)).trans f;refine(LP d o (okv:=λk=>(H.push (.row I 2 [[nv,fv]])).next<=k) (λk c e=>by simp at c;omega) (zX:=H.next) ad n i ad (cX L).length 0 _ L I H1 ad ad ah i (aC.keep (.mut q λk c e=>o k c e)) s1 (f.get x ad)).mono ?_;rintro r H' ⟨L',b',B,E,G,K,M,w,N,O⟩;refine⟨L',b',B,E,G,K,λe=>(M e).resolve_left bZ,λe=>⟨(w e).2,⟨λs t k a b y j l=> ?_⟩⟩,q.trans O⟩;obtain⟨-,T,c⟩:=d.toMay.dD j;obtain⟨-,ba,-⟩:=d.toMay.dD l;rw[<-(w e).2];refine N (c7 L.length λu=>aR L u=aR L s) (by rw[List.drop_zero];exact agz h.g (show s<L.length by omega)) k c a (sB.2 ⟨s,g_.2 ⟨ad,rfl⟩,j⟩) b (sB.2 ⟨t,g_.2 ⟨ad,y.symm⟩,l⟩)
end
end
section
open Go.a_
set_option maxRecDepth 2000
section
variable {zD m:Nat}{p:c8}{ok:Nat->Prop}{nv fv:af}{zX R:Nat}
theorem N9(c:fJ m p)(u:∀k,ok k->k≠zD){x2:af}{Q:af->ae->Prop}{N:Nat}:
  ∀(j k q:Nat) (L:List Nat) (H:ae),k+j=p.nodes.length->j<q->fi zD L H->dN m p L->aH (bu aN) H ok (p.nodes.map aQ) nv->(∀l∈p.nodes.take k,∀a∈l,∀b∈l,ed L a b)->
  (∀(L':List Nat) (H':ae),fi zD L' H'->dN m p L'->hZ p L'->fK (· =zD) H H'->W (AP (aK P aG) N (.ptr zX 0 0) x2 (.ptr (zD+1) 0 0) H') Q)->
  W (vE (aK P aG) N q (.ptr zX 0 0) x2 (.ptr (zD+1) 0 0) nv (D F p.nodes.length) (D F k) H) Q
 |_,_,0,_,_,_,hm,_,_,_,_,_=>ad
 |0,k,q+1,L,H,y,_,h,n,aC,f,fin=>by
  have M:¬(k:Int)<(p.nodes.length:Int):=ad;refine bG @vE.eq_2 @AL.eq_1 ?_;rw[List.take_of_length_le ad]at f;exact fin L H h n ⟨f⟩ (.refl _ _)
 |j+1,k,q+1,L,H,y,hm,h,n,aC,f,fin=>by
  have t:k<p.nodes.length:=ad;have O:=c.hm;have R:=c.nn;have w:=n.len;have on:=N9 c u (x2:=x2) (Q:=Q) (N:=N) j (k+1) q;have r:=List.getElem_mem t;obtain⟨T,U,i1,i2,i3⟩:=aC.list (j:=(k:Int)) (a:=aQ p.nodes[k]) ad al;rw[List.take_add_one,List.getElem?_eq_getElem t]at on;generalize p.nodes[k]=l at*;have o:∀x∈l,x<L.length:=λx aE=>by rw[w];exact c.nodes l r x aE
  refine cv @vE.eq_2 @AL.eq_1 i1 i2 ?_;refine cK (Sz u (by have:=c.nl l r;omega) h ad o i3) ?_;rintro _ v ⟨G,rfl,ai,s,S,K⟩;refine⟨s.1,?_⟩;have E:=n.Su al λa d b e=> .node r d e
  have z:=II h.g o;refine bN ?_;refine on _ v ad ad ai E (aC.keep (.mut s ad)) (λB i a d b e=> ?_) λL' H' f1 f2 f3 f4=>fin L' H' f1 f2 f3 (s.trans f4)
  simp only[Option.toList,List.mem_append,List.mem_singleton]at i;rcases i with i|rfl
  ·exact z.le _ _ (f B i a d b e)
  ·exact Sx h.g o a d b e
theorem NV(f:fJ m p)(e:∀k,ok k->k≠zD)(c:zX≠zD)(d:nv.one=J){x2:af}{Q:af->ae->Prop}{N:Nat}:
  ∀(q:Nat) (L:List Nat) (H:ae),hA L<q->fi zD L H->dN m p L->hZ p L->aH (bu (bu aN)) H ok (p.fields.map (·.map aQ)) fv->H.get zX=A (.row I 2 [[nv,fv]])->
  (∀(L':List Nat) (H':ae),fi zD L' H'->dN m p L'->hZ p L'->j7 p L'->fK (· =zD) H H'->W (AQ (aK P aG) N (.ptr zX 0 0) x2 (.ptr (zD+1) 0 0) H') Q)->
  W (AT (aK P aG) N q (.ptr zX 0 0) x2 (.ptr (zD+1) 0 0) H) Q
 |0,_,_,hm,_,_,_,_,_,_=>ad
 |q+1,L,H,hm,h,l,aL,aC,g,fin=>by
  refine b3 @AT.eq_2 @Gr.eq_1 (mE g) ?_;refine cK (Yc f e h l d aC) ?_;rintro _ H1 ⟨L1,b,rfl,ah,n,j,cL,i,a⟩;refine⟨a.1,?_⟩;cases b with
  |true=>
   have:=cL rfl;refine bN ?_;exact NV f e c d (x2:=x2) (Q:=Q) (N:=N) q L1 H1 ad ah n (aL.zn j) (aC.keep (.mut a ad)) (a.get g c) λL' H' f1 f2 f3 f4 f5=>fin L' H' f1 f2 f3 f4 (a.trans f5)
  |false=>
   obtain⟨rfl,aA⟩:=i rfl;refine bN ?_;grind
def a7(n:Nat)(a b c:af):List af:=[D F (n:Nat),a,b,c]
def fQ{H:ae}{zC n:Nat}{a b c:af}(g:H.get zC=A (.row I 4 [a7 n a b c])):aI P H 3 (.ptr zC 0 0)=A (D F (n:Nat))/\aI P H 30 (.ptr zC 0 1)=A a/\aI P H 30 (.ptr zC 0 2)=A b/\aI P H 31 (.ptr zC 0 3)=A c:=by
 refine⟨?_,?_,?_,?_⟩<;>(rw[e0 aF g rfl];rfl)
def iE{H:ae}{zC n:Nat}{a b c:af}(g:H.get zC=A (.row I 4 [a7 n a b c])):aI P H 33 (.ptr zC 0 0)=A (.agg (a7 n a b c)):=hz (n:=4) (i:=0) (c:=0) aF aF g rfl bZ
theorem R3{H:ae}{zC n:Nat}{a b c v:af}(g:H.get zC=A (.row I 4 [a7 n a b c]))(e:v.one=J):cr P H 30 (.ptr zC 0 2) v=A (H.set zC (.row I 4 [a7 n a v c])):=by
 have d:=dq e;rw[e4 (n:=1) aF g rfl al al bZ,d];rfl
theorem R4{H:ae}{zC n:Nat}{a b c v:af}(g:H.get zC=A (.row I 4 [a7 n a b c]))(e:v.one=J):cr P H 31 (.ptr zC 0 3) v=A (H.set zC (.row I 4 [a7 n a b v])):=by
 have d:=dq e;rw[e4 (n:=1) aF g rfl al al bZ,d];rfl
def i_{H:ae}{zC:Nat}{n:Nat}{a b c:af}{r:List af}(g:H.get zC=A (.row I 4 [r]))(ar:r.length=4)(d:a.one=J)(f:b.one=J)(aA:c.one=J):cr P H 33 (.ptr zC 0 0) (.agg (a7 n a b c))=A (H.set zC (.row I 4 [a7 n a b c])):=by
 rw[e4 (n:=4) aF g (e:=r) rfl (by simp[af.cells,a7]) (by simp[af.cells,a7,d,f,aA];rfl) bZ]
 match r,ar with
 |[_,_,_,_],_=>simp[af.cells,a7,fU]
theorem OD{zF zC i:Nat}{set:List Nat}{ok':Nat->Prop}(p:∀k,ok' k->k<zF)(l:zF<zC)(h:∀s∈set,s<m)(hm:m<=60)(u:set.length<=60){x1 x2 x7 x50 x51 x52 nn ff sv:af}{cnt:Nat}{L10:af->af->af->af->af->af->af->ae->O}{Q:af->ae->Prop}{N:Nat}:
  ∀(j k q:Nat) (U:List Nat) (H:ae),k+j=set.length->j<q->U.length=m->H.get zF=A (.row I 1 (et U))->H.get zC=A (.row I 4 [a7 cnt (.az zF 0 m 1 (A m)) nn ff])->aH aN H ok' (aQ set) sv->
  (∀(c:List Nat) (H':ae),c.length=m->(∀s,aR c s=if s∈set.drop k then i else aR U s)->H'.get zF=A (.row I 1 (et c))->(∀q,q≠zF->H'.get q=H.get q)->H'.next=H.next->W (vA (aK P aG) N L10 x1 x2 x7 (.ptr zC 0 0) x50 x51 x52 H') Q)->
  W (vD (aK P aG) N L10 q x1 x2 x7 (.ptr zC 0 0) (D F i) x50 x51 x52 sv (D F set.length) (D F k) H) Q
 |_,_,0,_,_,_,aJ,_,_,_,_,_=>ad
 |0,k,q+1,U,H,o,_,n,d,b4,f,fin=>by
  have w:¬(k:Int)<(set.length:Int):=ad;refine bG @vD.eq_2 @AK.eq_1 ?_;grind
 |j+1,k,q+1,U,H,o,aJ,n,d,b4,f,fin=>by
  have e:k<set.length:=ad;have on:=OD (i:=i) p l h hm u (x1:=x1) (x2:=x2) (x7:=x7) (x50:=x50) (x51:=x51) (x52:=x52) (nn:=nn) (ff:=ff) (sv:=sv) (cnt:=cnt) (L10:=L10) (Q:=Q) (N:=N) j (k+1) q;have r:=h _ (List.getElem_mem e);obtain⟨x,i1,i2⟩:=f.int (j:=(k:Int)) (a:=((set[k]:Nat):Int)) ad (by simp[aQ,e]);rw[List.drop_eq_getElem_cons e]at fin;generalize set[k]=s at*;have st:=Da d (show s<U.length by omega) i;have v:=ae.bq d;refine bh @vD.eq_2 @AK.eq_1 i1 i2 (fQ b4) (ag (h5 b0 r) st) ?_;refine on (U.set s i) _ ad ad al (ae.cH v) (by grind[ae.b8]) (f.keep λq b aJ g=>(by grind[ae.b8])) λc H' f1 f2 f3 f4 f5=>fin c H' f1 (λt=> ?_) f3 (by grind[ae.b8]) (by rw[f5];simp)
  grind[uT]
end
end
section
open Go.a_
set_option maxRecDepth 2000
section
variable {m:Nat}{p:c8}
theorem agy{L:List Nat}{i:Nat}{set:List Nat}(h:(cX L)[i]? =A set):∃r,(fS L L.length)[i]? =A r/\set=c7 L.length λs=>aR L s=r:=by
 grind[cX]
def ZX{L:List Nat}(g:a_.Good L){i r:Nat}(h:(fS L L.length)[i]? =A r):gO L r=i:=by
 have ar:=uY.1 (List.mem_of_getElem? h);exact O2 (Aj g ar.2 ar.1) h
theorem OE{zF zC:Nat}{L:List Nat}{ok':Nat->Prop}(t:∀k,ok' k->k<zF)(p:zF<zC)(u:L.length=m)(hm:m<=60)(g:a_.Good L){x1 x2 nn ff sv:af}{cnt:Nat}{Q:af->ae->Prop}{N:Nat}(v:61<N):
  ∀(j k q:Nat) (U:List Nat) (H:ae),k+j=(cX L).length->j<q->U.length=m->(∀s,s<m->gO L (aR L s)<k->aR U s=gO L (aR L s))->H.get zF=A (.row I 1 (et U))->H.get zC=A (.row I 4 [a7 cnt (.az zF 0 m 1 (A m)) nn ff])->aH (bu aN) H ok' ((cX L).map aQ) sv->
  (∀(d:List Nat) (H':ae),d.length=m->(∀s,s<m->aR d s=gO L (aR L s))->H'.get zF=A (.row I 1 (et d))->(∀q,q≠zF->H'.get q=H.get q)->H'.next=H.next->W (s9 (aK P aG) N x1 x2 sv (.ptr zC 0 0) H') Q)->
  W (vC (aK P aG) N q x1 x2 sv (.ptr zC 0 0) sv (D F (cX L).length) (D F k) H) Q
 |_,_,0,_,_,_,aJ,_,_,_,_,_,_=>ad
 |0,k,q+1,U,H,x,_,h,l,f,b4,n,fin=>by
  have M:¬(k:Int)<((cX L).length:Int):=ad;refine bG @vC.eq_2 @AJ.eq_1 ?_;refine fin U H h (λs c=>l s c ?_) f (λ_ _=>rfl) rfl;have:=(List.getElem?_eq_some_iff.1 (Aj (m:=L.length) g (g.id s) (by have:=g.le s;omega))).1;grind[cX]
 |j+1,k,q+1,U,H,x,aJ,h,l,f,b4,n,fin=>by
  have y:k<(cX L).length:=ad;have on:=OE t p u hm g (x1:=x1) (x2:=x2) (nn:=nn) (ff:=ff) (sv:=sv) (cnt:=cnt) (Q:=Q) v j (k+1) q;obtain⟨S,w,i1,i2,i3⟩:=n.list (j:=(k:Int)) (a:=aQ (cX L)[k]) ad al;obtain⟨r,ar,e⟩:=agy (List.getElem?_eq_getElem y);have K:=ZX g ar;have R:(cX L).length<=m:=by
   grind[sW,cX]
  generalize (cX L)[k]=set at*;have O:set.length<=m:=by grind[ns]
  have z:∀s∈set,s<m/\aR L s=r:=λs c=>by grind[g_]
  have lw:∀H0,bE P H0 .len [30] [w]=A (D F set.length):=λH0=>by rw[i3.len b0];simp[aQ]
  refine c_ @vC.eq_2 @AJ.eq_1 i1 i2 lw ?_;refine OD (i:=k) (set:=set) t p (λs c=>(z s c).1) hm ad set.length 0 N U H ad ad h f b4 i3 ?_;intro eJ H1 f1 f2 f3 f4 f5;refine bP @vA.eq_1 ?_;refine on eJ H1 ad ad f1 (λs c aP=> ?_) f3 al (n.keep λq b aJ g=>⟨aJ,al⟩) λd H' B E z3 z4 z5=>fin d H' B E z3 (λq aJ=>(z4 q aJ).trans (f4 q aJ)) (z5.trans f5)
  rw[f2 s,List.drop_zero];by_cases o:s∈set
  ·grind
  ·rw[if_neg o];refine l s c ?_;have:gO L (aR L s)≠k:=λG=>o (by
    have ah:=Aj (m:=L.length) g (g.id s) (by have:=g.le s;omega);grind[g_])
   omega
theorem Oh{zF zC:Nat}{U:List Nat}{ok:Nat->Prop}(n:fJ m p)(R:∀k,ok k->k<zC)(r:zF<zC)(h:U.length=m){x1 x2 x7 nv:af}{cnt:Nat}{Q:af->ae->Prop}{N:Nat}:
  ∀(j k q:Nat) (done:List Int) (dv:af) (H:ae),k+j=p.nodes.length->j<q->done=(p.nodes.take k).map (g7 U)->aY aN (zC+1) bb H done dv->H.get zF=A (.row I 1 (et U))->H.get zC=A (.row I 4 [a7 cnt (.az zF 0 m 1 (A m)) dv .ao])->aH (bu aN) H ok (p.nodes.map aQ) nv->
  (∀(c:af) (H':ae),aY aN (zC+1) bb H' (p.nodes.map (g7 U)) c->H'.get zC=A (.row I 4 [a7 cnt (.az zF 0 m 1 (A m)) c .ao])->(∀q,q<zC->H'.get q=H.get q)->H.next<=H'.next->W (AR (aK P aG) N x1 x2 x7 (.ptr zC 0 0) H') Q)->
  W (vH (aK P aG) N q x1 x2 x7 (.ptr zC 0 0) nv (D F p.nodes.length) (D F k) H) Q
 |_,_,0,_,_,_,_,aJ,_,_,_,_,_,_=>ad
 |0,k,q+1,done,dv,H,G,_,B,aw,f,b4,i,fin=>by
  have ah:¬(k:Int)<(p.nodes.length:Int):=ad;refine bG @vH.eq_2 @AO.eq_1 ?_;grind
 |j+1,k,q+1,done,dv,H,G,aJ,B,aw,f,b4,i,fin=>by
  have K:k<p.nodes.length:=ad;have ai:=n.nn;have on:=Oh n R r h (x1:=x1) (x2:=x2) (x7:=x7) (nv:=nv) (cnt:=cnt) (Q:=Q) (N:=N) j (k+1) q;obtain⟨u,w,i1,i2,i3⟩:=i.list (j:=(k:Int)) (a:=aQ p.nodes[k]) ad al;have M:=List.getElem_mem K;have E:done++[g7 U p.nodes[k]]=(p.nodes.take (k+1)).map (g7 U):=by
   grind[List.take_add_one]
  have aa:done.length<=1000000:=al;generalize p.nodes[k]=l at*;have O:aH aN H bb (aQ U) (.az zF 0 m 1 (A m)):= .inr (.inl ⟨zF,0,A m,I,_,by simp[aQ,h,aN],trivial,f,by simp[aQ,et],λj x ab=>⟨[D F x],by
   grind[aQ,et],rfl⟩⟩)
  have iB:=ae.bq b4;refine c_ @vH.eq_2 @AO.eq_1 i1 i2 (fQ b4) ?_;refine dK (Kz O i3 λa z=>by rw[h];exact n.nodes l M a z) ?_;obtain⟨o,H1,v,d,a3,a4,a5⟩:=aw.jU (a:=g7 U l) ad ad;have u:=au.push H (.row I 1 [[D F (g7 U l)]]);have y:=(a3.2 zC ad).trans b4;have Y:(H.push (.row I 1 [[D F (g7 U l)]])).next<=H1.next:=by grind[ae.fR]
  have rd:af.beq dv dv=true:=aw.az.rd;have S:bF (A dv) dv=true:=by simp[bF,rd]
  have st:=R3 y d.az.one;refine bh (fQ b4) (fQ (u.get b4)) @c2 v st S ?_;have t:∀q,q≠zC->(H1.set zC (.row I 4 [a7 cnt (.az zF 0 m 1 (A m)) o .ao])).get q=H1.get q:=λq aJ=>ae.b8 (Ne.symm aJ)
  have s:∀q,q<zC->(H1.set zC (.row I 4 [a7 cnt (.az zF 0 m 1 (A m)) o .ao])).get q=H.get q:=λq aJ=>(t q ad).trans (a3.2 q ad)
  refine on _ o _ ad ad E (d.frame fx λL e=>t L (by have:=(d.jn e).1;omega)) ((s zF r).trans f) (ae.cH ad) (i.keep λq b aJ g=>⟨aJ,al⟩) λc H' T V z3 z4=>fin c H' T V (λq aJ=>(z3 q aJ).trans (s q aJ)) (by simp at z4;omega)
end
end
section
open Go.a_
set_option maxRecDepth 2000
section
variable {m:Nat}{p:c8}
theorem Is{H:ae}{U:List Nat}{zF:Nat}(c:U.length=m)(a:H.get zF=A (.row I 1 (et U)))(ok:Nat->Prop)(b:ok zF):aH aN H ok (aQ U) (.az zF 0 m 1 (A m)):= .inr (.inl ⟨zF,0,A m,I,_,by simp[aQ,c,aN],b,a,by simp[aQ,et],λj x d=>⟨[D F x],by
 grind[aQ,et],rfl⟩⟩)
theorem Lw{zF zC B cnt zX:Nat}{U set:List Nat}(f:fJ m p)(y:zF<B)(w:zC<B)(z:zX<B)(o:U.length=m)(G:∀t∈set,t<m)(ab:set.length<=m){nv fv sv nn ff x2 x87 x88 x89:af}(E:nv.one=J){L5:af->af->af->af->af->af->ae->O}{Q:af->ae->Prop}{N:Nat}:
  ∀(j k q:Nat) (l:List Int) (lv:af) (H:ae),k+j=8->j<q->B<=H.next->l=(List.range k).map (λcO=>g7 U (fm p set cO))->aY aN B bb H l lv->aH (bu (bu aN)) H (· <B) (p.fields.map (·.map aQ)) fv->aH aN H (· <B) (aQ set) sv->H.get zX=A (.row I 2 [[nv,fv]])->H.get zF=A (.row I 1 (et U))->H.get zC=A (.row I 4 [a7 cnt (.az zF 0 m 1 (A m)) nn ff])->
  (∀(g:af) (H':ae),aY aN B bb H' ((List.range 8).map λcO=>g7 U (fm p set cO)) g->cl B H H'->W (AS (aK P aG) N L5 (.ptr zX 0 0) x2 (.ptr zC 0 0) g x87 x88 x89 H') Q)->
  W (vG (aK P aG) N L5 q (.ptr zX 0 0) x2 (.ptr zC 0 0) sv lv x87 x88 x89 (D F 8) (D F k) H) Q
 |_,_,0,_,_,_,_,aJ,_,_,_,_,_,_,_,_,_=>ad
 |0,k,q+1,l,lv,H,V,_,v,d,aw,aC,r,aO,h,b4,fin=>by
  have ap:¬(k:Int)<8:=ad;refine bG @vG.eq_2 @AN.eq_1 ?_;obtain rfl:k=8:=ad;subst d;exact fin lv H aw (.refl _ _)
 |j+1,k,q+1,l,lv,H,V,aJ,v,d,aw,aC,r,aO,h,b4,fin=>by
  have Y:k<8:=ad;have ar:=f.hm;have on:=Lw f y w z o G ab (nv:=nv) (fv:=fv) (sv:=sv) (nn:=nn) (ff:=ff) (x2:=x2) (x87:=x87) (x88:=x88) (x89:=x89) (cnt:=cnt) E (L5:=L5) (Q:=Q) (N:=N) j (k+1) q;have S:l++[g7 U (fm p set k)]=(List.range (k+1)).map (λcO=>g7 U (fm p set cO)):=by rw[d,List.range_succ,List.map_append];rfl
  have aq:l.length<=100:=by rw[d];simp;omega
  refine b3 @vG.eq_2 @AN.eq_1 (mE aO) ?_;refine e2 (LZ f G ad Y E aC r) λgv H1 ah b=> ?_
  have T:∀x∈fm p set k,x<U.length:=λx aE=>by
   obtain⟨t,_,ai⟩:=sB.1 aE;rw[o];exact(f.toMay.dD ai).1
  have u:=b.get b4;have M:=b.get h;refine bP (fQ u) ?_;refine dK (Kz (Is o M bb trivial) ah.az T) ?_;generalize g7 U (fm p set k)=c at*;have aa:=aw.aB b;have R:B<=H1.next:=by have:=b.1;omega
  obtain⟨ak,s,K,L,a3,a4,a5⟩:=aa.jU (a:=c) R ad;have pp:=au.push H1 (.row I 1 [[D F c]]);have an:(H1.push (.row I 1 [[D F c]])).next<=s.next:=by rw[ae.fR];exact a4
  have aj:∀l i n e q,bF (A (.az l i n e q)) (.az l i n e q)=true:=λl i n e q=>by simp[bF,af.beq]
  have pu:=(ek b v).trans a3;refine c_ @c2 K (fQ b4) (fQ u) aj ?_;exact on _ ak s ad ad (by have:=a3.1;omega) S L (aC.e3 pu) (r.e3 pu) ((pu.2 zX z).trans aO) ((pu.2 zF y).trans h) ((pu.2 zC w).trans b4) λg H' al am=>fin g H' al (pu.trans am)
theorem rH(l:Nat){v:af}(a:v.one=J):gB P l 31 1 [(0,v)]=A (.az l 0 1 1 (A 1),.row I 1 [[v]]):=(by grind[mW,dP,dq])
theorem LO{zF zC E cnt zX:Nat}{U L:List Nat}(e:fJ m p)(O:zF<zC)(r:zC<E)(R:zX<zF)(t:U.length=m)(i:dN m p L){nv fv sv nn x2:af}(u:nv.one=J){Q:af->ae->Prop}{N:Nat}(s:8<N):
  ∀(j k q:Nat) (done:List (List Int)) (dv:af) (H:ae),k+j=(cX L).length->j<q->E<=H.next->done=((cX L).take k).map (λset=>(List.range 8).map λcO=>g7 U (fm p set cO))->aY (bu aN) E (E<= ·) H done dv->aH (bu (bu aN)) H (· <zF) (p.fields.map (·.map aQ)) fv->aH (bu aN) H (· <zF) ((cX L).map aQ) sv->H.get zX=A (.row I 2 [[nv,fv]])->H.get zF=A (.row I 1 (et U))->H.get zC=A (.row I 4 [a7 cnt (.az zF 0 m 1 (A m)) nn dv])->
  (∀(d:af) (H':ae),aY (bu aN) E (E<= ·) H' ((cX L).map λset=>(List.range 8).map λcO=>g7 U (fm p set cO)) d->H'.get zC=A (.row I 4 [a7 cnt (.az zF 0 m 1 (A m)) nn d])->(∀q,q<E->q≠zC->H'.get q=H.get q)->H.next<=H'.next->W (q6 (aK P aG) N x2 (.ptr zC 0 0) H') Q)->
  W (vF (aK P aG) N q (.ptr zX 0 0) x2 (.ptr zC 0 0) sv (D F (cX L).length) (D F k) H) Q
 |_,_,0,_,_,_,_,aJ,_,_,_,_,_,_,_,_,_=>ad
 |0,k,q+1,done,dv,H,V,_,o,S,aw,aC,h,aO,n,b4,fin=>by
  have aI:¬(k:Int)<((cX L).length:Int):=ad;refine bG @vF.eq_2 @AM.eq_1 ?_;grind
 |j+1,k,q+1,done,dv,H,V,aJ,o,S,aw,aC,h,aO,n,b4,fin=>by
  have Y:k<(cX L).length:=ad;have aP:=e.hm;have aR:(cX L).length<=m:=by
   have:=sW (L:=L) L.length;have:=i.len;grind[cX]
  have on:=LO e O r R t i (nv:=nv) (fv:=fv) (sv:=sv) (nn:=nn) (x2:=x2) (cnt:=cnt) u (Q:=Q) s j (k+1) q;have T:done++[(List.range 8).map λcO=>g7 U (fm p (cX L)[k] cO)]=((cX L).take (k+1)).map (λset=>(List.range 8).map λcO=>g7 U (fm p set cO)):=by
   grind[List.take_add_one]
  have aF:done.length<=100:=al;obtain⟨ah,ai,ax,t0,aM⟩:=RB i (List.getElem_mem Y);obtain⟨aT,aX,i1,i2,i3⟩:=h.list (j:=(k:Int)) (a:=aQ (cX L)[k]) ad al;generalize (cX L)[k]=set at*;have aj:=ah t0 (List.mem_of_getElem? aM);obtain⟨aU,ak,am⟩:=i3.int (j:=0) (a:=((t0:Nat):Int)) ad (by simp[aQ,aM]);obtain⟨fs,aD,aE,z⟩:=e.Ex aj (show 0<8 by omega);obtain⟨aV,aq,bV,b9,an⟩:=aC.uU (j:=(t0:Int)) (a:=fs.map aQ) ad al;have ap:∀H0,bE P H0 .len [31] [aq]=A (D F 8):=λH0=>by rw[an.len dP,List.length_map,z];rfl
  have iB:=ae.bq b4;refine bh @vF.eq_2 @AM.eq_1 i1 i2 ak (ag am (ag (fw aO) (ag bV (ag b9 ap)))) ?_;refine Lw e (B:=H.next) ad iB ad t ah ai u 8 0 N [] .ao H ad s ad rfl (aY.nil aN _ _ _) (aC.keep (.le ad)) (i3.keep (.le ad)) aO n b4 ?_;intro lv H1 w aA;have v:au H H1:=aA;have G:=v.get b4;obtain⟨f,c,x,l,a3,a4,a5⟩:=aY.sc (K:=bu aN) (ok:=(E<= ·)) (ok':=(E<= ·)) dP aw o v (a:=(List.range 8).map λcO=>g7 U (fm p set cO)) (cs:=[lv]) ⟨lv,rfl,w.kJ fx⟩ ad ad;have aB:(H1.push (.row I 1 [[lv]])).next<=c.next:=by grind[ae.fR]
  have M:=(a3.2 zC r).trans b4;have st:=R4 M l.az.one;have y:eA P (H1.push (.row I 1 [[lv]])) [31,31] dv (.az H1.next 0 1 1 (A 1))=A (f,c):=x;refine bh @AS.eq_1 @vB.eq_1 (fQ G) (λz0=>rH z0 w.az.one) y st ?_;have ab:∀q,q≠zC->(c.set zC (.row I 4 [a7 cnt (.az zF 0 m 1 (A m)) nn f])).get q=c.get q:=(by grind[ae.b8]);have aL:∀q,q<E->q≠zC->(c.set zC (.row I 4 [a7 cnt (.az zF 0 m 1 (A m)) nn f])).get q=H.get q:=λq aJ aa=>(ab q aa).trans (a3.2 q aJ)
  have aS:H.next<=c.next:=a3.1
  refine on _ f _ ad ad (by simp;omega) T (l.keep λq b aJ g=>al) (aC.keep λq b aJ g=>al) (h.keep λq b aJ g=>al) al al (ae.cH ad) λd H' ar av aZ ay=>fin d H' ar av al (by simp at ay;omega)
end
end
section
open Go.a_
set_option maxRecDepth 2000
section
variable {m:Nat}{p:c8}{L U:List Nat}
theorem n3(a:dN m p L)(aL:hZ p L)(aA:j7 p L){s:Nat}(b:s<m):aR L s=eg (bR p) s:=by
 have e:=Yg a aL aA;rw[e];exact zH al
theorem Lv(a:dN m p L)(aL:hZ p L)(aA:j7 p L){r:Nat}(ar:r<=m):fS L r=dw (bR p) r:=
 z8 (by grind[n3])
theorem Ye(b:dN m p L)(aL:hZ p L)(aA:j7 p L){s:Nat}(a:s<m):gO L (aR L s)=db (bR p) s:=by
 have h:=(kd (bR.jO p).eqv s).2.1;grind[n3,gO,db,Lv]
theorem Yf(b:dN m p L)(aL:hZ p L)(aA:j7 p L)(a:U.length=m)(aw:∀s,s<m->aR U s=gO L (aR L s)):U=(List.range m).map (db (bR p)):=by
 apply List.ext_getElem?;grind[pf,Ye]
theorem Lu(b:U=(List.range m).map (db (bR p))){l:List Nat}(aw:∀a∈l,a<m):g7 U l=h4 (bR p) l:=by
 cases l with
 |nil=>rfl
 |cons a bs=>
  grind[g7,h4]
theorem Yd(a:dN m p L)(aL:hZ p L)(aA:j7 p L){r:Nat}(ar:r<m)(b:aR L r=r)(k:Nat):fm p (c7 L.length λs=>aR L s=r) k=ku p (bR p) m r k:=by
 unfold fm ku;have:(c7 L.length λs=>aR L s=r)=c7 m (bR p r):=by
  rw[a.len];refine z8 λs c=> ?_
  rw[n3 a aL aA c];rw[n3 a aL aA ar]at b;constructor
  ·intro e;exact(pe (bR.jO p).eqv).1 ad
  ·intro e;exact((pe (bR.jO p).eqv).2 e).symm.trans b
 grind
theorem abt(f:May m p)(b:dN m p L)(aL:hZ p L)(aA:j7 p L)(i:U.length=m)(aw:∀s,s<m->aR U s=gO L (aR L s)):merge p m=⟨(cX L).length,U,p.nodes.map (g7 U),(cX L).map λset=>(List.range 8).map λcO=>g7 U (fm p set cO)⟩:=by
 have e:=Yf b aL aA i aw;have c:fS L L.length=dw (bR p) m:=by rw[b.len];grind[Lv]
 unfold merge qW
 congr 1
 ·simp[cX,c]
 ·grind
 ·exact List.map_congr_left λl j=>(Lu e λa d=>f.nodes l j a d).symm
 ·rw[cX,c,List.map_map];refine List.map_congr_left λr ar=> ?_
  have g:r<m/\aR L r=r:=by rw[<-c]at ar;have:=uY.1 ar;rw[b.len]at this;omega
  show(List.range 8).map _=(List.range 8).map (λcO=>g7 U (fm p (c7 L.length λs=>aR L s=r) cO));refine List.map_congr_left λk _=> ?_
  show _=g7 U (fm p _ k);rw[Yd b aL aA g.1 g.2 k];exact(Lu e λa d=>by
   obtain⟨t,_,_,h⟩:=uX.1 d;exact(f.dD h).1).symm
end
def hI(v:af):Prop:=∀L i n e c,v= .az L i n e (A c)->n<=c
def aY.cap{α:Type}{K:eS α}{B:Nat}{ok:Nat->Prop}{H:ae}{l:List α}{v:af}(h:aY K B ok H l v):hI v:=by
 rcases h.eL with⟨rfl,_⟩|⟨L,els,cap,rfl,_,_,_,aA,_⟩
 ·intro L i n e c a;grind
 ·intro L' i n e c a;grind
def hX(H:ae)(ok:Nat->Prop)(k:a_.dg)(v:af):Prop:=∃ov nv fv,v= .agg (a7 k.count ov nv fv)/\aH aN H ok (aQ k.of) ov/\aH aN H ok k.nodes nv/\aH (bu aN) H ok k.fields fv/\hI nv
def abG{H:ae}{ok:Nat->Prop}{m:Nat}{p:c8}{nv fv:af}(f:fJ m p)(o:aH (bu aN) H ok (p.nodes.map aQ) nv)(K:aH (bu (bu aN)) H ok (p.fields.map (·.map aQ)) fv):
  W (aK P aG 132 [.agg [nv,fv]] H) λr H'=>∃ak,r= .tuple [ak,D F 0]/\hX H' (λL=>H.next<=L) (merge p m) ak/\au H H':=by
 have hm:=f.hm;have bK:=f.nn;refine adT (p.nodes.length+m+100) ?_;obtain⟨zX,j⟩:∃zX,zX=H.next:=⟨_,rfl⟩
 have bs:=au.push H (.row I 2 [[nv,fv]]);have a_:=ae.a2 H (.row I 2 [[nv,fv]]);have a3:(H.push (.row I 2 [[nv,fv]])).next=zX+1:=by rw[j];simp
 have a0:=au.push (H.push (.row I 2 [[nv,fv]])) (.row I 4 [a7 0 .ao .ao .ao]);have an:=ae.a2 (H.push (.row I 2 [[nv,fv]])) (.row I 4 [a7 0 .ao .ao .ao]);have Q:=a0.get a_;have bx:∀(k:af->ae->O),e5 (H.push (.row I 2 [[nv,fv]])) [D F 0,.ao,.ao,.ao] k=k (.ptr (zX+1) 0 0) ((H.push (.row I 2 [[nv,fv]])).push (.row I 4 [a7 0 .ao .ao .ao])):=λk=>by rw[iL,iN,a3];rfl
 rw[a3]at an;rw[<-j]at Q;simp only[Gq,yU _ o.one K.one,kM,bx,<-j];generalize bh:(H.push (.row I 2 [[nv,fv]])).push (.row I 4 [a7 0 .ao .ao .ao])=a6 at*;have bN:a6.next=zX+2:=by rw[<-bh];simp[j]
 have ab:=bs.trans a0;refine bP (mE Q) ?_;refine bw (abJ f (o.aB ab) (K.aB ab)) λa8 M=> ?_
 have ap:=M.get Q;have aL:∀H0,bE P H0 .len [152] [fv]=A (D F (m:Nat)):=λH0=>by rw[K.len nr,List.length_map,f.len]
 have aO:∀H0,bE P H0 .len [31] [nv]=A (D F (p.nodes.length:Nat)):=λH0=>by rw[o.len dP,List.length_map]
 refine bG (fw ap) aL ?_;refine cK (abW ad) ?_;rintro _ B ⟨rfl,f4,y⟩;refine⟨y.1,?_⟩;obtain⟨zD,bg⟩:∃zD,zD=a8.next:=⟨_,rfl⟩
 rw[<-bg]at f4 ⊢;have R:=y.get ap;have ah:=(ab.trans M).trans y;have bJ:zX+2<=zD:=by have:=M.1;omega
 have aE:aH (bu aN) B (· <zX) (p.nodes.map aQ) nv:=j▸o.below.aB ah;have aC:aH (bu (bu aN)) B (· <zX) (p.fields.map (·.map aQ)) fv:=j▸K.below.aB ah;refine bG (fw R) aO ?_;refine N9 f (ok:=(· <zX)) (λk d=>ad) p.nodes.length 0 _ _ B ad ad f4 (dN.start m p) aE (λl aw=>al) ?_;intro L5 aj f5 aV bp V;refine bP @AP.eq_1 ?_;have bj:aH (bu (bu aN)) aj (· <zX) (p.fields.map (·.map aQ)) fv:=aC.keep (.mut V λk d e=>ad);refine NV f (ok:=(· <zX)) (λk d=>ad) (zX:=zX) ad o.one _ L5 aj (by have:=Ox L5;have:=aV.len;omega) f5 aV bp bj (V.get R ad) ?_;intro L bC f6 t cB jO bn;refine bP @AQ.eq_1 ?_;refine cK (RL f6 (by have:=t.len;omega)) ?_
 rintro xv c ⟨f7,a4,aU⟩;refine⟨aU.1,?_⟩;have x:=(V.trans bn).trans aU;have aq:=x.get R ad;have bf:c.get (zX+1)=A (.row I 4 [a7 0 .ao .ao .ao]):=x.get (y.get (M.get an)) ad;have bM:(cX L).length<=m:=by
  have:=sW (L:=L) L.length;have:=t.len;grind[cX]
 have aT:∀H0,bE P H0 .len [31] [xv]=A (D F (cX L).length):=λH0=>by rw[a4.len dP,List.length_map]
 obtain⟨zF,G⟩:∃zF,zF=c.next:=⟨_,rfl⟩
 have bt:=au.push c (.row I 1 (et (List.replicate m 0)));have N:(c.push (.row I 1 (et (List.replicate m 0)))).next=zF+1:=by rw[G];simp
 have a1:=au.push (c.push (.row I 1 (et (List.replicate m 0)))) (.row I 4 [a7 (cX L).length (.az zF 0 m 1 (A m)) .ao .ao]);have a9:ei P 33 [(0,D F (cX L).length),(1,.az zF 0 m 1 (A m))]=A (.agg (a7 (cX L).length (.az zF 0 m 1 (A m)) .ao .ao)):=JW rfl rfl;have bz:∀(k:af->ae->O),e5 (c.push (.row I 1 (et (List.replicate m 0)))) [D F 0,.ao,.ao,.ao] k=k (.ptr (zF+1) 0 0) ((c.push (.row I 1 (et (List.replicate m 0)))).push (.row I 4 [a7 0 .ao .ao .ao])):=λk=>by rw[iL,iN,N];rfl
 have bv:cr P ((c.push (.row I 1 (et (List.replicate m 0)))).push (.row I 4 [a7 0 .ao .ao .ao])) 33 (.ptr (zF+1) 0 0) (.agg (a7 (cX L).length (.az zF 0 m 1 (A m)) .ao .ao))=A ((c.push (.row I 1 (et (List.replicate m 0)))).push (.row I 4 [a7 (cX L).length (.az zF 0 m 1 (A m)) .ao .ao])):=by
  have g:=ae.a2 (c.push (.row I 1 (et (List.replicate m 0)))) (.row I 4 [a7 0 .ao .ao .ao]);rw[N]at g;rw[i_ g rfl rfl rfl rfl,<-N,ae.lb]
 have ay:=a1.get (ae.a2 c (.row I 1 (et (List.replicate m 0))));have S:=ae.a2 (c.push (.row I 1 (et (List.replicate m 0)))) (.row I 4 [a7 (cX L).length (.az zF 0 m 1 (A m)) .ao .ao]);rw[N]at S;rw[<-G]at ay;have v:=bt.trans a1;have mk:=N2 zF m ad;simp only[aT,aL,eM,lZ,dz,fw aq,<-G,mk,kM,a9,bz,bv];rw[m1 aX];generalize bI:(c.push (.row I 1 (et (List.replicate m 0)))).push (.row I 4 [a7 (cX L).length (.az zF 0 m 1 (A m)) .ao .ao])=i at*;have n9:i.next=zF+2:=by grind[ae.fR]
 have bH:zD+1<zF:=by have:=f7.lt;omega
 have a5:aH (bu aN) i (· <zF) ((cX L).map aQ) xv:=G▸a4.below.aB v;have bl:aH (bu aN) i (· <zF) (p.nodes.map aQ) nv:=((aE.keep (.mut x λk d e=>ad)).aB v).keep (.le λk d=>ad);have bk:aH (bu (bu aN)) i (· <zF) (p.fields.map (·.map aQ)) fv:=((aC.keep (.mut x λk d e=>ad)).aB v).keep (.le λk d=>ad);have bb:=v.get aq;have bF:=v.get bf;refine OE (m:=m) (L:=L) (ok':=(· <zF)) (λk d=>d) (show zF<zF+1 by omega) t.len hm t.hM ad (cX L).length 0 _ (List.replicate m 0) i ad ad aX (λs bL aP=>ad) ay S a5 ?_;intro U ai T bi av Y n10;have bc:=(Y (zF+1) ad).trans S;have am:=(Y zX ad).trans bb;have aF:dm i (· <zF) ai (· <zF):=λq b aJ g=>⟨aJ,al⟩
 refine b3 @s9.eq_1 (fw am) aO ?_;refine Oh f (ok:=(· <zF)) (λk d=>ad) (show zF<zF+1 by omega) T p.nodes.length 0 _ [] .ao ai ad ad rfl (aY.nil aN _ _ _) av bc (bl.keep aF) ?_;intro u z aR ar aa n11;have aI:dm i (· <zF) z (· <zF):=aF.trans λq b aJ g=>⟨aJ,al⟩
 have ax:=(aa zF ad).trans av;have ba:=(aa zX ad).trans am;refine bG @AR.eq_1 aT ?_;have iB:=ae.bq ar;refine LO f (E:=z.next) (show zF<zF+1 by omega) iB ad T t o.one ad (cX L).length 0 _ [] .ao z ad ad (du _) rfl (aY.nil (bu aN) _ _ _) (bk.keep aI) (a5.keep aI) ba ax ar ?_;intro w h aM bd aZ n12;have aA:h.get (zX+1)=A (.row I 4 [a7 0 .ao .ao .ao]):=al;have aS:aH aN h (λk=>zF+2<=k) (p.nodes.map (g7 U)) u:=(aR.kJ fx).keep λq b aJ g=>⟨aJ,by grind[ae.bq]⟩
 have bD:=(aZ zF ad ad).trans ax;have bm:=ae.bq aA;have st:=i_ aA rfl (n:=(cX L).length) (a:= .az zF 0 m 1 (A m)) rfl aS.one aM.az.one;have be:(h.set (zX+1) (.row I 4 [a7 (cX L).length (.az zF 0 m 1 (A m)) u w])).get (zX+1)=A (.row I 4 [a7 (cX L).length (.az zF 0 m 1 (A m)) u w]):=ae.cH bm;have br:∀q,q≠zX+1->(h.set (zX+1) (.row I 4 [a7 (cX L).length (.az zF 0 m 1 (A m)) u w])).get q=h.get q:=λq aJ=>ae.b8 (Ne.symm aJ)
 have n13:(h.set (zX+1) (.row I 4 [a7 (cX L).length (.az zF 0 m 1 (A m)) u w])).next=h.next:=aX
 refine cv @q6.eq_1 (iE bd) st (iE be) ?_;generalize h.set (zX+1) (.row I 4 [a7 (cX L).length (.az zF 0 m 1 (A m)) u w])=bA at*;rw[abt f.toMay t cB jO T bi];have bo:∀q,q<zX->c.get q=B.get q:=λq aJ=>x.2 q (by have:=y.1;omega) ad
 refine aD.2 ⟨_,rfl,⟨_,_,_,rfl,?_,?_,?_,aR.cap⟩,?_,?_⟩
 ·grind[Is]
 ·exact aS.keep λq b (aJ:zF+2<=q) g=>⟨show zX<=q by omega,al⟩
 ·exact aM.az.keep λq b (aJ:z.next<=q) g=>⟨show zX<=q by omega,al⟩
 ·omega
 ·intro q aJ;rw[br q ad,aZ q ad ad,aa q ad,Y q ad,v.2 q ad,bo q ad,ah.2 q aJ]
end
section
set_option maxRecDepth 100000
set_option maxHeartbeats 4000000
noncomputable section
def Av(G:aq):g5 Tryz.f11 G:=⟨_,λN=>t1 an⟩
def P8(N:Nat):=en Tryz.func11 λG=>(Av G).2 N
def A6(G:aq):g5 Tryz.f14 G:=⟨_,λN=>t1 an⟩
def P9(N:Nat):=en Tryz.func14 λG=>(A6 G).2 N
def QU(G:aq)(N:Nat):eJ 4 Tryz.f18 G N (·.aa.aa.aa.aa.aa.aa) (a8 Tryz.f18) []:=⟨_,v1 an⟩
def QQ(G:aq)(N:Nat)(L2:b6):eh 4 41 42 Tryz.f18 G N (·.aa.aa.aa.aa.aa.aj.aa.aj.aj) (bn L2 4 41 42) [(4,(a1 (QU G N) 4))]:=⟨_,v3 an⟩
def QV(G:aq)(N:Nat):Nat->b6
 |0=>gD
 |n+1=>QQ G N (QV G N n)
def Bq(G:aq)(N:Nat):eJ 4 Tryz.f18 G N (·.aa.aa.aa.aa.aa) (a8 Tryz.f18) []:=⟨_,v1 (ak ((QU G N).2) (ak (bj (bH (λm=>(QQ G N (QV G N m)).2))) an))⟩
def af1(G:aq)(N:Nat)(L3:b6)(L4:cx):eY 3 4 5 19 20 Tryz.f18 G N (·.aa.aa.aa.aa.aj.aa.aj.aj.aa.aj.aa.aa.aj.aj.aa.aa.aa) (bY L4 3 4 5 19 20) [(2,(bn L3 3 4 5)),(1,(bn L3 3 4 5)),(0,(a1 (Bq G N) 4))]:=⟨_,v5 an⟩
def QT(G:aq)(N:Nat)(L3:b6)(L4:cx):eY 3 4 5 19 20 Tryz.f18 G N (·.aa.aa.aa.aa.aj.aa.aj.aj.aa.aj.aa.aa.aj.aj) (bY L4 3 4 5 19 20) [(2,(bn L3 3 4 5)),(1,(bn L3 3 4 5)),(0,(a1 (Bq G N) 4))]:=⟨_,v5 (ak (ak (ak ((af1 G N L3 L4).2) an) an) an)⟩
def QX(G:aq)(N:Nat)(L3:b6):Nat->cx
 |0=>hH
 |n+1=>QT G N L3 (QX G N L3 n)
def QS(G:aq)(N:Nat)(L3:b6):eh 3 4 5 Tryz.f18 G N (·.aa.aa.aa.aa.aj.aa.aj.aj) (bn L3 3 4 5) [(0,(a1 (Bq G N) 4))]:=⟨_,v3 (ak (bj (ak (ak (bj (bH (λm=>(QT G N L3 (QX G N L3 m)).2))) an) an)) an)⟩
def QW(G:aq)(N:Nat):Nat->b6
 |0=>gD
 |n+1=>QS G N (QW G N n)
def af0(G:aq)(N:Nat):fM Tryz.f18 G N:=⟨_,t1 (ak (ak (ak (ak (ak ((Bq G N).2) (ak (bj (bH (λm=>(QS G N (QW G N m)).2))) an)) an) an) an) an)⟩
def wu(G:aq)(N:Nat):eJ 4 Tryz.f20 G N (·.aa.aa.aa.aa.aa) (a8 Tryz.f20) []:=⟨_,v1 an⟩
def Bv(G:aq)(N:Nat)(L1:cx):eY 3 4 15 16 17 Tryz.f20 G N (·.aa.aa.aa.aa.aj.aa.aj.aj.aa.aa.aa) (bY L1 3 4 15 16 17) [(0,(a1 (wu G N) 4))]:=⟨_,v5 an⟩
def Q3(G:aq)(N:Nat)(L1:cx):gM 3 4 5 7 15 16 17 Tryz.f20 G N (·.aa.aa.aa.aa.aj.aa.aj.aj.aa.aa.aj.aj.aa.aa.aa) (bY (Bv G N L1) 3 4 15 16 17) [(1,(bY (Bv G N L1) 3 4 15 16 17)),(0,(a1 (wu G N) 4))]:=⟨_,o3 an⟩
def Q2(G:aq)(N:Nat)(L1:cx)(L4:jf):r2 3 4 5 7 15 16 17 27 28 29 Tryz.f20 G N (·.aa.aa.aa.aa.aj.aa.aj.aj.aa.aa.aj.aj.aa.aa.aj.aa.aj.aj) (qt L4 3 4 5 7 15 16 17 27 28 29) [(2,(dp (Q3 G N L1) 3 4 5 7 15 16 17)),(1,(bY (Bv G N L1) 3 4 15 16 17)),(0,(a1 (wu G N) 4))]:=⟨_,v10 an⟩
def Q5(G:aq)(N:Nat)(L1:cx):Nat->jf
 |0=>yr
 |n+1=>Q2 G N L1 (Q5 G N L1 n)
def Q1(G:aq)(N:Nat)(L1:cx):eY 3 4 15 16 17 Tryz.f20 G N (·.aa.aa.aa.aa.aj.aa.aj.aj) (bY L1 3 4 15 16 17) [(0,(a1 (wu G N) 4))]:=⟨_,v5 (ak (ak (ak ((Bv G N L1).2) (bj (ak (ak (ak ((Q3 G N L1).2) (ak (bj (bH (λm=>(Q2 G N L1 (Q5 G N L1 m)).2))) an)) an) an))) an) an)⟩
def Q4(G:aq)(N:Nat):Nat->cx
 |0=>hH
 |n+1=>Q1 G N (Q4 G N n)
def af2(G:aq)(N:Nat):fM Tryz.f20 G N:=⟨_,t1 (ak (ak (ak (ak (ak ((wu G N).2) (ak (bj (bH (λm=>(Q1 G N (Q4 G N m)).2))) an)) an) an) an) an)⟩
def af4(G:aq):eO Tryz.f22 G:=⟨_,λN=>t2 an⟩
def HH(G:aq)(N:Nat)(L0:cg):dI 1 2 3 4 Tryz.f36 G N (·.aa.aa.aa.aj.aj) (bI L0 1 2 3 4) [(0,(a8 Tryz.f36))]:=⟨_,lI an⟩
def BP(G:aq)(N:Nat):Nat->cg
 |0=>fq
 |n+1=>HH G N (BP G N n)
def HG(G:aq)(N:Nat):fM Tryz.f36 G N:=⟨_,t1 (ak (ak (ak (bj (bH (λm=>(HH G N (BP G N m)).2))) an) an) an)⟩
def afb(N:Nat):=en Tryz.func36 λG=>(HG G N).2
def HK(G:aq)(N:Nat):eJ 3 Tryz.f38 G N (·.aa.aa.aa.aa.aa.aa.aa) (a8 Tryz.f38) []:=⟨_,v1 an⟩
def BW(G:aq)(N:Nat)(L2:cg):dI 1 3 43 44 Tryz.f38 G N (·.aa.aa.aa.aa.aa.aa.aj.aa.aj.aj) (bI L2 1 3 43 44) [(2,(a1 (HK G N) 3))]:=⟨_,lI an⟩
def wW(G:aq)(N:Nat):Nat->cg
 |0=>fq
 |n+1=>BW G N (wW G N n)
def BY(G:aq)(N:Nat):eh 1 3 4 Tryz.f38 G N (·.aa.aa.aa.aa.aa) (a8 Tryz.f38) []:=⟨_,v3 (ak (ak ((HK G N).2) (ak (bj (bH (λm=>(BW G N (wW G N m)).2))) an)) an)⟩
def BX(G:aq)(N:Nat)(L3:cx):eY 1 3 4 17 18 Tryz.f38 G N (·.aa.aa.aa.aa.aj.aa.aj.aj) (bY L3 1 3 4 17 18) [(0,(bn (BY G N) 1 3 4))]:=⟨_,ng an⟩
def wX(G:aq)(N:Nat):Nat->cx
 |0=>hH
 |n+1=>BX G N (wX G N n)
def BV(G:aq)(N:Nat):fM Tryz.f38 G N:=⟨_,o1 (ak (ak (ak (ak (ak ((BY G N).2) (ak (bj (bH (λm=>(BX G N (wX G N m)).2))) an)) an) an) an) an)⟩
def P_(N:Nat):=en Tryz.func38 λG=>(BV G N).2
def w6(G:aq)(N:Nat):eJ 7 Tryz.f40 G N (·.aa.aa.aa) (a8 Tryz.f40) []:=⟨_,v1 an⟩
def w7(G:aq)(N:Nat)(L1:ec):gM 0 1 2 7 24 25 26 Tryz.f40 G N (·.aa.aa.aj.aa.aj.aj.aa.aa.aa) (dp L1 0 1 2 7 24 25 26) [(0,(a1 (w6 G N) 7))]:=⟨_,g2 an⟩
def af6(G:aq)(N:Nat)(L1:ec)(L3:jf):r2 0 1 2 7 24 25 26 33 34 35 Tryz.f40 G N (·.aa.aa.aj.aa.aj.aj.aa.aa.aj.aj.aa.aa.aj.aj.aa.aa.aa) (qt L3 0 1 2 7 24 25 26 33 34 35) [(2,(dp (w7 G N L1) 0 1 2 7 24 25 26)),(1,(dp (w7 G N L1) 0 1 2 7 24 25 26)),(0,(a1 (w6 G N) 7))]:=⟨_,v10 an⟩
def Rc(G:aq)(N:Nat)(L1:ec)(L3:jf):r2 0 1 2 7 24 25 26 33 34 35 Tryz.f40 G N (·.aa.aa.aj.aa.aj.aj.aa.aa.aj.aj.aa.aa.aj.aj) (qt L3 0 1 2 7 24 25 26 33 34 35) [(2,(dp (w7 G N L1) 0 1 2 7 24 25 26)),(1,(dp (w7 G N L1) 0 1 2 7 24 25 26)),(0,(a1 (w6 G N) 7))]:=⟨_,v10 (ak (ak (ak ((af6 G N L1 L3).2) an) an) an)⟩
def Rf(G:aq)(N:Nat)(L1:ec):Nat->jf
 |0=>yr
 |n+1=>Rc G N L1 (Rf G N L1 n)
def Rb(G:aq)(N:Nat)(L1:ec):gM 0 1 2 7 24 25 26 Tryz.f40 G N (·.aa.aa.aj.aa.aj.aj) (dp L1 0 1 2 7 24 25 26) [(0,(a1 (w6 G N) 7))]:=⟨_,g2 (ak (ak (ak ((w7 G N L1).2) (bj (ak (ak (bj (bH (λm=>(Rc G N L1 (Rf G N L1 m)).2))) an) an))) an) an)⟩
def Re(G:aq)(N:Nat):Nat->ec
 |0=>kN
 |n+1=>Rb G N (Re G N n)
def af5(G:aq)(N:Nat):m_ Tryz.f40 G N:=⟨_,t3 (ak (ak (ak ((w6 G N).2) (ak (bj (bH (λm=>(Rb G N (Re G N m)).2))) an)) an) an)⟩
def HL(G:aq):eO Tryz.f44 G:=⟨_,λN=>t2 an⟩
def aff(N:Nat):=c1 Tryz.func44 λG=>(HL G).2 N
def HM(G:aq):W0 Tryz.f45 G (·.aa.aa) (a8 Tryz.f45) []:=⟨_,λN=>v0 an⟩
def af_(G:aq):nT 0 3 6 7 Tryz.f45 G (·.aa.aj.aa.aj.aa) (br (HM G)) [(0,(br (HM G)))]:=⟨_,λN=>v4 an⟩
def af9(G:aq):eO Tryz.f45 G:=⟨_,λN=>t2 (ak (ak ((HM G).2 N) (ak (bj (ak ((af_ G).2 N) an)) an)) an)⟩
def B_(G:aq)(N:Nat):eJ 5 Tryz.f46 G N (·.aa.aa.aa) (a8 Tryz.f46) []:=⟨_,v1 an⟩
def HO(G:aq)(N:Nat)(L1:cx):eY 1 5 8 9 10 Tryz.f46 G N (·.aa.aa.aj.aa.aj.aj.aa.aa.aa) (bY L1 1 5 8 9 10) [(0,(a1 (B_ G N) 5))]:=⟨_,v5 an⟩
def B9(G:aq)(N:Nat)(L1:cx):eY 1 5 8 9 10 Tryz.f46 G N (·.aa.aa.aj.aa.aj.aj) (bY L1 1 5 8 9 10) [(0,(a1 (B_ G N) 5))]:=⟨_,v5 (ak (ak (ak ((HO G N L1).2) an) an) an)⟩
def w9(G:aq)(N:Nat):Nat->cx
 |0=>hH
 |n+1=>B9 G N (w9 G N n)
def HN(G:aq)(N:Nat):fW Tryz.f46 G N:=⟨_,t2 (ak (ak (ak ((B_ G N).2) (ak (bj (bH (λm=>(B9 G N (w9 G N m)).2))) an)) an) an)⟩
def afg(N:Nat):=c1 Tryz.func46 λG=>(HN G N).2
def HP(G:aq):eO Tryz.f47 G:=⟨_,λN=>t2 an⟩
def afh(N:Nat):=c1 Tryz.func47 λG=>(HP G).2 N
def HY(G:aq):eO Tryz.f78 G:=⟨_,λN=>qz an (x:=trivial)⟩
def afw(N:Nat):=c1 Tryz.func78 λG=>(HY G).2 N
def H8(G:aq)(N:Nat):eJ 3 Tryz.f80 G N (·.aa.aa.aa) (a8 Tryz.f80) []:=⟨_,v1 an⟩
def Ct(G:aq)(N:Nat)(L1:cx):eY 1 3 7 8 9 Tryz.f80 G N (·.aa.aa.aj.aa.aj.aj) (bY L1 1 3 7 8 9) [(0,(a1 (H8 G N) 3))]:=⟨_,v5 an⟩
def xt(G:aq)(N:Nat):Nat->cx
 |0=>hH
 |n+1=>Ct G N (xt G N n)
def H7(G:aq)(N:Nat):fM Tryz.f80 G N:=⟨_,t1 (ak (ak (ak ((H8 G N).2) (ak (bj (bH (λm=>(Ct G N (xt G N m)).2))) an)) an) an)⟩
def afy(N:Nat):=en Tryz.func80 λG=>(H7 G N).2
def Ii(G:aq):W0 Tryz.f93 G (·.aa.aa) (a8 Tryz.f93) []:=⟨_,λN=>v0 an⟩
def agc(G:aq):r4 0 2 4 8 9 Tryz.f93 G (·.aa.aj.aa.aj.aa) (br (Ii G)) [(0,(br (Ii G)))]:=⟨_,λN=>v5 an⟩
def agb(G:aq):jH Tryz.f93 G:=⟨_,λN=>t3 (ak (ak ((Ii G).2 N) (ak (bj (ak ((agc G).2 N) an)) an)) an)⟩
def Ge(G:aq):eO Tryz.f100 G:=⟨_,λN=>t2 an⟩
def adx(N:Nat):=c1 Tryz.func100 λG=>(Ge G).2 N
end
end
section
open Go.a_
set_option maxRecDepth 2000
section
variable {H:ae}{ok ok':Nat->Prop}{x:bC}
theorem ab4(ar:ez x):0<cf x:=by have:=ar.ay;grind[cf]
theorem Ou(ar:ez x):cf x<=70000:=by have:=ar.ay;have:=ar.globals;grind[kV,cf]
def Nq{H:ae}{a b c d:af}{m:Int}{zX:Nat}(g:H.get zX=A (.row I 5 [[a,b,c,d,D F m]])):aI P H 25 (.ptr zX 0 3)=A d:=by rw[e0 aF g rfl];rfl
theorem NS(ar:right x=J){V:af}(aE:cA H ok x V){l:List bp}{lv:af}(aI:gg (cf x) x.sites.length l)(aw:l.length<=800000000)(aC:aH cP H ok' l lv):W (aK P aG 78 [V,lv] H) λr H'=>hX H' (λL=>H.next<=L) (a_.merge (hb (cf x) x.sites.length l) x.sites.length) r/\au H H':=by
 have aN:=aE;have u:=ga ar;have Q:=u.sites;have aL:=Ou u;obtain⟨_,rfl,a,b,cc,d,rfl,ah,ai,ax,aM⟩:=aE;refine afw 0 ?_;have aQ:=au.push H (.row I 5 [[a,b,cc,d,D F x.main]]);have ap:=ae.a2 H (.row I 5 [[a,b,cc,d,D F x.main]]);have aT:bF (A (.agg [a,b,cc,d,D F x.main])) (.agg [a,b,cc,d,D F x.main])=true:=by simp[bF,af.beq,e6.beq,ah.rd,ai.rd,ax.rd,aM.rd]
 have Y:=au.push (H.push (.row I 5 [[a,b,cc,d,D F x.main]])) (.row I 4 [a7 0 .ao .ao .ao]);have E:=ae.a2 (H.push (.row I 5 [[a,b,cc,d,D F x.main]])) (.row I 4 [a7 0 .ao .ao .ao]);have j:=Y.get ap;obtain⟨zX,o⟩:∃zX,zX=H.next:=⟨_,rfl⟩
 have aa:(H.push (.row I 5 [[a,b,cc,d,D F x.main]])).next=zX+1:=by rw[o];simp
 have aZ:∀(k:af->ae->O),e5 (H.push (.row I 5 [[a,b,cc,d,D F x.main]])) [D F 0,.ao,.ao,.ao] k=k (.ptr (zX+1) 0 0) ((H.push (.row I 5 [[a,b,cc,d,D F x.main]])).push (.row I 4 [a7 0 .ao .ao .ao])):=λk=>by rw[iL,iN,aa];rfl
 rw[aa]at E;rw[<-o]at j;simp only[HY,dV ah ai ax aM,kM,aZ,<-o];have w:=aQ.trans Y;generalize av:(H.push (.row I 5 [[a,b,cc,d,D F x.main]])).push (.row I 4 [a7 0 .ao .ao .ao])=ab at*;have a6:ab.next=zX+2:=by rw[<-av];simp[o]
 refine bP (cn j) ?_;refine bw (V4 ar (aN.aB w)) λaj y=> ?_
 have aq:=y.get j;have hlen:=aM.len fH (H0:=aj);have aA:∀H0,bE P H0 .len [25] [d]=A (D F (x.sites.length:Nat)):=λH0=>aM.len fH
 refine cv (Nq aq) aA @K.heap.eq_1 @K.val.eq_1 ?_;refine cK (acG aI aL (ab4 u) Q aw (aC.aB (w.trans y))) ?_;rintro _ i ⟨pv,rfl,⟨nv,fv,rfl,N,M⟩,U⟩;refine⟨U.1,?_⟩;have T:=y.trans U;have aR:=ae.a2 i (.row I 2 [[.ao,.ao]]);have B:=au.push i (.row I 2 [[nv,fv]]);have aV:cr P (i.push (.row I 2 [[.ao,.ao]])) 154 (.ptr i.next 0 0) (.agg [nv,fv])=A (i.push (.row I 2 [[nv,fv]])):=by
  rw[yg aR N.one M.one,ae.lb]
 refine bP aV ?_;have aP:=au.push i (.row I 2 [[.ao,.ao]]);have z:=T.trans B;have a8:=T.trans aP;have aU:bF (A d) d=true:=by simp[bF,aM.rd]
 refine ds (λH' p=>(ag (cn (p.get j)) (ag aT (ag (Nq (p.get j)) aU)))) ?_;have ak:=ae.a2 i (.row I 2 [[nv,fv]]);have S:=(w.trans z);have n5:(i.push (.row I 2 [[nv,fv]])).next=i.next+1:=aX
 have an:=z.get E;have aF:=N.aB B;have ay:=M.aB B;generalize i.push (.row I 2 [[nv,fv]])=t at*;refine bP (mE ak) ?_;refine cK (abG (NL Q ad) aF ay) ?_;rintro _ e ⟨a3,rfl,⟨ov,h,f,rfl,a1,bd,bn,bI⟩,m⟩;refine⟨m.1,?_⟩;have aS:=ae.a2 e (.row I 4 [a7 0 .ao .ao .ao]);generalize a4:a_.merge (hb (cf x) x.sites.length l) x.sites.length=k at*;have lT:cr P (e.push (.row I 4 [a7 0 .ao .ao .ao])) 33 (.ptr e.next 0 0) (.agg (a7 k.count ov h f))=A (e.push (.row I 4 [a7 k.count ov h f])):=by
  rw[i_ aS rfl a1.one bd.one bn.one,ae.lb]
 have s:=au.push e (.row I 4 [a7 k.count ov h f]);have al:=ae.a2 e (.row I 4 [a7 k.count ov h f]);have a0:∀(q:af->ae->O),e5 e [D F 0,.ao,.ao,.ao] q=q (.ptr e.next 0 0) (e.push (.row I 4 [a7 0 .ao .ao .ao])):=λq=>by rw[iL,iN];rfl
 have G:=(m.trans s).get an;have aY:=i_ (a:=ov) (b:=h) (c:=f) (n:=k.count) G rfl a1.one bd.one bn.one;have aO:=ae.bq G;have am:((e.push (.row I 4 [a7 k.count ov h f])).set (zX+1) (.row I 4 [a7 k.count ov h f])).get (zX+1)=A (.row I 4 [a7 k.count ov h f]):=ae.cH aO;have R:∀q,q≠zX+1->((e.push (.row I 4 [a7 k.count ov h f])).set (zX+1) (.row I 4 [a7 k.count ov h f])).get q=(e.push (.row I 4 [a7 k.count ov h f])).get q:=λq aJ=>ae.b8 (Ne.symm aJ)
 simp only[yF,List.getElem?_cons_zero,List.getElem?_cons_succ,lZ,a0,lT];rw[m1 aX];simp only[iE al,lZ,aY];rw[m1 aX];simp only[iE am,lZ];have a5:zX+2<=t.next:=by have:=z.1;omega
 have v:dm e (λL=>t.next<=L) ((e.push (.row I 4 [a7 k.count ov h f])).set (zX+1) (.row I 4 [a7 k.count ov h f])) (λL=>zX<=L):=λq b (aJ:t.next<=q) g=>⟨show zX<=q by omega,by rw[R q ad];exact s.get g⟩
 refine aD.2 ⟨⟨_,_,_,rfl,a1.keep v,bd.keep v,bn.keep v,bI⟩,⟨by have:=S.1;have:=m.1;have:=s.1;simp at*;omega,λq aJ=> ?_⟩⟩;rw[R q ad,s.2 q (by have:=m.1;omega),m.2 q ad,S.2 q aJ]
end
end
section
open Go.a_
set_option maxRecDepth 2000
def ag4(l:Nat)(c:bp):gB P l 53 1 [(0,.agg (cU c))]=A (.az l 0 1 4 (A 1),.row I 4 [cU c]):=by
 cases c<;>exact mW ik l rfl rfl rfl
theorem Mm{a:Int}:∀{l:List Int} {i:Nat},l[i]? =A a->(∀j:Nat,j<i->l[j]? ≠A a)->l.idxOf a=i
 |[],i,h,_=>al
 |x::l,0,h,_=>al
 |x::l,i+1,h,aC=>by
  have aE:x≠a:=λe=>aC 0 ad al
  rw[List.idxOf_cons,beq_eq_false_iff_ne.2 aE,oZ,Mm (fA h) al]
def ZW{R:Nat->Nat->Prop}(he:gd R){m s:Nat}(a:s<m):pb (aQ ((List.range m).map (db R))) ((db R s:Nat):Int)=((eg R s:Nat):Int):=by
 have aw:=kd he s;have ah:(aQ ((List.range m).map (db R)))[eg R s]? =A ((db R s:Nat):Int):=by
  grind[sq,aQ]
 grind[pb,Mm,aQ,sq]
section
variable {H:ae}{ok ok':Nat->Prop}
theorem Jr{R:Nat->Nat->Prop}(he:gd R){m zX cnt:Nat}{ov nv fv:af}(hm:m<=1000000){B:Nat}(c:zX<B){N:Nat}:∀(j k q:Nat) (H:ae) (l:List bp) (v:af),k+j=m->j<q->l=(List.range k).map (λs=>bp.same s (eg R s))->aY cP B bb H l v->B<=H.next->H.get zX=A (.row I 4 [a7 cnt ov nv fv])->aH aN H (· <B) (aQ ((List.range m).map (db R))) ov->
  W (xt (aK P aG) N q (.ptr zX 0 0) v ov (D F m) (D F k) H) λr H'=>aY cP B bb H' (hK R m) r/\cl B H H'
 |_,_,0,_,_,_,_,aJ,_,_,_,_,_=>ad
 |0,k,q+1,H,l,v,x,_,u,aw,b,g,aZ=>by
  have E:¬(k:Int)<(m:Int):=ad;refine b3 @xt.eq_2 @Ct.eq_1 @H8.eq_1 ?_;have e:k=m:=ad;subst e;exact aD.2 ⟨by grind[hK],.refl _ _⟩
 |j+1,k,q+1,H,l,v,x,aJ,u,aw,b,g,aZ=>by
  have d:k<m:=ad;have on:=Jr he (cnt:=cnt) (ov:=ov) (nv:=nv) (fv:=fv) hm c (N:=N) j (k+1) q;have hlen:(aQ ((List.range m).map (db R))).length=m:=by simp[aQ]
  obtain⟨p,i1,i2⟩:=aZ.int (j:=(k:Int)) (a:=((db R k:Nat):Int)) ad (by simp[aQ,d]);have t:ei P 56 [(0,D F 5),(1,D F (k:Nat)),(2,D F (eg R k:Nat))]=A (.agg (cU (.same k (eg R k)))):=JY rfl rfl rfl;refine c_ @xt.eq_2 @Ct.eq_1 i1 i2 (fQ g) ?_;have f:=Mp (a:=((db R k:Nat):Int)) aZ ad;rw[ZW he d]at f;refine dK f ?_;obtain⟨h,H1,i,o,a3,a4,a5⟩:=aY.sc (K:=cP) (ok:=bb) (ok':=bb) ik aw b (au.refl H) (a:=bp.same k (eg R k)) (cs:=cU (.same k (eg R k))) rfl (λ_ _=>trivial) al;have y:(H.push (.row I 4 [cU (.same k (eg R k))])).next<=H1.next:=by grind[ae.fR]
  have n:eA P (H.push (.row I 4 [cU (.same k (eg R k))])) [53,53] v (.az H.next 0 1 4 (A 1))=A (h,H1):=i;have w:l++[bp.same k (eg R k)]=(List.range (k+1)).map (λs=>bp.same s (eg R s)):=by grind[List.range_succ]
  refine b3 t @ag4 n ?_;exact(on H1 _ h ad ad w o ad ((a3.2 zX c).trans g) (aZ.e3 a3)).mono λr H' z=>⟨z.1,a3.trans z.2⟩
def D9(l n:Nat){a b c:af}(d:a.one=J)(e:b.one=J)(aA:c.one=J):fj l (.agg (a7 n a b c))=A (.ptr l 0 0,.row I 4 [a7 n a b c]):=by simp[fj,af.cells,a7,d,e,aA];rfl
def TN{R:Nat->Nat->Prop}(he:gd R){m:Nat}{k:a_.dg}{v:af}(hm:m<=1000000)(d:k.of=(List.range m).map (db R))(f:hX H ok k v):W (aK P aG 80 [v] H) λr H'=>aY cP H.next bb H' (hK R m) r/\au H H':=by
 obtain⟨ov,nv,fv,rfl,a1,bd,bn,_⟩:=f;rw[d]at a1;refine afy (m+1) ?_;have b:=au.push H (.row I 4 [a7 k.count ov nv fv]);have a:=ae.a2 H (.row I 4 [a7 k.count ov nv fv]);have hlen:∀H0,bE P H0 .len [30] [ov]=A (D F m):=λH0=>by rw[a1.len b0];simp[aQ]
 refine cv @H7.eq_1 (λz0 g=>D9 z0 g a1.one bd.one bn.one) (fQ a) hlen ?_;refine(Jr he hm (B:=H.next+1) ad m 0 _ _ [] .ao ad ad rfl (aY.nil cP _ _ _) aX a ((a1.below.aB b).keep (.le λL h=>ad))).mono λr H' z=>⟨⟨z.1.eL,λL n c e=>by have:=z.1.low L n c e;omega⟩,⟨by have:=z.2.1;simp at this;omega,λq aJ=>(z.2.2 q ad).trans (b.2 q aJ)⟩⟩
end
end
section
open Go.a_
set_option maxRecDepth 2000
def NH:fa 198 53 1:=⟨aF,aF,⟨24,aF,bZ⟩,⟨.ao,aF,rfl,rfl⟩,bZ⟩
def I6{H:ae}{ok ok':Nat->Prop}(a:bp)(cs:List af)(h:cP.V H ok a cs):cP.V H ok' a cs:=h
section
variable {H:ae}{ok ok':Nat->Prop}
theorem Y7{n:Nat}(aL:n<=1000000000):W (aK P aG 133 [.ao,.int .i64 n] H) λr H'=>aY cP H.next bb H' [] r/\au H H':=by
 refine adU 0 ?_;have br:∀H0,bE P H0 .cap [53] [.ao]=A (.int .i64 0):=λH0=>aF
 have c:∀H0,bE P H0 .len [53] [.ao]=A (.int .i64 0):=λH0=>aF
 have w0:IntKind.i64.wrap ((0:Int)-0)=0:=bZ;have j:IntKind.i64.wrap ((n:Int)-0)=(n:Int):=by grind[wrap_i64]
 by_cases f:n=0
 ·subst f;have d:¬(0:Int)>0:=bZ;have l:IntKind.i64.wrap (((0:Nat):Int)-0)=0:=bZ;refine bh @AU.eq_1 @Gs.eq_1 @Gt.eq_1 br c (ag w0 (ag @Int.lt_irrefl @Int.ofNat_zero)) ?_;exact aD.2 ⟨aY.nil cP _ _ _,.refl _⟩
 ·have d:(0:Int)<(n:Int):=ad;have g:gu P 53 .ao Z (A (.int .i64 0)) Z=A .ao:=aF;have pp:=au.push H (.row I 4 (List.replicate n [.int .i64 0,.int .i64 0,.int .i64 0,.int .i64 0]));have e:=ae.a2 H (.row I 4 (List.replicate n [.int .i64 0,.int .i64 0,.int .i64 0,.int .i64 0]));have ap:eA P H [53,3] .ao (.int .i64 (n:Nat))=A (.az H.next 0 n 4 Z,H.push (.row I 4 (List.replicate n [.int .i64 0,.int .i64 0,.int .i64 0,.int .i64 0]))):=by
   have u:P.underlying 53=A (.slice 56):=aF;have i64:qM P 3=true:=aF;have b:cE P 56=A 4:=aF;have k:lW P 56=A 32:=aF;have z3:fX P 56=A (.agg [.int .i64 0,.int .i64 0,.int .i64 0,.int .i64 0]):=aF;have aA:0<n/\(af.agg [.int .i64 0,.int .i64 0,.int .i64 0,.int .i64 0]).cells.length=4/\0<4/\(af.agg [.int .i64 0,.int .i64 0,.int .i64 0,.int .i64 0]).cells.all af.one=J/\n*32<=140737488355328/\n<=1125899906842624:=⟨ad,rfl,bZ,rfl,ad,ad⟩;simp only[eA,u,i64,if_true,yH,b,k,z3];show(if _ then _ else _)=_;rw[if_pos aA];rfl
  have h:gu P 53 (.az H.next 0 n 4 Z) Z (A (.int .i64 0)) Z=A (.az H.next 0 0 4 Z):=by
   have u:P.underlying 53=A (.slice 56):=aF;have b:cE P 56=A 4:=aF;simp[gu,u,b,dL]
  refine bh @AU.eq_1 @Gs.eq_1 @Gt.eq_1 br c (ag w0 (ag j (ag g (ag h ap)))) ?_;refine aD.2 ⟨⟨.inr ⟨H.next,_,Z,rfl,trivial,e,aX,.inl rfl,λi a aP=>al⟩,al⟩,pp⟩
theorem aY.KE{B:Nat}{H1:ae}{l m:List bp}{v w:af}(h:aY cP B bb H1 l v)(b:B<=H1.next)(hm:aH cP H1 ok m w)(aw:l.length+m.length<=1000000000):
  ∃a H',eA P H1 [53,53] v w=A (a,H')/\aY cP B bb H' (l++m) a/\cl B H1 H':=by
 obtain⟨a,H',c,d,a3,_,_⟩:=h.app ik b ((hm.y7 ik).plain (okE':=λ_=>False) I6) (λ_ _ h=>h.elim) (λ_ _ _ _=>trivial) (ok':=bb) trivial aw;grind
theorem aH.zJ{l:List (List bp)}{v:af}(h:aH (bu cP) H ok l v){j:Int}{a:List bp}(b:0<=j)(c:l[j.toNat]? =A a):∃p w,ct P 198 v (D F j)=A p/\aI P H 53 p=A w/\aH cP H ok a w:=by
 obtain⟨p,cs,d,e,w,rfl,f⟩:=aH.val (K:=bu cP) NH aF h b c;grind
theorem V1{b l2:List bp}{v:af}(h:aH (bu cP) H ok [b,l2] v)(L:b.length+l2.length<=1000000000):W (aK P aG 79 [v] H) λr H'=>aY cP H.next bb H' (b++l2) r/\au H H':=by
 refine afx 3 ?_;have lv:∀H0,bE P H0 .len [198] [v]=A (D F 2):=λH0=>by rw[h.len NH];rfl
 obtain⟨O,E,i1,i2,i3⟩:=h.zJ (j:=0) (a:=b) ad rfl;obtain⟨R,G,t,w,y⟩:=h.zJ (j:=1) (a:=l2) ad rfl;have cL:∀H0,bE P H0 .len [53] [E]=A (D F b.length):=λH0=>i3.len ik
 have B:∀H0,bE P H0 .len [53] [G]=A (D F l2.length):=λH0=>y.len ik
 have k:IntKind.i64.wrap ((0:Int)+(b.length:Int))=((b.length:Nat):Int):=by grind[wrap_i64]
 have l:IntKind.i64.wrap ((b.length:Int)+(l2.length:Int))=((b.length+l2.length:Nat):Int):=by grind[wrap_i64]
 have a1:IntKind.i64.wrap ((0:Int)+1)=1:=bZ;have bd:IntKind.i64.wrap ((1:Int)+1)=2:=bZ;have d0:(0:Int)<2:=bZ;have d1:(1:Int)<2:=bZ;have d2:¬(2:Int)<2:=bZ;refine bh @HZ.eq_1 @H6.eq_2 @H3.eq_1 @Cs.eq_1 @xr.eq_1 (ag lv (ag i1 (ag i2 (ag t (ag w (ag cL (ag B (ag k (ag l (ag a1 (ag bd (ag d0 (ag d1 d2))))))))))))) ?_;refine e2 (Y7 ad) λg H1 m d=> ?_
 have n:H.next<=H1.next:=d.1
 have ah:=h.below.aB d;obtain⟨Q,T,p,q,s⟩:=ah.zJ (j:=0) (a:=b) ad rfl;obtain⟨v2,c,x1,x2,x3⟩:=m.KE n s al;have ai:=ah.e3 x3;obtain⟨S,U,u,x,z⟩:=ai.zJ (j:=1) (a:=l2) ad rfl;have o:H.next<=c.next:=by have:=x3.1;omega
 obtain⟨v3,i,K,e,f⟩:=x2.KE o z al;have M:H1.next<=c.next:=x3.1
 have N:c.next<=i.next:=f.1
 refine bh @H5.eq_2 @H2.eq_1 @H4.eq_1 lv p (ag q (ag u (ag x (ag x1 (ag K (ag a1 (ag bd (ag d0 (ag d1 d2))))))))) ?_;rw[List.nil_append]at e;exact aD.2 ⟨e,((ek d ad).trans x3).trans f⟩
end
end
section
open Go.a_
set_option maxRecDepth 2000
def LF{α β:Type}{f:α->List β}{n:Nat}:∀{l:List α},(∀a∈l,(f a).length<=n)->(l.flatMap f).length<=n*l.length
 |[],_=>aX
 |a::l,h=>by
  have ah:=h a aX;have ai:=LF (f:=f) (n:=n) (l:=l) λb c=>h b al
  grind[Nat.mul_succ]
def KQ{x:bC}(ar:ez x):∀{cs:List bT} {f:Nat},(∀(j:Nat) (c:bT),cs[j]? =A c->x.ay[f+j]? =A c)->(ks x cs f).length<=7*hl cs
 |[],_,_=>by grind[ks]
 |c::cs,f,h=>by
  have aA:l0 x f c:=⟨ar,by simpa using h 0 c rfl⟩;have ah:(uz x f c).length<=7*c.ins.length:=LF λi aP=>EJ (aA.ok.ins aP) ar
  have ai:=KQ ar (cs:=cs) (f:=f+1) λj a b=>by
   have:=h (j+1) a al;grind
  grind[ks,hl]
def y2{x:bC}(ar:right x=J):(cons x).length<=17500:=by
 have ah:=KQ (ga ar) (cs:=x.ay) (f:=0) λj c h=>al
 have ai:=pI ar;unfold cons;omega
theorem IH:∀{l r:List Nat},aQ l=aQ r->l=r
 |[],[],_=>rfl
 |[],b::r,h=>by simp[aQ]at h
 |a::l,[],h=>by simp[aQ]at h
 |a::l,b::r,h=>by
  simp only[aQ,List.map_cons,List.cons.injEq]at h;have ah:a=b:=ad;rw[ah,IH (l:=l) (r:=r) h.2]
def ag6(l:Nat){v w:af}(a:v.one=J)(hw:w.one=J):gB P l 198 2 [(0,v),(1,w)]=A (.az l 0 2 1 (A 2),.row I 1 [[v],[w]]):=by
 have u:P.underlying 198=A (.slice 53):=aF;have e:cE P 53=A 1:=aF;have z3:fX P 53=A .ao:=aF;have c:=dq a;have d:=dq hw;have b:af.ao.cells=[af.ao]:=rfl;have on:af.ao.one=true:=rfl;simp[gB,u,e,z3,ma,c,d,b,a,hw,on,List.replicate]
section
variable {H:ae}{ok:Nat->Prop}{x:bC}
def UL{n:Nat}{a b c:af}(d:af.beq a a=J)(e:af.beq b b=J)(aA:af.beq c c=J):bF (A (.agg (a7 n a b c))) (.agg (a7 n a b c))=true:=by
 simp[bF,a7,af.beq,e6.beq,d,e,aA]
def hX.keep{H H':ae}{ok ok':Nat->Prop}{k:a_.dg}{v:af}(p:dm H ok H' ok')(h:hX H ok k v):hX H' ok' k v:=by
 obtain⟨a,b,c,e,ah,ai,ax,aM⟩:=h;exact⟨a,b,c,e,ah.keep p,ai.keep p,ax.keep p,aM⟩
theorem KA(ar:right x=J){V lv:af}{zX zC:Nat}{o:Nat}(bf:(dW (cf x) x.sites.length (cons x) (o+1)).of=(dW (cf x) x.sites.length (cons x) o).of)(aI:∀j,j<o->(dW (cf x) x.sites.length (cons x) (j+1)).of≠(dW (cf x) x.sites.length (cons x) j).of)
  {cs:List af} (bc:V= .agg cs) (bd:zX+1<zC) {N:Nat}:∀(q i:Nat) (H:ae) (U:af),i<=o->o<i+q->cA H (· <zX) x V->H.get zX=A (.row I 5 [cs])->aH cP H (· <zC) (cons x) lv->(∃r,H.get (zX+1)=A (.row I 4 [r])/\r.length=4)->(∃n a b c,U= .agg (a7 n a b c)/\H.get zC=A (.row I 4 [a7 n a b c]))->hX H (λq=>zX<=q/\q≠zC) (dW (cf x) x.sites.length (cons x) i) U->
  W (BP (aK P aG) N q (.ptr zX 0 0) (.ptr (zX+1) 0 0) lv (.ptr zC 0 0) H) λr H'=>hX H' (λL=>zX<=L) (dW (cf x) x.sites.length (cons x) (o+1)) r/\cl zX H H'
 |0,i,_,_,aP,aJ,_,_,_,_,_,_=>ad
 |q+1,i,H,U,aP,aJ,aE,aO,ap,⟨bw,ay,aL⟩,⟨n,a,b,c,aY,b4⟩,be=>by
  have aF:=ga ar;have bI:=aF.sites;subst aY;obtain⟨b1,b',f,aw,ah,ai,ax,aM⟩:=be;simp only[af.agg.injEq,a7,List.cons.injEq,af.int.injEq,and_true,true_and]at aw;obtain⟨bz,rfl,rfl,rfl⟩:=aw;obtain rfl:n=(dW (cf x) x.sites.length (cons x) i).count:=ad;have bG:=ae.bq b4;have bE:=y2 ar;have bv:=UL (n:=(dW (cf x) x.sites.length (cons x) i).count) ah.rd ai.rd ax.rd;have he:=vn (cf x) x.sites.length (cons x) i;have bi:=uy (cf x) x.sites.length (cons x) i;have bg:dW (cf x) x.sites.length (cons x) (i+1)=a_.merge (hb (cf x) x.sites.length (cons x++hK (mO (cf x) x.sites.length (cons x) i) x.sites.length)) x.sites.length:=rfl
  obtain⟨_,a1,a0,t,br,d0,a3,aa,ab,aj,ak⟩:=aE;have aE:cA H (· <zX) x V:=⟨_,a1,a0,t,br,d0,a3,aa,ab,aj,ak⟩;have aZ:cs=[a0,t,br,d0,D F x.main]:=al;subst aZ;have bt:bF (A (.agg [a0,t,br,d0,D F x.main])) (.agg [a0,t,br,d0,D F x.main])=true:=by simp[bF,af.beq,e6.beq,aa.rd,ab.rd,aj.rd,ak.rd]
  generalize bD:dW (cf x) x.sites.length (cons x) i=aN at*;refine b3 @BP.eq_2 @HH.eq_1 (iE b4) ?_;refine e2 (TN he ad bi ⟨a,b,c,rfl,ah,ai,ax,aM⟩) λB H1 aS M=> ?_
  generalize bA:mO (cf x) x.sites.length (cons x) i=R at*;have S:=au.push H1 (.row I 1 [[lv],[B]]);have a4:=ae.a2 H1 (.row I 1 [[lv],[B]]);have bC:(hK R x.sites.length).length=x.sites.length:=by simp[hK]
  have two:aH (bu cP) (H1.push (.row I 1 [[lv],[B]])) bb [cons x,hK R x.sites.length] (.az H1.next 0 2 1 (A 2)):=by
   refine .inr (.inl ⟨H1.next,0,A 2,I,_,rfl,trivial,a4,aX,λj y G=> ?_⟩)
   match j,G with
   |0,G=>cases G;exact⟨[lv],rfl,lv,rfl,((ap.aB M).aB S).any⟩
   |1,G=>cases G;exact⟨[B],rfl,B,rfl,(aS.az.aB S).any⟩
  refine bP (λz0=>ag6 z0 ap.one aS.az.one) ?_;refine e2 (V1 two ad) λjO w bk bo=> ?_
  have Q:=(M.trans S).trans bo;have a6:=M.get aO;have a8:=(M.trans S).get aO;have aC:=Q.get aO;refine bP (cn aC) ?_;have wf:gg (cf x) x.sites.length (cons x++hK R x.sites.length):=SZ (y3 aF) (SY he _ _);have bj:cA H (· <zX) x (.agg [a0,t,br,d0,D F x.main]):=⟨_,rfl,a0,t,br,d0,rfl,aa,ab,aj,ak⟩;refine e2 (NS ar (bj.keep (.aB Q)) wf al bk.az) ?_;rintro _ d ⟨b1,b',f,rfl,s,u,v,aT⟩ bp;rw[<-bg]at s u v ⊢;generalize an:dW (cf x) x.sites.length (cons x) (i+1)=aV at*;have bx:∀(q:af->ae->O),e5 d [D F 0,.ao,.ao,.ao] q=q (.ptr d.next 0 0) (d.push (.row I 4 [a7 0 .ao .ao .ao])):=λq=>by rw[iL,iN];rfl
  have bs:=ae.a2 d (.row I 4 [a7 0 .ao .ao .ao]);have lT:cr P (d.push (.row I 4 [a7 0 .ao .ao .ao])) 33 (.ptr d.next 0 0) (.agg (a7 aV.count b1 b' f))=A (d.push (.row I 4 [a7 aV.count b1 b' f])):=by
   rw[i_ bs rfl s.one u.one v.one,ae.lb]
  have T:=au.push d (.row I 4 [a7 aV.count b1 b' f]);have K:=ae.a2 d (.row I 4 [a7 aV.count b1 b' f]);have aU:=Q.trans bp;have k:=aU.trans T;have am:=k.get b4;simp only[bx,lT];rw[m1 aX];have bm:d.next<(d.push (.row I 4 [a7 aV.count b1 b' f])).next:=aX
  have bn:zC<d.next:=by have:=aU.1;omega
  obtain⟨E,ba⟩:∃E,E=d.next:=⟨_,rfl⟩
  rw[<-ba]at K bm bn ⊢;generalize d.push (.row I 4 [a7 aV.count b1 b' f])=l at*;have i1:=s.aB T;have hlen:(aQ aV.of).length<=1000000000:=by
   have e:=uy (cf x) x.sites.length (cons x) (i+1);rw[an]at e;rw[e];simp[aQ];omega
  refine bh (iE b4) bv (cn aO) (cn a6) (cn a8) (ag (cn aC) (ag bt (ag (fQ K) (fQ am)))) ?_;refine dK (Wo i1 (ah.aB k) hlen) ?_;have bH:zC<w.next:=by have:=Q.1;omega
  by_cases e:i=o
  ·subst e;have Y:aQ aV.of=aQ aN.of:=al;have aA:=k.get ay;have av:=i_ (n:=aV.count) aA aL s.one u.one v.one;have bl:=ae.bq aA;have a5:(l.set (zX+1) (.row I 4 [a7 aV.count b1 b' f])).get (zX+1)=A (.row I 4 [a7 aV.count b1 b' f]):=ae.cH bl;have m:∀q,q≠zX+1->(l.set (zX+1) (.row I 4 [a7 aV.count b1 b' f])).get q=l.get q:=λq aJ=>ae.b8 (Ne.symm aJ)
   refine cv Y (iE K) av (iE a5) ?_;have p:dm d (λL=>w.next<=L) (l.set (zX+1) (.row I 4 [a7 aV.count b1 b' f])) (λL=>zX<=L):=λq b (aJ:w.next<=q) g=>⟨show zX<=q by omega,by rw[m q ad];exact T.get g⟩
   rw[an];exact aD.2 ⟨⟨_,_,_,rfl,s.keep p,u.keep p,v.keep p,aT⟩,by have:=k.1;simpa using this,λq aJ=>by rw[m q ad,k.2 q ad]⟩
  ·have Y:aQ aV.of≠aQ aN.of:=λh=>aI i ad (by
    grind[IH])
   have av:=i_ (n:=aV.count) (a:=b1) (b:=b') (c:=f) am rfl s.one u.one v.one;have iB:=ae.bq am;have m:∀q,q≠zC->(l.set zC (.row I 4 [a7 aV.count b1 b' f])).get q=l.get q:=λq aJ=>ae.b8 (Ne.symm aJ)
   refine b3 Y (iE K) av ?_;have aR:∀{aq:Nat->Prop},(∀q,aq q->q≠zC)->dm H aq (l.set zC (.row I 4 [a7 aV.count b1 b' f])) aq:=λa9 q b aJ g=>⟨aJ,by rw[m q (a9 q aJ)];exact k.get g⟩
   have p:dm d (λL=>w.next<=L) (l.set zC (.row I 4 [a7 aV.count b1 b' f])) (λq=>zX<=q/\q≠zC):=λq b (aJ:w.next<=q) g=>⟨show zX<=q/\q≠zC by omega,by rw[m q ad];exact T.get g⟩
   refine(KA ar bf aI bc bd q (i+1) _ (.agg (a7 aV.count b1 b' f)) ad ad (aE.keep (aR λq (aJ:q<zX)=>ad)) (by rw[m zX ad];exact k.get aO) (ap.keep (aR λq (aJ:q<zC)=>ad)) ⟨bw,by rw[m _ ad];exact k.get ay,aL⟩ ⟨_,_,_,_,rfl,ae.cH iB⟩ ?_).mono λr H' z=>⟨z.1,⟨by have:=z.2.1;have:=k.1;simp at*;omega,λq aJ=>by rw[z.2.2 q aJ,m q ad,k.2 q ad]⟩⟩
   rw[an];exact⟨_,_,_,rfl,s.keep p,u.keep p,v.keep p,aT⟩
theorem KB(ar:right x=J){V:af}(aE:cA H ok x V):W (aK P aG 36 [V] H) λr H'=>hX H' (λL=>H.next<=L) (a_.hf x) r/\au H H':=by
 have y:=ga ar;have aC:=y.sites;obtain⟨B,ay,U,Y,aA⟩:=Iw (cf x) x.sites.length (cons x);have n:=aE;obtain⟨_,rfl,a,b,cc,d,rfl,ah,ai,ax,aM⟩:=aE;refine afb (B+1) ?_;obtain⟨zX,f⟩:∃zX,zX=H.next:=⟨_,rfl⟩
 have ak:=au.push H (.row I 5 [[a,b,cc,d,D F x.main]]);have Q:=ae.a2 H (.row I 5 [[a,b,cc,d,D F x.main]]);have G:=au.push (H.push (.row I 5 [[a,b,cc,d,D F x.main]])) (.row I 4 [a7 0 .ao .ao .ao]);have w:=ae.a2 (H.push (.row I 5 [[a,b,cc,d,D F x.main]])) (.row I 4 [a7 0 .ao .ao .ao]);have l:=G.get Q;have K:(H.push (.row I 5 [[a,b,cc,d,D F x.main]])).next=zX+1:=by rw[f];simp
 have am:∀(k:af->ae->O),e5 (H.push (.row I 5 [[a,b,cc,d,D F x.main]])) [D F 0,.ao,.ao,.ao] k=k (.ptr (zX+1) 0 0) ((H.push (.row I 5 [[a,b,cc,d,D F x.main]])).push (.row I 4 [a7 0 .ao .ao .ao])):=λk=>by rw[iL,iN,K];rfl
 rw[K]at w;rw[<-f]at l;simp only[HG,dV ah ai ax aM,kM,am,<-f];have i:=ak.trans G;generalize S:(H.push (.row I 5 [[a,b,cc,d,D F x.main]])).push (.row I 4 [a7 0 .ao .ao .ao])=M at*;have aD:M.next=zX+2:=by rw[<-S];simp[f]
 refine bP (cn l) ?_;refine e2 (VR ar (n.aB i)) λlv j E m=> ?_
 have aj:=i.trans m;have R:=m.get l;refine bP (cn R) ?_;have aw:=y2 ar;refine e2 (NS ar (n.aB aj) (y3 y) ad E.az) ?_;rintro _ c ⟨b1,b',e,rfl,p,s,t,ab⟩ u;have aa:dW (cf x) x.sites.length (cons x) 0=a_.merge (hb (cf x) x.sites.length (cons x)) x.sites.length:=rfl;rw[<-aa]at p s t ⊢;generalize T:dW (cf x) x.sites.length (cons x) 0=aV at*;have an:∀(q:af->ae->O),e5 c [D F 0,.ao,.ao,.ao] q=q (.ptr c.next 0 0) (c.push (.row I 4 [a7 0 .ao .ao .ao])):=λq=>by rw[iL,iN];rfl
 have al:=ae.a2 c (.row I 4 [a7 0 .ao .ao .ao]);have lT:cr P (c.push (.row I 4 [a7 0 .ao .ao .ao])) 33 (.ptr c.next 0 0) (.agg (a7 aV.count b1 b' e))=A (c.push (.row I 4 [a7 aV.count b1 b' e])):=by
  rw[i_ al rfl p.one s.one t.one,ae.lb]
 have v:=au.push c (.row I 4 [a7 aV.count b1 b' e]);have N:=ae.a2 c (.row I 4 [a7 aV.count b1 b' e]);have h:=(m.trans u).trans v;simp only[an,lT];rw[m1 aX];have aq:zX+2<=j.next:=by have:=m.1;omega
 have av:j.next<=c.next:=u.1
 refine(KA ar U Y rfl (zX:=zX) (zC:=c.next) ad (B+1) 0 _ (.agg (a7 aV.count b1 b' e)) ad ad (f▸n.keep λq b aJ g=>⟨ae.bq g,(i.trans h).get g⟩) (h.get l) ((E.az.below.aB (u.trans v)).keep (.le λL ap=>ad)) ⟨_,h.get w,rfl⟩ ⟨_,_,_,_,rfl,N⟩ ?_).mono λr H' z=>⟨?_,⟨by have:=z.2.1;have:=(i.trans h).1;omega,λq aJ=>by rw[z.2.2 q ad,(i.trans h).2 q aJ]⟩⟩
 ·rw[T];have o:dm c (λL=>j.next<=L) (c.push (.row I 4 [a7 aV.count b1 b' e])) (λq=>zX<=q/\q≠c.next):=λq b (aJ:j.next<=q) g=>⟨show zX<=q/\q≠c.next by have:=ae.bq g;omega,v.get g⟩
  exact⟨_,_,_,rfl,p.keep o,s.keep o,t.keep o,ab⟩
 grind[a_.hf]
end
end
section
open Go.a_
set_option maxRecDepth 2000
section
variable {H:ae}{ok ok':Nat->Prop}
theorem abz{o:List Int}{ov:af}{B:Nat}{a:Int}(g:H.get B=A (.row I 1 [[D F a]]))(aZ:aH aN H ok o ov)(b:o.length<=1000000000):W (aK P aG 100 [ov,.ptr B 0 0] H) λr H'=>r= C (decide (a∈o))/\H'=H:=by
 refine adx 0 ?_;refine bG @Ge.eq_1 (iD g) ?_;refine dK (V2 aZ b) ?_;grind[aD]
theorem ML{os:List (List Int)}{v:af}{B:Nat}{a:Int}(g:H.get B=A (.row I 1 [[D F a]]))(aZ:aH (bu aN) H ok os v)(d:os.length<=1000000000)(b:∀o∈os,o.length<=1000000000){N:Nat}:∀(j k q:Nat),k+j=os.length->j<q->(∀o∈os.take k,a∉o)->
  W (vV (aK P aG) N q v (.func (.func 100) [] [.ptr B 0 0]) (D F os.length) (D F k) H) λr H'=>∃i:Int,r= D F i/\(0<=i↔∃o∈os,a∈o)/\H'=H
 |_,_,0,_,hm,_=>ad
 |0,k,q+1,h,_,f=>by
  have m:¬(k:Int)<(os.length:Int):=ad;refine b3 @vV.eq_2 @A9.eq_1 @GA.eq_1 ?_;grind[aD]
 |j+1,k,q+1,h,hm,f=>by
  have c:k<os.length:=ad;have l:=List.getElem_mem c;obtain⟨p,w,i1,i2,i3⟩:=aZ.list (j:=(k:Int)) (a:=os[k]) ad al;have on:=ML g aZ d b (N:=N) j (k+1) q;rw[List.take_add_one,List.getElem?_eq_getElem c]at on;generalize os[k]=o at*;refine bh @vV.eq_2 @A9.eq_1 i1 i2 @qe.eq_1 @oY.eq_1 ?_;refine dK (abz g i3 (b o l)) ?_;by_cases e:a∈o
  ·refine bP e ?_;grind[aD]
  ·refine bP e ?_;grind
theorem VU{os:List (List Int)}{v:af}{B:Nat}{a:Int}(g:H.get B=A (.row I 1 [[D F a]]))(aZ:aH (bu aN) H ok os v)(c:os.length<=1000000000)(d:∀o∈os,o.length<=1000000000):W (aK P aG 99 [v,.func (.func 100) [] [.ptr B 0 0]] H) λr H'=>∃b,r= C b/\(b=J↔∃o∈os,a∈o)/\H'=H:=by
 refine afO 0 ?_;have key:W (aK P aG 146 [v,.func (.func 100) [] [.ptr B 0 0]] H) λr H'=>∃i:Int,r= D F i/\(0<=i↔∃o∈os,a∈o)/\H'=H:=by
  refine ad4 (os.length+1) ?_;refine bG @Gz.eq_1 (aZ.bg dP) ?_;exact ML g aZ c d os.length 0 _ ad ad λo h=>al
 refine bP @Il.eq_1 ?_;refine cK key ?_;rintro _ H1 ⟨i,rfl,aP,rfl⟩;refine⟨ad,?_⟩;refine bN ?_;grind[aD]
noncomputable def og(l:List Int)(os:List (List Int)):List Int:=open Classical in l.filter λa=>decide (∀o∈os,a∉o)
theorem NX{l:List Int}{os:List (List Int)}{lv ov:af}{B:Nat}(aw:l.length<=1000000000)(m:os.length<=1000000000)(s:∀o∈os,o.length<=1000000000){N:Nat}:∀(j k q:Nat) (H:ae) (r:List Int) (v:af),k+j=l.length->j<q->aY aN B bb H r v->B<=H.next->r.length<=k->aH aN H (· <B) l lv->aH (bu aN) H (· <B) os ov->
  W (w9 (aK P aG) N q ov v lv (D F l.length) (D F k) H) λw H'=>aY aN B bb H' (r++og (l.drop k) os) w/\cl B H H'
 |_,_,0,_,_,_,_,aJ,_,_,_,_,_=>ad
 |0,k,q+1,H,r,v,y,_,ar,d,K,ah,ai=>by
  have Q:¬(k:Int)<(l.length:Int):=ad;refine b3 @w9.eq_2 @B9.eq_1 @B_.eq_1 ?_;rw[List.drop_of_length_le ad];exact aD.2 ⟨by grind[og],.refl _ _⟩
 |j+1,k,q+1,H,r,v,y,aJ,ar,d,K,ah,ai=>by
  have R:k<l.length:=ad;obtain⟨p,i1,i2⟩:=ah.int (j:=(k:Int)) (a:=l[k]) ad al;have on:=NX (lv:=lv) (ov:=ov) (B:=B) aw m s (N:=N) j (k+1) q;have x:og (l.drop k) os=(if(∀o∈os,l[k]∉o)then[l[k]]else[])++og (l.drop (k+1)) os:=by
   grind[List.drop_eq_getElem_cons,og]
  rw[x];generalize l[k]=a at*;have c:=au.push H (.row I 1 [[D F a]]);have g:=ae.a2 H (.row I 1 [[D F a]]);have st:cr P (H.push (.row I 1 [[D F 0]])) 3 (.ptr H.next 0 0) (D F a)=A (H.push (.row I 1 [[D F a]])):=by
   rw[e4 (n:=1) aF (ae.a2 H (.row I 1 [[D F 0]])) rfl rfl rfl bZ];show A ((H.push _).set H.next (.row I 1 [fU _ 0 _]))=_;rw[ae.lb];rfl
  refine c_ @w9.eq_2 @B9.eq_1 i1 i2 st ?_;refine cK (VU g (ai.aB c) m s) ?_;rintro _ H1 ⟨b,rfl,O,rfl⟩;refine⟨du _,?_⟩;have i:B<=(H.push (.row I 1 [[D F a]])).next:=by have:=c.1;omega
  generalize H.push (.row I 1 [[D F a]])=G at*;cases b with
  |true=>
   have e:¬∀o∈os,a∉o:=λh=>al
   rw[if_neg e,List.nil_append];refine bP @HO.eq_1 ?_;exact(on _ r v ad ad (ar.aB c) i ad (ah.aB c) (ai.aB c)).mono λw H' z=>⟨z.1,(ek c d).trans z.2⟩
  |false=>
   have e:∀o∈os,a∉o:=λo S T=>al
   rw[if_pos e];have E:=ar.aB c;obtain⟨L,f,t,u,a3,a4,a5⟩:=E.jU (a:=a) i ad;have M:(G.push (.row I 1 [[D F a]])).next<=f.next:=by grind[ae.fR]
   have pu:=(ek c d).trans a3;refine cv @HO.eq_1 (iD g) @c2 t ?_;refine(on f (r++[a]) L ad ad u ad al (ah.e3 pu) (ai.e3 pu)).mono λw H' z=>⟨?_,pu.trans z.2⟩
   grind
theorem abC{l:List Int}{os:List (List Int)}{lv ov:af}(aw:l.length<=1000000000)(a:os.length<=1000000000)(b:∀o∈os,o.length<=1000000000)(ah:aH aN H ok l lv)(ai:aH (bu aN) H ok' os ov):W (aK P aG 46 [lv,ov] H) λr H'=>aY aN H.next bb H' (og l os) r/\au H H':=by
 refine afg (l.length+1) ?_;refine bG @HN.eq_1 (ah.bg b0) ?_;exact(NX aw a b l.length 0 _ H [] .ao ad ad (aY.nil aN _ _ _) ad aX ah.below ai.below).mono λr H' z=>⟨al,z.2⟩
