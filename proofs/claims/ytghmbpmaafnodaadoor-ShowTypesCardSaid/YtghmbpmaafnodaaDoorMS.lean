/-
  Texts of one proof, laid together: V3 Rh Ri Rj Rk Rl Rm Rn Qj Ro N1b Qk ShPb.
-/
import Derived.Test.YtghmbpmaafnodaaDoorMR
set_option linter.unusedVariables false
set_option linter.unusedSimpArgs false
set_option linter.defProp false
open Option renaming some→D,none→Z
open Bool renaming true→X,false→U
open Go.b9.aa renaming int→I,str→Y,bool→C
open Go.IntKind renaming i64→J
namespace Go.Proofs.YtghmbpmaafnodaaDoor
open Go.b9
open Nat (reduceAdd reduceLeDiff)
section
variable {H0 H:ad}{r b3 cN:Nat}{T:List Tok}{ak:aa}{s0 s:aq}{t:Tok}
def MW{a:bZ}{b6 bv c v:aa}(g:H.get cN=D (.row U 9 [a.cells b6 bv c]))(o:v.one=X):aT P H 71 (.ptr cN 0 5) v=D (H.set cN (.row U 9 [a.cells b6 v c])):=by
 rw[DY q6 g rfl (by rw[ib o];rfl) (by rw[ib o,List.all_cons,o];rfl) b1,ib o];rfl
def MX{a:bZ}{b6 bv c v:aa}(g:H.get cN=D (.row U 9 [a.cells b6 bv c]))(o:v.one=X):aT P H 71 (.ptr cN 0 6) v=D (H.set cN (.row U 9 [a.cells b6 bv v])):=by
 rw[DY q6 g rfl (by rw[ib o];rfl) (by rw[ib o,List.all_cons,o];rfl) b1,ib o];rfl
def KX(aE:T.length<=20000000)(c:bG H0 r T ak s0)(b:eY H0 H r b3 cN ak t s (bZ.cells {kind:=0,pos:=t.pos} .ar .ar .ar))(bu:eC H0 ak T):
  W (lf (aA P aw) (.ptr r 0 0) (.ptr H0.next 0 0) (.ptr b3 0 0) (.ptr cN 0 0) (C X) H) (fh H0 r T ak ((bif t.text==[108,101,116]then qi T (aC s)else pW T (aC s)).1.at t.pos) (bif t.text==[108,101,116]then qi T (aC s)else pW T (aC s)).2):=by
 have a:=c.rd.lt;have M:=c.bu.one;have ai:=b.dI;have al:=b.e0;obtain⟨m1,d1⟩:=eP b.rd (aC s);have i:=(b.mut a m1 d1).set a (bZ.cells {kind:=1,pos:=t.pos} .ar .ar .ar);have y:=b.rd;unfold bt at y;have g4:=b.g4;have gw:=b.rd.lt;have e0:=ad.aR g4;simp only[bZ.cells]at g4;simp-implicitDefEqProofs(disch:=try exact aj)only[lf,reduceAdd,reduceLeDiff,reduceIte,av,eW,y,M,g4];refine aL (lQ (c.mut i.m i.rd)) ?_;rintro _ S ⟨rfl,m3,N⟩;refine⟨m3.1,?_⟩;have q:=i.mut a m3 N.rd;have j:=q.set a (bZ.cells {kind:=1,name:=(bp T (aC s)).1,pos:=t.pos} .ar .ar .ar);have n:=q.g4;have af:=ad.aR n;simp only[bZ.cells]at n
 simp-implicitDefEqProofs(disch:=try exact aj)only[reduceAdd,reduceLeDiff,reduceIte,av,eW,n];refine aL (gr (c.mut j.m j.rd) [58] (by simp)) ?_;rintro _ V ⟨rfl,m5,A⟩;refine⟨m5.1,?_⟩;have G:=j.mut a m5 A.rd;refine aL (oP A) ?_;rintro _ aa ⟨rfl,m6,O⟩;refine⟨m6.1,?_⟩;have k:=G.mut a m6 O.rd;have u:=k.set a (bZ.cells {kind:=1,name:=(bp T (aC s)).1,cf:=(b_ T (bj T [58] (bp T (aC s)).2)).1.1,c3:=(b_ T (bj T [58] (bp T (aC s)).2)).1.2,pos:=t.pos} .ar .ar .ar);have e:=k.g4;have E:=k.g3;have ag:=ad.aR e;simp only[bZ.cells]at e;unfold qi pW d_;generalize b_ T (bj T [58] (bp T (aC s)).2)=o at*;generalize bp T (aC s)=cc at*
 cases z:t.text==[108,101,116]with
 |false=>
  simp-implicitDefEqProofs(disch:=try exact aj)only[reduceAdd,reduceLeDiff,reduceIte,av,eW,e,E,z];exact C3 c u (b7.nil _ _)
 |true=>
  have d:=u.set a (bZ.cells {kind:=2,name:=cc.1,cf:=o.1.1,c3:=o.1.2,pos:=t.pos} .ar .ar .ar);rw[ad.set_set]at d;simp-implicitDefEqProofs(disch:=try exact aj)only[reduceAdd,reduceLeDiff,reduceIte,av,eW,e,E,z];refine aL (gr (c.mut d.m d.rd) [61] (by simp)) ?_;rintro _ ab ⟨rfl,m8,B⟩;refine⟨m8.1,?_⟩;have w:=d.mut a m8 B.rd;refine aL (oO aE B) ?_;rintro v F ⟨m9,Q,he⟩;refine⟨m9.1,?_⟩;have x:=w.mut a m9 Q.rd;obtain⟨cs,rfl,L,bE⟩:=he.cells;have az:∀l,bU P l 41 1 [(0,.agg cs)]=D (.ay l 0 1 11 (D 1),.row U 11 [cs]):=λl=>jm l cs L bE
  have p:=x.g4;have ah:=ad.aR p;have ae:=ad.aR w.g4;obtain⟨K,R⟩:=eY.expr a (c':=bZ.cells {kind:=2,name:=cc.1,cf:=o.1.1,c3:=o.1.2,pos:=t.pos} (.ay F.next 0 1 11 (D 1)) .ar .ar) x (cy.aY (c8.kP λl h=>by unfold bb at*;first|omega|(simp only[ad.di]at*;omega)) _ _ he) rfl;simp only[bZ.cells]at p;simp-implicitDefEqProofs(disch:=try exact aj)only[reduceAdd,reduceLeDiff,reduceIte,av,eW,az,p,ad.gy];exact C3 c K R
def De{n:Nat}(ah:rb n)(aE:T.length<=20000000)(q:bG H0 r T ak s0)(b:eY H0 H r b3 cN ak t s (bZ.cells {kind:=0,pos:=t.pos} .ar .ar .ar)){a:Int}{e:aJ}{i:List bB}{s1 s2:aq}(aQ:a=5\/a=6)(ab:bz T (aC s)=(e,s1))(V:i_ T n s1=D (i,s2))
  {Q:aa->ad->Prop} {k:aa->ad->O} (af:∀(bI:ad) (b6 bv:aa),eY H0 bI r b3 cN ak t s2 (bZ.cells {kind:=a,pos:=t.pos} b6 bv .ar)->b7 bI (bb (cN+1)) [e] b6->c1 bI (bb (cN+1)) i bv->W (k (.tuple []) bI) Q):
  W (j (bW (.ptr r 0 0)) λap=>j (aI P 59 ap 1) λau=>j (al P H 3 au) λax=>j (an P .add 3 X ax (I J 1)) λaB=>j (bW (.ptr r 0 0)) λaD=>j (aI P 59 aD 1) λaF=>
   a8 H (aT P H 3 aF aB) λz=>j (aI P 112 (.ptr cN 0 0) 0) λaH=>a8 z (aT P z 3 aH (I J a)) λA=>aG A (aA P aw 40 [.ptr r 0 0,I J 0] A) λaK B=>bV B (bU P B.next 41 1 [(0,aK)]) λaM E=>
   j (aI P 112 (.ptr cN 0 0) 3) λaN=>a8 E (aT P E 41 aN aM) λF=>aG F (aA P aw 56 [.ptr r 0 0] F) λaO G=>j (aI P 112 (.ptr cN 0 0) 4) λaP=>a8 G (aT P G 71 aP aO) λS=>k (.tuple []) S) Q:=by
 have c:=q.rd.lt;have ae:=q.bu.one;have aW:=b.dI;have aX:=b.e0;obtain⟨m1,d1⟩:=eP b.rd (aC s);have o:=(b.mut c m1 d1).set c (bZ.cells {kind:=a,pos:=t.pos} .ar .ar .ar);have L:=b.rd;unfold bt at L;have g4:=b.g4;have gw:=b.rd.lt;have e0:=ad.aR g4;simp only[bZ.cells]at g4;simp-implicitDefEqProofs(disch:=try exact aj)only[reduceAdd,reduceLeDiff,reduceIte,av,eW,L,ae,g4];refine aL (oO aE (q.mut o.m o.rd)) ?_;rintro v d ⟨m4,M,he⟩;refine⟨m4.1,?_⟩;rw[ab]at M he;have y:=o.mut c m4 M.rd;obtain⟨cs,rfl,R,bE⟩:=he.cells;have az:∀l,bU P l 41 1 [(0,.agg cs)]=D (.ay l 0 1 11 (D 1),.row U 11 [cs]):=λl=>jm l cs R bE
 have x:=y.g4;have aU:=ad.aR x;have aS:=ad.aR o.g4;obtain⟨p,ai⟩:=eY.expr c (c':=bZ.cells {kind:=a,pos:=t.pos} (.ay d.next 0 1 11 (D 1)) .ar .ar) y (cy.aY (c8.kP λl h=>by unfold bb at*;first|omega|(simp only[ad.di]at*;omega)) _ _ he) rfl;have ao:cN<((d.set cN (.row U 9 [bZ.cells {kind:=a,pos:=t.pos} (.ay d.next 0 1 11 (D 1)) .ar .ar])).push (.row U 11 [cs])).next:=ad.aR p.g4
 simp only[bZ.cells]at x ao;simp-implicitDefEqProofs(disch:=try exact aj)only[reduceAdd,reduceLeDiff,reduceIte,av,eW,az,x,ad.gy];refine aL (ah aE (q.mut p.m p.rd) i s2 V) ?_;rintro bv u ⟨m7,ag,K⟩;refine⟨m7.1,?_⟩;have w:=p.mut c m7 ag.rd;have am:=ai.aY (c8.mut m7 (ok':=bb (cN+1)) (by unfold bb;omega) λ_ h=>h);have N:c1 u (bb (cN+1)) i bv:=K.aY (dX.kP λl h=>by unfold bb at*;simp only[bZ.cells]at h;omega);have iM:=K.ee;have st:=MW w.g4 iM;have aV:=ad.aR w.g4;simp-implicitDefEqProofs(disch:=try exact aj)only[bd,br,dS,Nat.zero_add];rw[st,th (by simp only[ad.di];omega)];have ks:dX u (bb (cN+1)) (u.set cN (.row U 9 [bZ.cells {kind:=a,pos:=t.pos} (.ay d.next 0 1 11 (D 1)) bv .ar])) (bb (cN+1)):=dX.set _ (by unfold bb;omega) λ_ h=>h
 exact af _ _ _ (w.set c _) (am.aY ks.ex) (N.aY ks)
end
def J2{n:Nat}(am:rb n):rj (n+1):=by
 intro H r T ak s aE a e s' h;refine cA (λ_=>KK 0) ?_;have i:=a.rd.lt;have ab:=a.bu.one;have ax:=aM.push H (.row U 9 [[I J 0,Y [],Y [],I J 0,.ar,.ar,.ar,I J 0,I J 0]]);simp-implicitDefEqProofs(disch:=try exact aj)only[qU,reduceAdd,reduceLeDiff,reduceIte,av,eW];refine aL (hD (a.rd.aK ax) (a.bu.aK ax)) ?_;rintro _ o ⟨rfl,N⟩;refine⟨N.1,?_⟩;have n2:=N.1;simp only[ad.bQ]at n2;generalize bn:ao T s.at_=t;have a9:=((ax.trans N).bs (.row U 4 [[I J t.kind,Y t.text,I J t.n,I J t.pos]])).bs (.row U 9 [bZ.cells {kind:=0,pos:=t.pos} .ar .ar .ar])
 have bA:=(aM.push o (.row U 4 [[I J t.kind,Y t.text,I J t.n,I J t.pos]])).bs (.row U 9 [bZ.cells {kind:=0,pos:=t.pos} .ar .ar .ar]);have b:eY H ((o.push (.row U 4 [[I J t.kind,Y t.text,I J t.n,I J t.pos]])).push (.row U 9 [bZ.cells {kind:=0,pos:=t.pos} .ar .ar .ar])) r o.next (o.next+1) ak t s (bZ.cells {kind:=0,pos:=t.pos} .ar .ar .ar):=
  ⟨a9.mut _,a.rd.aK a9,bA.get (N.get (ad.bx H _)),by simp-implicitDefEqProofs(disch:=try exact aj)only[dw],ad.bx (o.push _) _,af,af⟩
 simp-implicitDefEqProofs(disch:=try exact aj)only[qU,reduceAdd,reduceLeDiff,reduceIte,av,eW,Tok.v];simp only[bZ.cells]at b;generalize (o.push (.row U 4 [[I J t.kind,Y t.text,I J t.n,I J t.pos]])).push (.row U 9 [[I J 0,Y [],Y [],I J 0,.ar,.ar,.ar,I J t.pos,I J 0]])=aH at b ⊢;have u:eY H aH r o.next (o.next+1) ak t s (bZ.cells {kind:=0,pos:=t.pos} .ar .ar .ar):=b
 generalize o.next=b3 at u ⊢
 clear b;simp only[pf,bn,cS]at h;obtain⟨⟨bl,s1⟩,c,aP⟩:=h;simp only[aS,bT]at aP;obtain⟨rfl,rfl⟩:=aP;have F:=a.mut u.m u.rd;have be:∀(H':ad),aM aH H'->(aW T s [118,97,114]||aW T s [108,101,116])=X->W (lf (aA P aw) (.ptr r 0 0) (.ptr H.next 0 0) (.ptr b3 0 0) (.ptr (b3+1) 0 0) (C X) H') (fh H r T ak (bl.at t.pos) s1):=by
  intro H' a8 M;rw[M,aU,aS]at c;have:=KX aE a (u.mut i (a8.mut _) (u.rd.aK a8)) a.bu;rw[c]at this;exact this
 refine aL (dk F.rd F.bu [118,97,114] (by simp)) ?_;rintro _ bg ⟨rfl,K⟩;refine⟨K.1,?_⟩;cases M:aW T s [118,97,114]with
 |true=>
  simp-implicitDefEqProofs(disch:=try exact aj)only[reduceAdd,reduceLeDiff,reduceIte,av];exact be bg K (by rw[M];rfl)
 |false=>
  simp-implicitDefEqProofs(disch:=try exact aj)only[reduceAdd,reduceLeDiff,reduceIte,av];refine aL (dk (F.aK K).rd (F.aK K).bu [108,101,116] (by simp)) ?_;rintro _ bh ⟨rfl,bc⟩;refine⟨bc.1,?_⟩;have aB:=K.trans bc;cases hle:aW T s [108,101,116]with
  |true=>exact be bh aB (by rw[hle,Bool.or_true])
  |false=>
   rw[M,hle,Bool.or_false,aO]at c;simp-implicitDefEqProofs(disch:=try exact aj)only[lf,reduceAdd,reduceLeDiff,reduceIte,av];have ae:=F.aK aB;refine aL (dk ae.rd ae.bu [105,102] (by simp)) ?_;rintro _ bB ⟨rfl,aD⟩;refine⟨aD.1,?_⟩;have ba:=aB.trans aD;have ag:=ae.aK aD;have R:=u.mut i (ba.mut _) (u.rd.aK ba);have bO:=u.dI;cases aZ:aW T s [105,102]with
   |true=>
    simp only[aZ,aU,cS]at c;obtain⟨⟨y,s2⟩,aa,z⟩:=c;simp-implicitDefEqProofs(disch:=try exact aj)only[ep,aU];refine De am aE a R (.inl rfl) (e:=(bz T (aC s)).1) (s1:=(bz T (aC s)).2) rfl aa (k:=λ_ L=>aG L (aA P aw 23 [.ptr r 0 0,Y [101,108,115,101]] L) _) ?_;intro bI b6 bv iF an ap;have a4:=a.mut iF.m iF.rd;refine aL (dk a4.rd a4.bu [101,108,115,101] (by simp)) ?_;rintro _ aI ⟨rfl,j⟩;refine⟨j.1,?_⟩;have d:=iF.mut i (j.mut _) (iF.rd.aK j);have a5:=an.aK j;have a6:=ap.aY (dX.aK j λ_ h=>h);cases aX:aW T s2 [101,108,115,101]with
    |false=>
     simp only[aX,aO,aS,bT]at z;obtain⟨rfl,rfl⟩:=z;simp-implicitDefEqProofs(disch:=try exact aj)only[reduceAdd,reduceLeDiff,reduceIte,av];exact oR a d a5 a6 (c1.nil _ _)
    |true=>
     simp only[aX,aU,cS]at z;obtain⟨⟨bj,e7⟩,bm,aQ⟩:=z;simp only[aS,bT]at aQ;obtain⟨rfl,rfl⟩:=aQ;obtain⟨B,V⟩:=eP d.rd (aC s2);have fl:=d.mut i B V;have E:=d.rd;unfold bt at E;have bw:=d.rd.lt;simp-implicitDefEqProofs(disch:=try exact aj)only[reduceAdd,reduceLeDiff,reduceIte,av,E,ab];refine aL (am aE (a.mut fl.m fl.rd) bj e7 bm) ?_;rintro bk w ⟨q,G,aV⟩;refine⟨q.1,?_⟩;have p:=fl.mut i q G.rd;have bL:=ad.aR p.g4;have bM:=ad.aR fl.g4;have st:=MX p.g4 aV.ee;simp-implicitDefEqProofs(disch:=try exact aj)only[bd,br,dS,Nat.zero_add];rw[st,th (by simp only[ad.di];omega)];have a7:dX aI (bb (b3+1+1)) w (bb (b3+1+1)):=dX.mut (B.trans q) (by unfold bb;omega) λ_ h=>h
     have ks:dX w (bb (b3+1+1)) (w.set (b3+1) (.row U 9 [bZ.cells {kind:=5,pos:=t.pos} b6 bv bk])) (bb (b3+1+1)):=dX.set _ (by unfold bb;omega) λ_ h=>h
     exact oR a (p.set i _) ((a5.aY a7.ex).aY ks.ex) ((a6.aY a7).aY ks) ((aV.aY (dX.kP λl h=>by unfold bb at*;omega)).aY ks)
   |false=>
    simp only[aZ,aO]at c;simp-implicitDefEqProofs(disch:=try exact aj)only[reduceAdd,reduceLeDiff,reduceIte,av];refine aL (dk ag.rd ag.bu [119,104,105,108,101] (by simp)) ?_;rintro _ bC ⟨rfl,O⟩;refine⟨O.1,?_⟩;have ah:=ag.aK O;have S:=R.mut i (O.mut _) (R.rd.aK O);cases a3:aW T s [119,104,105,108,101]with
    |true=>
     simp only[a3,aU,cS]at c;obtain⟨⟨y,s2⟩,aa,z⟩:=c;simp only[aS,bT]at z;obtain⟨rfl,rfl⟩:=z;simp-implicitDefEqProofs(disch:=try exact aj)only[ep,aU];refine De am aE a S (.inr rfl) (e:=(bz T (aC s)).1) (s1:=(bz T (aC s)).2) rfl aa (k:=λ_ L=>gq (aA P aw) (.ptr H.next 0 0) (.ptr (b3+1) 0 0) L) ?_;exactλbI b6 bv iF an ap=>oR a iF an ap (c1.nil _ _)
    |false=>
     simp only[a3,aO]at c;simp-implicitDefEqProofs(disch:=try exact aj)only[reduceAdd,reduceLeDiff,reduceIte,av];refine aL (dk ah.rd ah.bu [114,101,116,117,114,110] (by simp)) ?_;rintro _ bD ⟨rfl,Q⟩;refine⟨Q.1,?_⟩;have ai:=ah.aK Q;have x:=S.mut i (Q.mut _) (S.rd.aK Q);cases a2:aW T s [114,101,116,117,114,110]with
     |true=>
      simp only[a2,aU,aS]at c;obtain⟨m9,d9⟩:=eP x.rd (aC s);have d:=(x.mut i m9 d9).set i (bZ.cells {kind:=7,pos:=t.pos} .ar .ar .ar);have a1:=x.rd;unfold bt at a1;have g8:=x.g4;have bN:=x.rd.lt;have bH:=ad.aR g8;simp only[bZ.cells]at g8;simp-implicitDefEqProofs(disch:=try exact aj)only[reduceAdd,reduceLeDiff,reduceIte,av,eW,a1,ab,g8];refine aL (dk d.rd (a.mut d.m d.rd).bu [59] (by simp)) ?_;rintro _ bi ⟨rfl,aF⟩;refine⟨aF.1,?_⟩;have fl:=d.mut i (aF.mut _) (d.rd.aK aF);unfold vM at c;cases aT:aW T (aC s) [59]with
      |true=>
       simp only[aT,aU,bT]at c;obtain⟨rfl,rfl⟩:=c;simp-implicitDefEqProofs(disch:=try exact aj)only[reduceAdd,reduceLeDiff,reduceIte,av,Bool.not_true];exact Dr a fl (b7.nil _ _)
      |false=>
       simp only[aT,aO,bT]at c;obtain⟨rfl,rfl⟩:=c;simp-implicitDefEqProofs(disch:=try exact aj)only[reduceAdd,reduceLeDiff,reduceIte,av,Bool.not_false];refine aL (oO aE (a.mut fl.m fl.rd)) ?_;rintro v w ⟨q,G,he⟩;refine⟨q.1,?_⟩;have p:=fl.mut i q G.rd;obtain⟨cs,rfl,y,bE⟩:=he.cells;have az:∀l,bU P l 41 1 [(0,.agg cs)]=D (.ay l 0 1 11 (D 1),.row U 11 [cs]):=λl=>jm l cs y bE
       have A:=p.g4;have bq:=ad.aR A;have bp:=ad.aR fl.g4;obtain⟨mz,aq⟩:=eY.expr i (c':=bZ.cells {kind:=7,pos:=t.pos} (.ay w.next 0 1 11 (D 1)) .ar .ar) p (cy.aY (c8.kP λl h=>by unfold bb at*;first|omega|(simp only[ad.di]at*;omega)) _ _ he) rfl;simp only[bZ.cells]at A;simp-implicitDefEqProofs(disch:=try exact aj)only[reduceAdd,reduceLeDiff,reduceIte,av,eW,az,A,ad.gy];exact Dr a mz aq
     |false=>
      simp only[a2,aO]at c;simp-implicitDefEqProofs(disch:=try exact aj)only[reduceAdd,reduceLeDiff,reduceIte,av];refine aL (dk ai.rd ai.bu [112,114,105,110,116] (by simp)) ?_;rintro _ aI ⟨rfl,j⟩;refine⟨j.1,?_⟩;have bG:=ai.aK j;have d:=x.mut i (j.mut _) (x.rd.aK j);have g9:=d.g4;have bw:=d.rd.lt;have bJ:=ad.aR g9;cases a0:aW T s [112,114,105,110,116]with
      |true=>
       simp only[a0,aU,aS]at c;obtain⟨B,V⟩:=eP d.rd (aC s);have fl:=(d.mut i B V).set i (bZ.cells {kind:=8,pos:=t.pos} .ar .ar .ar);have E:=d.rd;unfold bt at E;simp only[bZ.cells]at g9;unfold vE at c;simp only[bT]at c;obtain⟨rfl,rfl⟩:=c;simp-implicitDefEqProofs(disch:=try exact aj)only[reduceAdd,reduceLeDiff,reduceIte,av,eW,E,ab,g9];refine aL (oO aE (a.mut fl.m fl.rd)) ?_;rintro v w ⟨q,G,he⟩;refine⟨q.1,?_⟩;have p:=fl.mut i q G.rd;obtain⟨cs,rfl,y,bE⟩:=he.cells;have az:∀l,bU P l 41 1 [(0,.agg cs)]=D (.ay l 0 1 11 (D 1),.row U 11 [cs]):=λl=>jm l cs y bE
       have A:=p.g4;have bq:=ad.aR A;have bp:=ad.aR fl.g4;obtain⟨mz,aq⟩:=eY.expr i (c':=bZ.cells {kind:=8,pos:=t.pos} (.ay w.next 0 1 11 (D 1)) .ar .ar) p (cy.aY (c8.kP λl h=>by unfold bb at*;first|omega|(simp only[ad.di]at*;omega)) _ _ he) rfl;simp only[bZ.cells]at A;simp-implicitDefEqProofs(disch:=try exact aj)only[reduceAdd,reduceLeDiff,reduceIte,av,eW,az,A,ad.gy];refine aL (gr (a.mut mz.m mz.rd) [59] (by simp)) ?_;rintro _ bF ⟨rfl,au,bo⟩;refine⟨au.1,?_⟩;exact oR a (mz.mut i au bo.rd) (aq.aY (c8.mut au (by unfold bb;omega) λ_ h=>h)) (c1.nil _ _) (c1.nil _ _)
      |false=>
       simp only[a0,aO,aS]at c;have aJ:=g9;simp only[bZ.cells]at aJ;simp-implicitDefEqProofs(disch:=try exact aj)only[reduceAdd,reduceLeDiff,reduceIte,av,eW,aJ];refine aL (JZ aE (a.mut d.m d.rd) t.pos) ?_;rintro v bi ⟨B,al,he⟩;refine⟨B.1,?_⟩;have fl:=d.mut i B al.rd;obtain⟨cs,rfl,y,bE⟩:=he.cells;have ph:List.take 9 cs=cs:=List.take_of_length_le af;have aN:=fl.g2;have bK:=ad.aR aN;rw[c]at he al;simp-implicitDefEqProofs(disch:=try exact aj)only[reduceAdd,reduceLeDiff,reduceIte,av,eW,aN,y,bE,ph,List.append_nil];exact a_.2 (fh.ret a fl.m al.rd (bf _) he af _)
structure Fz(n:Nat):Prop where
 stmt:rj n
 block:rb n
def F5:∀n,n<=900000000->Fz n:=by
 intro n
 induction n using Nat.strongRecOn with
 |_ n a=>
  intro d;cases n with
  |zero=>exact⟨λ_ _ _ _ h=>by simp[pf]at h,λ_ _ _ _ h=>by simp[i_]at h⟩
  |succ n=>
   have i:=a n af af;exact⟨J2 i.block,JE af λk c=>(a k af af).stmt⟩
section
variable {H H' H1:ad}{r:Nat}{T:List Tok}{ak:aa}{s s':aq}
variable {b c n2 esz:Nat}{z:List aa}{x:aa}{rest:List aa}{l:List b5}{v:aa}
def fH.vS(h:fH H1 H r b c n2 esz T ak z x rest l v s){s0:aq}(i:bG H1 r T ak s0)(a:List aa):fH H1 (H.set c (.row U esz [x::v::a])) r b c n2 esz T ak z x a l v s:=by
 have bE:=h.bE;have bX:=h.bX;have ck:=h.ck;have dr:=h.dr;have iM:=h.iM;have lc:=ad.aR h.cell;have e:h6 r H1.next H1 (H.set c (.row U esz [x::v::a])):=h.m.cz (.inr af) _
 exact⟨i.mG e (by unfold bt;rw[ad.get_set_other af];exact h.cC.rd),by rw[ad.get_set_other af];exact h.two,ad.get_set_same lc,h.gv.aY λk x d g=>⟨d,by unfold bb at d;rw[ad.get_set_other af];exact g⟩,e,bE,bX,iM,ck,by simp;omega⟩
def fH.JG(h:fH H1 H r b c n2 esz T ak z x rest l v s)(s2:aq):fH H1 (H.set r (.row U 5 [[ak,I J s2.at_,I J s2.bO,I J s2.aD,I J s2.cO]])) r b c n2 esz T ak z x rest l v s2:=by
 obtain⟨m,a⟩:=eP h.cC.rd s2;exact h.mut m (h.cC.mut m a)
def sl{N:Nat}{Q:aa->ad->Prop}{cc:aB}{s0:aq}(x:bG H1 r T ak s0){l':List b5}
  (k:∀H v,fH H1 H r b c n2 7 T ak z (Y cc) rest l' v s'->W (km (aA P aw) N (.ptr r 0 0) (.ptr b 0 0) (.ptr c 0 0) H) Q):
  ∀(n m:Nat) (H:ad) (s:aq) (l:List b5) (v:aa),n<m->l.length+n<=1000000000->fH H1 H r b c n2 7 T ak z (Y cc) rest l v s->oI T n l s=D (l',s')->W (kn (aA P aw) N m (.ptr r 0 0) (.ptr b 0 0) (.ptr c 0 0) H) Q
 |_,0,_,_,_,_,a0,_,_,_=>af
 |0,m+1,_,_,_,_,_,_,_,a=>by cases a
 |n+1,m+1,H,s,l,v,a0,bn,h,a=>by
  rw[oI]at a;rw[kn];unfold sA;refine aL (jN h.cC.rd) ?_;rintro _ bh ⟨rfl,rfl⟩;refine⟨bf _,?_⟩;by_cases ap:s.aD=0
  ·have i:(s.aD==0)=true:=by simpa using ap
   simp-implicitDefEqProofs(disch:=try exact aj)only[bd,br,i];refine jw (dk h.cC.rd h.cC.bu [41] (by simp)) ?_;rintro _ bi ⟨rfl,ae⟩;refine⟨ae.1,?_⟩;have u:=h.mut (ae.mut _) (h.cC.aK ae);rw[i,Bool.true_and]at a;cases aF:aW T s [41]with
   |true=>
    rw[aF]at a;cases a;simp-implicitDefEqProofs(disch:=try exact aj)only[bd,br,i,Bool.not_true];exact k _ _ u
   |false=>
    rw[aF,Bool.not_false,aU]at a;simp-implicitDefEqProofs(disch:=try exact aj)only[bd,br,i,Bool.not_false];refine aL (hD u.cC.rd u.cC.bu) ?_;rintro _ o ⟨rfl,ag⟩;refine⟨ag.1,?_⟩;have e:=u.mut (ag.mut _) (u.cC.aK ag);have V:=λH'=>e.gv.mM H'
    have bo:=e.gv.rd;have E:=e.cell;have bp:=e.gv.one;have go:((ao T s.at_).kind==1&&l.length==6)=X->W (aG o (aA P aw 24 [.ptr r 0 0,I J 4] o) λbq d=>km (aA P aw) N (.ptr r 0 0) (.ptr b 0 0) (.ptr c 0 0) d) Q:=λhm=>by
     rw[hm,aU]at a;cases a;refine aL (jM e.cC 4) ?_;rintro _ bk ⟨rfl,m5,a4⟩;exact⟨m5.1,k _ _ (e.mut m5 a4)⟩
    have on:((ao T s.at_).kind==1&&l.length==6)=U->W (aG o (aA P aw 26 [.ptr r 0 0] o) λa7 d=>
      j (aI P 73 (.ptr c 0 0) 1) λG=>j (al P d 23 G) λK=>bV d (bU P (d).next 23 1 [(0,a7)]) λa9 L=>aG L (cR P L [23,23] K a9) λa_ au=>j (aI P 73 (.ptr c 0 0) 1) λba=>a8 au (aT P au 23 ba a_) λax=>
      bif ((bg (al P o 23 G) K&&(bg (al P d 23 G) K&&(bg (al P L 23 G) K&&X)))&&X)then(aG ax (aA P aw 23 [.ptr r 0 0,Y [41]] ax) λbb M=>
      j (fk .not bb) λbc=>
      aV (D bc) (aG M (aA P aw 27 [.ptr r 0 0,Y [44]] M) λbs az=>
      aG az (aA P aw 23 [.ptr r 0 0,Y [41]] az) λbe O=>
      aV (D be) (aG O (aA P aw 24 [.ptr r 0 0,I J 2] O) λbt aY=>
      kn (aA P aw) N m (.ptr r 0 0) (.ptr b 0 0) (.ptr c 0 0) aY) (kn (aA P aw) N m (.ptr r 0 0) (.ptr b 0 0) (.ptr c 0 0) O)) (kn (aA P aw) N m (.ptr r 0 0) (.ptr b 0 0) (.ptr c 0 0) M))else Z) Q:=λhm=>by
     rw[hm,aO]at a;refine aL (vQ e.cC) ?_;rintro _ am ⟨rfl,m6,a5⟩;refine⟨m6.1,?_⟩;have y:=e.mut m6 a5;have aZ:=y.cell;have a1:=y.gv.rd;generalize dD T s=q at y a;obtain⟨p,aH⟩:=q;obtain⟨ai,aN,aS,aX,an,aQ,aR,A⟩:=y.add x af p;have a2:=q1 qq am.next (cs:=p.cells) rfl rfl
     have bm:(am.push (.row U 4 [p.cells])).next<=aN.next:=by simp only[ad.bQ];exact aX
     have aC:=ib an;simp only[aa.cells]at aC;simp-implicitDefEqProofs(disch:=try exact aj)only[bd,br,dS,al,cD,aT,cD,Nat.reduceAdd,Nat.reduceLeDiff,reduceIte,aa.cells,cK,dA,dw,aC,aZ,a2,aS,eK,aQ,aR,an,a1,E];refine aL (dk A.cC.rd A.cC.bu [41] (by simp)) ?_;rintro _ aP ⟨rfl,ah⟩;refine⟨ah.1,?_⟩;have R:=A.mut (ah.mut _) (A.cC.aK ah);simp only at a;cases aE:aW T aH [41]with
     |true=>
      rw[aE,aU]at a;simp-implicitDefEqProofs(disch:=try exact aj)only[bd,br,Bool.not_true];exact sl x k n m aP _ _ ai af (by simp;omega) R a
     |false=>
      rw[aE,aO]at a;simp-implicitDefEqProofs(disch:=try exact aj)only[bd,br,Bool.not_false];refine aL (gr R.cC [44] (by simp)) ?_;rintro _ bl ⟨rfl,m9,a6⟩;refine⟨m9.1,?_⟩;have B:=R.mut m9 a6;refine aL (dk B.cC.rd B.cC.bu [41] (by simp)) ?_;rintro _ aJ ⟨rfl,ab⟩;refine⟨ab.1,?_⟩;have d:=B.mut (ab.mut _) (B.cC.aK ab);unfold lB at a;cases he:aW T (bj T [44] aH) [41]with
      |true=>
       rw[he,aU]at a;simp-implicitDefEqProofs(disch:=try exact aj)only[bd,br];refine aL (jM d.cC 2) ?_;rintro _ aM ⟨rfl,m11,a3⟩;refine⟨m11.1,?_⟩;exact sl x k n m aM _ _ ai af (by simp;omega) (d.mut m11 a3) a
      |false=>
       rw[he,aO]at a;simp-implicitDefEqProofs(disch:=try exact aj)only[bd,br];exact sl x k n m aJ _ _ ai af (by simp;omega) d a
    cases w:(ao T s.at_).kind==1 with
    |true=>
     rw[w]at go on;cases F:l.length==6 with
     |true=>
      have S:((l.length:Int)==6)=true:=by
       have:l.length=6:=by simpa using F
       simp;omega
      rw[F]at go;simp-implicitDefEqProofs(disch:=try exact aj)only[reduceAdd,reduceLeDiff,reduceIte,av,Tok.v,E,V,w,S];exact go rfl
     |false=>
      have S:((l.length:Int)==6)=false:=by
       have:l.length≠6:=by simpa using F
       simp;omega
      rw[F]at on;simp-implicitDefEqProofs(disch:=try exact aj)only[reduceAdd,reduceLeDiff,reduceIte,av,Tok.v,E,V,w,S];exact on rfl
    |false=>
     rw[w]at on;simp-implicitDefEqProofs(disch:=try exact aj)only[reduceAdd,reduceLeDiff,reduceIte,av,Tok.v,E,V,w];exact on rfl
  ·have i:(s.aD==0)=false:=by simpa using ap
   rw[i]at a;cases a;simp-implicitDefEqProofs(disch:=try exact aj)only[bd,br,i];exact k _ _ h
end
section
variable {H H' H1:ad}{r:Nat}{T:List Tok}{ak:aa}{s s' s0:aq}
abbrev nR:List aa:=[Y [],.ar,C U,Y [],I J 0,.ar,I J 0]
abbrev gQ(has:Bool)(dF:aB)(rd a:Int):List aa:=[C has,Y dF,I J rd,.ar,I J a]
def tm(H1:ad)(r:Nat)(T:List Tok)(ak:aa)(f:Fn)(s':aq)(w:aa)(H':ad):Prop:=(∃cs,w= .agg cs/\hR.V H' (bb H1.next) f cs)/\b2 r H1 H'/\bG H' r T ak s'
def Dd{N n:Nat}(Q:n<=900000000)(aE:T.length<=20000000)(p:bG H1 r T ak s0){c n2:Nat}{cc dF:aB}{has:Bool}{rd e:Int}{l:List b5}{v:aa}{i:List bB}
  (h:fH H1 H r H1.next c n2 7 T ak nR (Y cc) (gQ has dF rd e) l v s) (O:i_ T n s=D (i,s')):
  W (nn (aA P aw) N (.ptr r 0 0) (.ptr H1.next 0 0) (.ptr c 0 0) H) (tm H1 r T ak ⟨cc,l,has,dF,rd,i,e⟩ s'):=by
 unfold nn;refine aL ((F5 n Q).block aE h.cC i s' O) ?_;rintro w o ⟨m2,R,q⟩;refine⟨m2.1,?_⟩;have a:=h.mut m2 R;have bE:=a.bE;have bX:=a.bX;have iM:=a.iM;have ck:=a.ck;have dr:=a.dr;have V:=h.dr;have K:=a.cell;have A:=a.gv.one;have B:=q.ee;have M:=ib A;have y:=ib B;simp only[aa.cells]at M y;have j:=a.vS p [C has,Y dF,I J rd,w,I J e];have u:=j.two;have L:=j.cell;have S:=ad.aR u;have z:h6 r H1.next H1 ((o.set c (.row U 7 [Y cc::v::[C has,Y dF,I J rd,w,I J e]])).set H1.next (.row U 7 [Y cc::v::[C has,Y dF,I J rd,w,I J e]])):=j.m.cz (.inr (bf _)) _
 have d:dd o (bb n2) ((o.set c (.row U 7 [Y cc::v::[C has,Y dF,I J rd,w,I J e]])).set H1.next (.row U 7 [Y cc::v::[C has,Y dF,I J rd,w,I J e]])) (bb H1.next):=λk x d g=>⟨by unfold bb at d ⊢;omega,by unfold bb at d;rw[ad.get_set_other af,ad.get_set_other af];exact g⟩
 have G:=a.gv.aY d;have F:c1 _ (bb H1.next) i w:=q.aY (dd.trans (dd.le (ok':=bb n2) λk d=>by unfold bb at d ⊢;omega) d).s;have E:=p.mG z (s':=s') (by unfold bt;rw[ad.get_set_other af];exact j.cC.rd);simp-implicitDefEqProofs(disch:=try exact aj)only[bd,br,dS,al,cD,aT,cD,Nat.reduceAdd,Nat.reduceLeDiff,reduceIte,aa.cells,cK,dA,dw,K,L,u,A,B,y];exact a_.2 ⟨⟨_,rfl,v,w,rfl,G.ay,F⟩,z.mt,E⟩
def JR{N n:Nat}(x:n<=900000000)(aE:T.length<=20000000)(j:bG H1 r T ak s0){c n2:Nat}{cc:aB}{i:Int}{l:List b5}{v:aa}{q:List bB}
  (h:fH H1 H r H1.next c n2 7 T ak nR (Y cc) (gQ U [] 0 i) l v s) (a:i_ T n (gz T (bj T [41] s)).2=D (q,s')):
  W (km (aA P aw) N (.ptr r 0 0) (.ptr H1.next 0 0) (.ptr c 0 0) H) (tm H1 r T ak ⟨cc,l,(gz T (bj T [41] s)).1.1,(gz T (bj T [41] s)).1.2.1,(gz T (bj T [41] s)).1.2.2,q,i⟩ s'):=by
 unfold km;refine aL (gr h.cC [41] (by simp)) ?_;rintro _ Q ⟨rfl,m2,M⟩;refine⟨m2.1,?_⟩;have e:=h.mut m2 M;generalize bj T [41] s=s2 at e a ⊢;refine aL (dk e.cC.rd e.cC.bu [58] (by simp)) ?_;rintro _ B ⟨rfl,p⟩;refine⟨p.1,?_⟩;have k:=e.mut (p.mut _) (e.cC.aK p);unfold gz at a ⊢;cases A:aW T s2 [58]with
 |false=>
  rw[A,aO]at a;simp-implicitDefEqProofs(disch:=try exact aj)only[bd,br];exact Dd x aE j k a
 |true=>
  rw[A,aU]at a;have u:fH H1 (B.set r (.row U 5 [[ak,I J (aC s2).at_,I J s2.bO,I J s2.aD,I J s2.cO]])) r H1.next c n2 7 T ak nR (Y cc) (gQ U [] 0 i) l v (aC s2):=k.JG (aC s2)
  have z:=k.cC.rd;unfold bt at z;have w:=u.vS j (gQ X [] 0 i);have F:=u.cell;have L:=k.cC.bu.one;have K:IntKind.i64.wrap (s2.at_+1)=(aC s2).at_:=rfl;simp-implicitDefEqProofs(disch:=try exact aj)only[bd,br,dS,c7,al,cD,aT,cD,Nat.reduceAdd,Nat.reduceLeDiff,reduceIte,aa.cells,cK,dA,z,L,K,F];refine aL (oP w.cC) ?_;rintro _ R ⟨rfl,m6,O⟩;refine⟨m6.1,?_⟩;have m:=w.mut m6 O;have G:=m.cell;generalize b_ T (aC s2)=o at m a ⊢;obtain⟨⟨y,d⟩,S⟩:=o;have E:=m.vS j (gQ X y d i);simp-implicitDefEqProofs(disch:=try exact aj)only[bd,br,dS,c7,al,cD,aT,cD,Nat.reduceAdd,Nat.reduceLeDiff,reduceIte,aa.cells,cK,dA,G]
  exact Dd x aE j E a
end
section
variable {H H' H1:ad}{r:Nat}{T:List Tok}{ak:aa}{s s' s0:aq}
def JS{n:Nat}(ag:n<=900000000)(aE:T.length<=20000000)(h:bG H r T ak s){f:Fn}(w:mI T n s=D (f,s')):W (aA P aw 28 [.ptr r 0 0] H) (tm H r T ak f s'):=by
 refine cA (λ_=>Kf (n+1)) ?_;have ae:=h.rd.lt;unfold mI at w;obtain⟨⟨l',ap⟩,i,ab⟩:=cS.1 w;obtain⟨⟨au,qX⟩,y,A⟩:=cS.1 ab;simp only[aS,bT]at A;obtain⟨rfl,rfl⟩:=A;simp only at y;have c:=aM.push H (.row U 7 [nR]);have L:=ad.bx H (.row U 7 [nR]);simp-implicitDefEqProofs(disch:=try exact aj)only[sz,bd,br,List.length_cons,List.length_nil,Nat.zero_add,Nat.reduceAdd];refine aL (hD (h.rd.aK c) (h.aK c).bu) ?_;rintro _ H1 ⟨rfl,a⟩;refine⟨a.1,?_⟩;have ai:=a.1;simp only[ad.bQ]at ai;have E:=(h.aK c).aK a;have M:=a.get L;generalize ao T s.at_=q;obtain⟨k,x,z,p⟩:=q;have j:=aM.push H1 (.row U 7 [Y []:: .ar::gQ U [] 0 p])
 have R:=ad.bx H1 (.row U 7 [Y []:: .ar::gQ U [] 0 p]);simp-implicitDefEqProofs(disch:=try exact aj)only[bd,br,dS,al,cD,aT,cD,Nat.reduceAdd,Nat.reduceLeDiff,reduceIte,aa.cells,cK,dA,dw,ad.gy,Tok.v];refine aL (lQ (E.aK j)) ?_;rintro _ m ⟨rfl,m3,e⟩;refine⟨m3.1,?_⟩;have am:=m3.1;simp only[ad.bQ]at am;have N:=m3.get (j.get M) af;have u:=m3.get R af;have dI:=ad.aR u;generalize bp T s=o at e i ⊢;obtain⟨cc,e7⟩:=o;simp only at e i ⊢;have ah:=((((c.mut (· =r)).trans (a.mut _)).trans (j.mut _)).trans m3);have B:=ah.cz (l:=H1.next) (.inr af) (.row U 7 [Y cc:: .ar::gQ U [] 0 p]);have F:=h.mut B (show bt _ r ak e7 by unfold bt;rw[ad.get_set_other af];exact e.rd)
 have O:(m.set H1.next (.row U 7 [Y cc:: .ar::gQ U [] 0 p])).get H.next=D (.row U 7 [nR]):=by rw[ad.get_set_other af];exact N
 have S:(m.set H1.next (.row U 7 [Y cc:: .ar::gQ U [] 0 p])).get H1.next=D (.row U 7 [Y cc:: .ar::gQ U [] 0 p]):=ad.get_set_same dI
 simp-implicitDefEqProofs(disch:=try exact aj)only[bd,br,dS,al,cD,aT,cD,Nat.reduceAdd,Nat.reduceLeDiff,reduceIte,aa.cells,cK,dA,dw,u];refine aL (gr F [40] (by simp)) ?_;rintro _ d ⟨rfl,m5,G⟩;refine⟨m5.1,?_⟩;have an:=m5.1;simp only[ad.di]at an;have Q:=m5.get O af;have V:=m5.get S af;have gw:fH H d r H.next H1.next d.next 7 T ak nR (Y cc) (gQ U [] 0 p) [] .ar (bj T [40] e7):=⟨G,Q,V,.nil,b2.r2 (B.trans m5),ae,bf _,af,af,bf _⟩
 refine sl h (s':=ap) (l':=l') (λaq v K=> ?_) n (n+1) d _ [] .ar (Nat.lt_succ_self _) (by simp only[List.length_nil];omega) gw i;exact JR ag aE h K y
end
section
variable {H H' H0 H1:ad}{r a c:Nat}{T:List Tok}{ak:aa}{s s' s0:aq}{g gM:dm}
def uG{α:Type}{K:hK α}{t e:Nat}(y:jY t e K.esz){j:Nat->Prop}{l:List α}{v:aa}{a:bN}(F:c0 K j H1 l v)(m:b2 r H1 H)(M:H.get r=D a)(u:r<H1.next)(O:r<c)(L:c<H1.next)(s:∀k,j k->c<k){x:α}{cs:List aa}(he:K.V H (bb H1.next) x cs)(N:l.length<=1000000000):
  ∃n H',cR P (H.push (.row U K.esz [cs])) [t,t] v (.ay H.next 0 1 K.esz (D 1))=D (n,H')/\n.one=X/\H.next+1<=H'.next/\H'.get c=H.get c/\∀b,c0 K (λk=>j k\/H1.next<=k) (H'.set c b) (l++[x]) n/\
   (∀k z,¬j k->k<H1.next->k≠c->k≠r->H1.get k=D z->(H'.set c b).get k=D z)/\(H'.set c b).get r=D a/\(H'.set c b).next=H'.next/\cX (λk=>k=r\/c<=k) H1 (H'.set c b):=by
 have i:(H1.set r a).next=H1.next:=ad.di _ _ _
 have pu:aM (H1.set r a) H:=⟨by rw[i];exact m.1,λk d=>by
  rw[i]at d;by_cases e:k=r
  ·rw[e,ad.get_set_same u];exact M
  ·rw[ad.get_set_other (Ne.symm e)];exact m.2 k d e⟩
 have G:c0 K j (H1.set r a) l v:=F.aY λk x d g=>⟨d,by have:=s k d;rw[ad.get_set_other af];exact g⟩
 obtain⟨n,H',aQ,a2,a3,a4,a5,o,w⟩:=grow (r:=c) y G ((pu.mut λk=>k=c\/(H1.set r a).next<=k)) s (by rw[i];exact L) (n2:=(H1.set r a).next) (by rw[i];exact he) (bf _) N;rw[i]at a3 o;refine⟨n,H',aQ,a2,a4,a5,λb=>⟨a3 b,λk z p q A B E=>o k z p q A (by rw[ad.get_set_other (Ne.symm B)];exact E) b,?_,ad.di _ _ _,?_⟩⟩
 ·exact o r a (λh=>by have:=s r h;omega) u af (ad.get_set_same u) b
 ·have m7:=w b;refine⟨by have:=m7.1;rw[i]at this;exact this,λk d az=> ?_⟩;have p:k≠r:=λe=>az (.inl e)
  have q:¬c<=k:=λe=>az (.inr e)
  rw[m7.2 k (by rw[i];exact d) q,ad.get_set_other (Ne.symm p)]
def et(H0:ad)(r c:Nat)(T:List Tok)(ak:aa)(H:ad)(g:dm)(s:aq):Prop:=∃bA bJ bD,∃h d a:Nat->Prop,bG H r T ak s/\(∀l i n e z,ak= .ay l i n e z->l<r)/\H.get H0.next=D (.row U 3 [[.ar,.ar,.ar]])/\H.get (H0.next+1)=D (.row U 2 [[I J 0,I J 0]])/\H.get c=D (.row U 3 [[bA,bJ,bD]])/\ c0 iL h H g.c_ bA/\c0 fK d H g.globals bJ/\c0 hR a H g.funcs bD/\(∀k,h k->c<k/\¬d k/\¬a k)/\(∀k,d k->c<k/\¬a k)/\(∀k,a k->c<k)/\H0.next+1<r/\r<c/\cX (λk=>H0.next<=k) H0 H
def et.mt(h:et H0 r c T ak H g s)(m:b2 r H H')(cC:bG H' r T ak s'):et H0 r c T ak H' g s':=by
 obtain⟨bA,bJ,bD,o,p,q,au,u,v,w,x,l,n,b3,d,e,i,bE,bX,j⟩:=h;refine⟨bA,bJ,bD,o,p,q,cC,u,m.get v af,m.get w af,m.get x af,l.aY (dd.mut m λk a=>by have:=(d k a).1;omega),n.aY (dd.mut m λk a=>by have:=(e k a).1;omega),b3.aY (dd.mut m λk a=>by have:=i k a;omega),d,e,i,bE,bX,?_⟩;have y:=j.1;exact⟨by have:=m.1;omega,λk a az=>by rw[m.2 k af af];exact j.2 k a az⟩
def et.dR(h:et H0 r c T ak H g s):bG H r T ak s:=by
 obtain⟨bA,bJ,bD,a,d,e,au,-⟩:=h;exact au
def et.aK(h:et H0 r c T ak H g s)(p:aM H H'):et H0 r c T ak H' g s:=h.mt (p.mut _) (h.dR.aK p)
end
section
variable {H H' H0 H1:ad}{r c:Nat}{T:List Tok}{ak:aa}{s s' s0:aq}{g gM:dm}
def wB(h:eC H ak T)(d:∀l i n e z,ak= .ay l i n e z->l<r)(c:∀k,k<r->∀z,H.get k=D z->H'.get k=D z):eC H' ak T:=by
 rcases h with a|⟨l,i,cap,rfl,a⟩
 ·exact .inl a
 ·exact .inr ⟨l,i,cap,rfl,a.imp id λ⟨ro,els,aZ,j⟩=>⟨ro,els,c l (d _ _ _ _ _ rfl) _ aZ,j⟩⟩
def JX(h:bG H r T ak s){x:b5}(e:dD T s=(x,s')):W (aA P aw 26 [.ptr r 0 0] H) λv H'=>(∃cs,v= .agg cs/\fK.V H' (bb H.next) x cs)/\b2 r H H'/\bG H' r T ak s':=by
 refine(vQ h).mono ?_;rintro v H' ⟨a,d,c⟩;rw[e]at a c;exact⟨⟨_,a,rfl⟩,d,c⟩
def K0{M:Nat}(bf:M<=900000000)(aE:T.length<=20000000)(h:et H0 r c T ak H g s)(bh:g.c_.length<=900000000){x:e3}(aN:mZ T M (aC s)=D (x,s')){L:ad->O}{Q:aa->ad->Prop}(aJ:∀H',et H0 r c T ak H' {g with c_:=g.c_++[x]} s'->W (L H') Q):
  W (j (bW (.ptr r 0 0)) λa3=>j (aI P 59 a3 1) λa4=>j (al P H 3 a4) λa5=>j (an P .add 3 X a5 (I J 1)) λa6=>j (bW (.ptr r 0 0)) λa7=>j (aI P 59 a7 1) λa9=>a8 H (aT P H 3 a9 a6) λd=>
   aG d (aA P aw 25 [.ptr r 0 0] d) λa_ l=>j (aI P 26 (.ptr c 0 0) 0) λv=>j (al P l 22 v) λw=>bV l (bU P (l).next 22 1 [(0,a_)]) λba n=>aG n (cR P n [22,22] w ba) λbb o=>
   j (aI P 26 (.ptr c 0 0) 0) λbc=>a8 o (aT P o 22 bc bb) λaH=>bif ((bg (al P d 22 v) w&&(bg (al P l 22 v) w&&(bg (al P n 22 v) w&&X)))&&X)then L aH else Z) Q:=by
 have ah:=h.dR.rd;have aP:=h.dR.bu.one;unfold bt at ah;have aO:IntKind.i64.wrap (s.at_+1)=(aC s).at_:=rfl;obtain⟨m,aK⟩:=eP h.dR.rd (aC s);have d:et H0 r c T ak (H.set r (.row U 5 [[ak,I J (aC s).at_,I J s.bO,I J s.aD,I J s.cO]])) g (aC s):=h.mt m (h.dR.mut m aK);simp-implicitDefEqProofs(disch:=try exact aj)only[bd,br,dS,c7,al,cD,aT,cD,Nat.reduceAdd,Nat.reduceLeDiff,reduceIte,aa.cells,cK,dA,ah,aP,aO];generalize H.set r (.row U 5 [[ak,I J (aC s).at_,I J s.bO,I J s.aD,I J s.cO]])=q at d ⊢;refine aL (J0 af d.dR aN) ?_;rintro _ y ⟨⟨cs,rfl,he⟩,m3,a2⟩
 refine⟨m3.1,?_⟩;obtain⟨bA,bJ,bD,ai,aU,aV,au,aq,av,ax,K,A,S,b3,i,u,B,bE,bX,ao⟩:=d;have gw:=au.rd.lt;have lc:=ad.aR K;have bj:=m3.1;have bo:=m3.get av af;have bp:=m3.get ax af;have N:=m3.get K af;obtain⟨G,R,V,ab,aF,E,aB⟩:=uG (c:=c) B3 A m3 a2.rd gw bX lc (λk a=>(i k a).1) he af;have am:=iL.len he;have aS:=q1 B3 y.next (cs:=cs) am.1 am.2
 have aW:iL.esz=3:=rfl;rw[aW]at V;have aQ:=A.rd;have ag:=ib ab;simp only[aa.cells]at ag;rw[N]at E;have z5:=(aM.push y (.row U 3 [cs])).get N;have be:(y.push (.row U 3 [cs])).next<=R.next:=by simp only[ad.bQ];exact aF
 have bl:=A.one;have bm:=S.one;have bn:=b3.one;simp-implicitDefEqProofs(disch:=try exact aj)only[bd,br,dS,al,cD,aT,cD,Nat.reduceAdd,Nat.reduceLeDiff,reduceIte,aa.cells,cK,dA,N,K,z5,E,aS,V,eK,aQ,ag,ab];obtain⟨aZ,a0,a1,bk,ap⟩:=aB (.row U 3 [[G,bJ,bD]]);have aX:=ad.aR E;have p:∀k,k<q.next->k≠c->k≠r->¬ai k->∀z,q.get k=D z->(R.set c (.row U 3 [[G,bJ,bD]])).get k=D z:=λk ae d l n z o=>a0 k z n ae d l o
 have F:∀k,ai k->c<k:=λk a=>(i k a).1
 refine aJ _ ⟨G,bJ,bD,_,(λk=>aU k/\k<q.next),(λk=>aV k/\k<q.next),⟨a1,wB au.bu aq λk a z e=>p k (ad.aR e) af af (λh=>by have:=F k h;omega) z e⟩,aq,?_,?_,ad.get_set_same aX,aZ,(S.aY λk b a g=>⟨⟨a,ad.aR g⟩,p k (ad.aR g) (by have:=(u k a).1;omega) (by have:=(u k a).1;omega) (λh=>(i k h).2.1 a) b g⟩),(b3.aY λk b a g=>⟨⟨a,ad.aR g⟩,p k (ad.aR g) (by have:=B k a;omega) (by have:=B k a;omega) (λh=>(i k h).2.2 a) b g⟩),?_,?_,?_,bE,bX,?_⟩
 ·exact p _ af af af (λa=>by have:=F _ a;omega) _ av
 ·exact p _ af af af (λa=>by have:=F _ a;omega) _ ax
 ·rintro k (a|a)
  ·exact⟨(i k a).1,λh=>(i k a).2.1 h.1,λh=>(i k a).2.2 h.1⟩
  ·exact⟨af,λh=>by have:=h.2;omega,λh=>by have:=h.2;omega⟩
 ·exactλk a=>⟨(u k a.1).1,λh=>(u k a.1).2 h.1⟩
 ·exactλk a=>B k a.1
 ·have ae:=ao.1;have o:=ap.1;refine⟨af,λk a az=> ?_⟩;have bi:k<H0.next:=by simpa using az
  rw[ap.2 k af af];exact ao.2 k a az
def KZ{M:Nat}(bf:M<=900000000)(aE:T.length<=20000000)(h:et H0 r c T ak H g s)(bh:g.globals.length<=900000000){x:b5}(aN:dD T (aC s)=(x,s')){L:ad->O}{Q:aa->ad->Prop}(aJ:∀H',et H0 r c T ak H' {g with globals:=g.globals++[x]} s'->W (L H') Q):
  W (j (bW (.ptr r 0 0)) λa3=>j (aI P 59 a3 1) λa4=>j (al P H 3 a4) λa5=>j (an P .add 3 X a5 (I J 1)) λa6=>j (bW (.ptr r 0 0)) λa7=>j (aI P 59 a7 1) λa9=>a8 H (aT P H 3 a9 a6) λd=>
   aG d (aA P aw 26 [.ptr r 0 0] d) λa_ l=>j (aI P 26 (.ptr c 0 0) 1) λv=>j (al P l 23 v) λw=>bV l (bU P (l).next 23 1 [(0,a_)]) λba o=>aG o (cR P o [23,23] w ba) λbb p=>
   j (aI P 26 (.ptr c 0 0) 1) λbc=>a8 p (aT P p 23 bc bb) λaH=>bif ((bg (al P d 23 v) w&&(bg (al P l 23 v) w&&(bg (al P o 23 v) w&&X)))&&X)then L aH else Z) Q:=by
 have ah:=h.dR.rd;have aP:=h.dR.bu.one;unfold bt at ah;have aO:IntKind.i64.wrap (s.at_+1)=(aC s).at_:=rfl;obtain⟨m,aK⟩:=eP h.dR.rd (aC s);have d:et H0 r c T ak (H.set r (.row U 5 [[ak,I J (aC s).at_,I J s.bO,I J s.aD,I J s.cO]])) g (aC s):=h.mt m (h.dR.mut m aK);simp-implicitDefEqProofs(disch:=try exact aj)only[bd,br,dS,c7,al,cD,aT,cD,Nat.reduceAdd,Nat.reduceLeDiff,reduceIte,aa.cells,cK,dA,ah,aP,aO];generalize H.set r (.row U 5 [[ak,I J (aC s).at_,I J s.bO,I J s.aD,I J s.cO]])=u at d ⊢;refine aL (JX d.dR aN) ?_;rintro _ y ⟨⟨cs,rfl,he⟩,m3,a2⟩
 refine⟨m3.1,?_⟩;obtain⟨bA,bJ,bD,aU,ai,aV,au,aq,av,ax,K,S,A,b3,i,n,B,bE,bX,ao⟩:=d;have gw:=au.rd.lt;have lc:=ad.aR K;have bj:=m3.1;have bo:=m3.get av af;have bp:=m3.get ax af;have N:=m3.get K af;obtain⟨G,R,V,ab,aF,E,aB⟩:=uG (c:=c) qq A m3 a2.rd gw bX lc (λk a=>(n k a).1) he af;have am:=fK.len he;have aS:=q1 qq y.next (cs:=cs) am.1 am.2
 have aW:fK.esz=4:=rfl;rw[aW]at V;have aQ:=A.rd;have ag:=ib ab;simp only[aa.cells]at ag;rw[N]at E;have z5:=(aM.push y (.row U 4 [cs])).get N;have be:(y.push (.row U 4 [cs])).next<=R.next:=by simp only[ad.bQ];exact aF
 have bl:=S.one;have bm:=A.one;have bn:=b3.one;simp-implicitDefEqProofs(disch:=try exact aj)only[bd,br,dS,al,cD,aT,cD,Nat.reduceAdd,Nat.reduceLeDiff,reduceIte,aa.cells,cK,dA,N,K,z5,E,aS,V,eK,aQ,ag,ab];obtain⟨aZ,a0,a1,bk,ap⟩:=aB (.row U 3 [[bA,G,bD]]);have aX:=ad.aR E;have q:∀k,k<u.next->k≠c->k≠r->¬ai k->∀z,u.get k=D z->(R.set c (.row U 3 [[bA,G,bD]])).get k=D z:=λk ae d l o z p=>a0 k z o ae d l p
 have F:∀k,ai k->c<k:=λk a=>(n k a).1
 refine aJ _ ⟨bA,G,bD,(λk=>aU k/\k<u.next),_,(λk=>aV k/\k<u.next),⟨a1,wB au.bu aq λk a z e=>q k (ad.aR e) af af (λh=>by have:=F k h;omega) z e⟩,aq,?_,?_,ad.get_set_same aX,(S.aY λk b a g=>⟨⟨a,ad.aR g⟩,q k (ad.aR g) (by have:=(i k a).1;omega) (by have:=(i k a).1;omega) (λh=>(i k a).2.1 h) b g⟩),aZ,(b3.aY λk b a g=>⟨⟨a,ad.aR g⟩,q k (ad.aR g) (by have:=B k a;omega) (by have:=B k a;omega) (λh=>(n k h).2 a) b g⟩),?_,?_,?_,bE,bX,?_⟩
 ·exact q _ af af af (λa=>by have:=F _ a;omega) _ av
 ·exact q _ af af af (λa=>by have:=F _ a;omega) _ ax
 ·refineλk a=>⟨(i k a.1).1,λh=> ?_,λh=>(i k a.1).2.2 h.1⟩
  rcases h with h|h
  ·exact(i k a.1).2.1 h
  ·have:=a.2;omega
 ·rintro k (a|a)
  ·exact⟨(n k a).1,λh=>(n k a).2 h.1⟩
  ·exact⟨af,λh=>by have:=h.2;omega⟩
 ·exactλk a=>B k a.1
 ·have ae:=ao.1;have p:=ap.1;refine⟨af,λk a az=> ?_⟩;have bi:k<H0.next:=by simpa using az
  rw[ap.2 k af af];exact ao.2 k a az
def KY{M:Nat}(aK:M<=900000000)(aE:T.length<=20000000)(h:et H0 r c T ak H g s)(bh:g.funcs.length<=900000000){x:Fn}(aO:mI T M (aC s)=D (x,s')){L:ad->O}{Q:aa->ad->Prop}(aJ:∀H',et H0 r c T ak H' {g with funcs:=g.funcs++[x]} s'->W (L H') Q):
  W (j (bW (.ptr r 0 0)) λa4=>j (aI P 59 a4 1) λa5=>j (al P H 3 a5) λa6=>j (an P .add 3 X a6 (I J 1)) λa7=>j (bW (.ptr r 0 0)) λa9=>j (aI P 59 a9 1) λa_=>a8 H (aT P H 3 a_ a7) λd=>
   aG d (aA P aw 28 [.ptr r 0 0] d) λba l=>j (aI P 26 (.ptr c 0 0) 2) λv=>j (al P l 24 v) λw=>bV l (bU P (l).next 24 1 [(0,ba)]) λbb o=>aG o (cR P o [24,24] w bb) λbc p=>
   j (aI P 26 (.ptr c 0 0) 2) λbe=>a8 p (aT P p 24 be bc) λaH=>bif ((bg (al P d 24 v) w&&(bg (al P l 24 v) w&&(bg (al P o 24 v) w&&X)))&&X)then L aH else Z) Q:=by
 have ah:=h.dR.rd;have aQ:=h.dR.bu.one;unfold bt at ah;have aP:IntKind.i64.wrap (s.at_+1)=(aC s).at_:=rfl;obtain⟨m,aN⟩:=eP h.dR.rd (aC s);have d:et H0 r c T ak (H.set r (.row U 5 [[ak,I J (aC s).at_,I J s.bO,I J s.aD,I J s.cO]])) g (aC s):=h.mt m (h.dR.mut m aN);simp-implicitDefEqProofs(disch:=try exact aj)only[bd,br,dS,c7,al,cD,aT,cD,Nat.reduceAdd,Nat.reduceLeDiff,reduceIte,aa.cells,cK,dA,ah,aQ,aP];generalize H.set r (.row U 5 [[ak,I J (aC s).at_,I J s.bO,I J s.aD,I J s.cO]])=u at d ⊢;refine aL (JS aK aE d.dR aO) ?_;rintro _ y ⟨⟨cs,rfl,he⟩,m3,a3⟩
 refine⟨m3.1,?_⟩;obtain⟨bA,bJ,bD,aV,aW,ai,au,aq,av,ax,G,R,S,b3,i,n,A,bE,bX,ao⟩:=d;have gw:=au.rd.lt;have lc:=ad.aR G;have bj:=m3.1;have bo:=m3.get av af;have bp:=m3.get ax af;have K:=m3.get G af;obtain⟨F,N,V,ab,aF,B,aB⟩:=uG (c:=c) B2 b3 m3 a3.rd gw bX lc (λk a=>A k a) he af;have am:=hR.len he;have aU:=q1 B2 y.next (cs:=cs) am.1 am.2
 have aX:hR.esz=7:=rfl;rw[aX]at V;have aS:=b3.rd;have ag:=ib ab;simp only[aa.cells]at ag;rw[K]at B;have z5:=(aM.push y (.row U 7 [cs])).get K;have bf:(y.push (.row U 7 [cs])).next<=N.next:=by simp only[ad.bQ];exact aF
 have bl:=R.one;have bm:=S.one;have bn:=b3.one;simp-implicitDefEqProofs(disch:=try exact aj)only[bd,br,dS,al,cD,aT,cD,Nat.reduceAdd,Nat.reduceLeDiff,reduceIte,aa.cells,cK,dA,K,G,z5,B,aU,V,eK,aS,ag,ab];obtain⟨aZ,a1,a2,bk,ap⟩:=aB (.row U 3 [[bA,bJ,F]]);have a0:=ad.aR B;have q:∀k,k<u.next->k≠c->k≠r->¬ai k->∀z,u.get k=D z->(N.set c (.row U 3 [[bA,bJ,F]])).get k=D z:=λk ae d l o z p=>a1 k z o ae d l p
 have E:∀k,ai k->c<k:=λk a=>A k a
 refine aJ _ ⟨bA,bJ,F,(λk=>aV k/\k<u.next),(λk=>aW k/\k<u.next),_,⟨a2,wB au.bu aq λk a z e=>q k (ad.aR e) af af (λh=>by have:=E k h;omega) z e⟩,aq,?_,?_,ad.get_set_same a0,(R.aY λk b a g=>⟨⟨a,ad.aR g⟩,q k (ad.aR g) (by have:=(i k a).1;omega) (by have:=(i k a).1;omega) (λh=>(i k a).2.2 h) b g⟩),(S.aY λk b a g=>⟨⟨a,ad.aR g⟩,q k (ad.aR g) (by have:=(n k a).1;omega) (by have:=(n k a).1;omega) (λh=>(n k a).2 h) b g⟩),aZ,?_,?_,?_,bE,bX,?_⟩
 ·exact q _ af af af (λa=>by have:=E _ a;omega) _ av
 ·exact q _ af af af (λa=>by have:=E _ a;omega) _ ax
 ·refineλk a=>⟨(i k a.1).1,λh=>(i k a.1).2.1 h.1,λh=> ?_⟩
  rcases h with h|h
  ·exact(i k a.1).2.2 h
  ·have:=a.2;omega
 ·refineλk a=>⟨(n k a.1).1,λh=> ?_⟩
  rcases h with h|h
  ·exact(n k a.1).2 h
  ·have:=a.2;omega
 ·rintro k (a|a)
  ·exact A k a
  ·omega
 ·have ae:=ao.1;have p:=ap.1;refine⟨af,λk a az=> ?_⟩;have bi:k<H0.next:=by simpa using az
  rw[ap.2 k af af];exact ao.2 k a az
end
section
variable {H H' H0 H1:ad}{r c:Nat}{T:List Tok}{ak:aa}{s s' s0:aq}{g gM:dm}
def JU{N:Nat}{a:aa->aa->aa->aa->ad->O}{d e:aa}{Q:aa->ad->Prop}(h:et H0 r c T ak H g s)(i:∀H',et H0 r c T ak H' g (cE T 4 s)->W (a d e (.ptr r 0 0) (.ptr c 0 0) H') Q):W (jl (aA P aw) N a d e (.ptr r 0 0) (.ptr c 0 0) (C X) H) Q:=by
 unfold jl;simp only[ep,aU,aO];refine aL (jM h.dR 4) ?_;rintro _ k ⟨rfl,m5,j⟩;exact⟨m5.1,i _ (h.mt m5 j)⟩
def JT{N M n:Nat}(o:M<=900000000)(aE:T.length<=20000000){d:aa->aa->aa->aa->ad->O}{e i:aa}{Q:aa->ad->Prop}(h:et H0 r c T ak H g s)(F:g.c_.length<=900000000)(G:g.globals.length<=900000000)(dI:g.funcs.length<=900000000)
  (a:(bif isRec T s then(mZ T M (aC s)).bind λp=>hg T M n {g with c_:=g.c_++[p.1]} p.2
   else bif jF T s then hg T M n {g with globals:=g.globals++[(dD T (aC s)).1]} (bj T [59] (dD T (aC s)).2)
   else bif isFun T s then(mI T M (aC s)).bind λp=>hg T M n {g with funcs:=g.funcs++[p.1]} p.2
   else hg T M n g (cE T 2 s))=D (gM,s'))
  (l:∀H' g1 s1,et H0 r c T ak H' g1 s1->g1.c_.length<=g.c_.length+1->g1.globals.length<=g.globals.length+1->g1.funcs.length<=g.funcs.length+1->hg T M n g1 s1=D (gM,s')->W (d e i (.ptr r 0 0) (.ptr c 0 0) H') Q):W (jl (aA P aw) N d e i (.ptr r 0 0) (.ptr c 0 0) (C U) H) Q:=by
 unfold isRec jF isFun at a;unfold jl;simp only[ep,aU,aO];refine aL (dk h.dR.rd h.dR.bu [114,101,99,111,114,100] (by simp)) ?_;rintro _ K ⟨rfl,y⟩;refine⟨y.1,?_⟩;have j:=h.aK y;cases u:aW T s [114,101,99,111,114,100]with
 |true=>
  rw[u,aU]at a;obtain⟨⟨x,s1⟩,f1,f2⟩:=cS.1 a;simp only[ep,aU,aO];exact K0 o aE j F f1 (L:=λH'=>d e i (.ptr r 0 0) (.ptr c 0 0) H') λH' aX=>l H' _ _ aX (by simp) (by simp) (by simp) f2
 |false=>
  rw[u,aO]at a;simp only[ep,aU,aO];refine aL (dk j.dR.rd j.dR.bu [103,108,111,98,97,108] (by simp)) ?_;rintro _ R ⟨rfl,z⟩;refine⟨z.1,?_⟩;have k:=j.aK z;cases v:aW T s [103,108,111,98,97,108]with
  |true=>
   rw[v,aU]at a;simp only[ep,aU,aO];refine KZ o aE k G (x:=(dD T (aC s)).1) (s':=(dD T (aC s)).2) rfl (L:=λH'=>aG H' (aA P aw 27 [.ptr r 0 0,Y [59]] H') λV E=>d e i (.ptr r 0 0) (.ptr c 0 0) E) λH' aX=> ?_
   refine aL (gr aX.dR [59] (by simp)) ?_;rintro _ B ⟨rfl,m5,q⟩;exact⟨m5.1,l _ _ _ (aX.mt m5 q) (by simp) (by simp) (by simp) a⟩
  |false=>
   rw[v,aO]at a;simp only[ep,aU,aO];refine aL (dk k.dR.rd k.dR.bu [102,117,110,99] (by simp)) ?_;rintro _ S ⟨rfl,A⟩;refine⟨A.1,?_⟩;have m:=k.aK A;cases w:aW T s [102,117,110,99]with
   |true=>
    rw[w,aU]at a;obtain⟨⟨x,s1⟩,f1,f2⟩:=cS.1 a;simp only[ep,aU,aO];exact KY o aE m dI f1 (L:=λH'=>d e i (.ptr r 0 0) (.ptr c 0 0) H') λH' aX=>l H' _ _ aX (by simp) (by simp) (by simp) f2
   |false=>
    rw[w,aO]at a;simp only[ep,aU,aO];refine aL (jM m.dR 2) ?_;rintro _ B ⟨rfl,m5,q⟩;exact⟨m5.1,l _ _ _ (m.mt m5 q) (by simp) (by simp) (by simp) a⟩
end
section
variable {H H' H0 H1:ad}{r c:Nat}{T:List Tok}{ak bA bJ bD:aa}{s s' s0:aq}{g gM:dm}
def uI{n:Nat}(k:H.get c=D (.row U 3 [[bA,bJ,bD]]))(l:∀H',b4 P H' .len [22] [bA]=D (I J n))(u:bA.one=X)(b:Bool)(F:aa->ad->O):
  (aP (C b) X H (bF (aI P 26 (.ptr c 0 0) 0)) λm a=>aP (C b) X a (qr (al P a 22 m)) λe d=>aP (C b) X d (λq=>gW (b4 P .empty .len [22] [e]) (b4 P d .len [22] [e]) q) λo i=>aP (C b) X i (bF (an P .eql 3 X o (I J 12))) λp h=>j (cU (C b) (D p) (D (C U))) λs=>F s h)=F (C (b&&((n:Int)==12))) H:=by
 cases b
 ·simp-implicitDefEqProofs(disch:=try exact aj)only[reduceAdd,reduceLeDiff,reduceIte,av,Bool.false_and]
 ·simp-implicitDefEqProofs(disch:=try exact aj)only[reduceAdd,reduceLeDiff,reduceIte,av,k,l,Bool.true_and]
def uJ{n:Nat}(k:H.get c=D (.row U 3 [[bA,bJ,bD]]))(l:∀H',b4 P H' .len [23] [bJ]=D (I J n))(u:bJ.one=X)(b:Bool)(F:aa->ad->O):
  (aP (C b) X H (bF (aI P 26 (.ptr c 0 0) 1)) λm a=>aP (C b) X a (qr (al P a 23 m)) λe d=>aP (C b) X d (λq=>gW (b4 P .empty .len [23] [e]) (b4 P d .len [23] [e]) q) λo i=>aP (C b) X i (bF (an P .eql 3 X o (I J 8))) λp h=>j (cU (C b) (D p) (D (C U))) λs=>F s h)=F (C (b&&((n:Int)==8))) H:=by
 cases b
 ·simp-implicitDefEqProofs(disch:=try exact aj)only[reduceAdd,reduceLeDiff,reduceIte,av,Bool.false_and]
 ·simp-implicitDefEqProofs(disch:=try exact aj)only[reduceAdd,reduceLeDiff,reduceIte,av,k,l,Bool.true_and]
def HS{n:Nat}(k:H.get c=D (.row U 3 [[bA,bJ,bD]]))(l:∀H',b4 P H' .len [24] [bD]=D (I J n))(u:bD.one=X)(b:Bool)(F:aa->ad->O):
  (aP (C b) X H (bF (aI P 26 (.ptr c 0 0) 2)) λm a=>aP (C b) X a (qr (al P a 24 m)) λe d=>aP (C b) X d (λq=>gW (b4 P .empty .len [24] [e]) (b4 P d .len [24] [e]) q) λo i=>aP (C b) X i (bF (an P .eql 3 X o (I J 16))) λp h=>j (cU (C b) (D p) (D (C U))) λs=>F s h)=F (C (b&&((n:Int)==16))) H:=by
 cases b
 ·simp-implicitDefEqProofs(disch:=try exact aj)only[reduceAdd,reduceLeDiff,reduceIte,av,Bool.false_and]
 ·simp-implicitDefEqProofs(disch:=try exact aj)only[reduceAdd,reduceLeDiff,reduceIte,av,k,l,Bool.true_and]
def et.cells(h:et H0 r c T ak H g s):∃bA bJ bD,H.get c=D (.row U 3 [[bA,bJ,bD]])/\(∀H',b4 P H' .len [22] [bA]=D (I J g.c_.length))/\(∀H',b4 P H' .len [23] [bJ]=D (I J g.globals.length))/\(∀H',b4 P H' .len [24] [bD]=D (I J g.funcs.length))/\bA.one=X/\bJ.one=X/\bD.one=true:=by
 obtain⟨bA,bJ,bD,i,j,k,au,l,m,n,e,a,d,b3,-⟩:=h;exact⟨bA,bJ,bD,e,a.u1,d.mM,b3.u2,a.one,d.one,b3.one⟩
def tY(n m:Nat):((n:Int)==(m:Int))=(n==m):=by
 by_cases h:n=m
 ·subst h;simp
 ·have:(n:Int)≠(m:Int):=af;rw[show(n==m)=U by simpa using h];exact beq_eq_false_iff_ne.2 this
def vR{N M:Nat}(z:M<=900000000)(aE:T.length<=20000000){x y:aa}{Q:aa->ad->Prop}
  (q:∀H,et H0 r c T ak H gM s'->W (mg (aA P aw) N x y (.ptr r 0 0) (.ptr c 0 0) H) Q):
  ∀(n m:Nat) (H:ad) (s:aq) (g:dm),n<m->g.c_.length+n<=900000000->g.globals.length+n<=900000000->g.funcs.length+n<=900000000->et H0 r c T ak H g s->hg T M n g s=D (gM,s')->W (lg (aA P aw) N m x y (.ptr r 0 0) (.ptr c 0 0) H) Q
 |_,0,_,_,_,ag,_,_,_,_,_=>af
 |0,m+1,_,_,_,_,_,_,_,_,a=>by cases a
 |n+1,m+1,H,s,g,ag,am,an,dI,h,a=>by
  rw[hg]at a;rw[lg];unfold sV;refine aL (jN h.dR.rd) ?_;rintro _ ah ⟨rfl,rfl⟩;refine⟨bf _,?_⟩;by_cases O:s.aD=0
  ·have i:(s.aD==0)=true:=by simpa using O
   rw[i,Bool.true_and]at a;simp-implicitDefEqProofs(disch:=try exact aj)only[bd,br,i];refine jw (hD h.dR.rd h.dR.bu) ?_;rintro _ ai ⟨rfl,R⟩;refine⟨R.1,?_⟩;have p:=h.aK R;cases u:((ao T s.at_).kind != 0)with
   |false=>
    rw[u,aO]at a;cases a;simp-implicitDefEqProofs(disch:=try exact aj)only[bd,br,c7,dS,Tok.v,u,i];exact q _ p
   |true=>
    rw[u,aU]at a;simp-implicitDefEqProofs(disch:=try exact aj)only[bd,br,c7,dS,Tok.v,u,i];have full:∀e,et H0 r c T ak e g s->((isRec T s&&g.c_.length==12)||((jF T s&&g.globals.length==8)||(isFun T s&&g.funcs.length==16)))=X->W (jl (aA P aw) N (lg (aA P aw) N m) x y (.ptr r 0 0) (.ptr c 0 0) (C X) e) Q:=λe d A=>by
     rw[A,aU]at a;exact JU d λo j=>vR z aE q n m o _ _ af af af af j a
    have free:∀e,et H0 r c T ak e g s->((isRec T s&&g.c_.length==12)||((jF T s&&g.globals.length==8)||(isFun T s&&g.funcs.length==16)))=U->W (jl (aA P aw) N (lg (aA P aw) N m) x y (.ptr r 0 0) (.ptr c 0 0) (C U) e) Q:=λe d A=>by
     rw[A,aO]at a;exact JT z aE d af af af a λo g1 s1 j aZ w F ae=>vR z aE q n m o _ _ af af af af j ae
    refine aL (dk p.dR.rd p.dR.bu [114,101,99,111,114,100] (by simp)) ?_;rintro _ al ⟨rfl,S⟩;refine⟨S.1,?_⟩;have k:=p.aK S;obtain⟨bA,bJ,bD,l,B,n2,E,G,K,L⟩:=k.cells;rw[uI l B G,show(12:Int)=((12:Nat):Int)from rfl,tY];cases aZ:aW T s [114,101,99,111,114,100]&&g.c_.length==12 with
    |true=>
     simp only[ep,aU];exact full _ k (by rw[show(isRec T s&&g.c_.length==12)=X from aZ];rfl)
    |false=>
     simp only[ep,aO];refine aL (dk k.dR.rd k.dR.bu [103,108,111,98,97,108] (by simp)) ?_;rintro _ e ⟨rfl,V⟩;refine⟨V.1,?_⟩;have d:=k.aK V;obtain⟨bA,bJ,bD,l,B,n2,E,G,K,L⟩:=d.cells;rw[uJ l n2 K,show(8:Int)=((8:Nat):Int)from rfl,tY];cases w:aW T s [103,108,111,98,97,108]&&g.globals.length==8 with
     |true=>
      simp only[ep,aU];exact full _ d (by rw[show(isRec T s&&g.c_.length==12)=U from aZ,show(jF T s&&g.globals.length==8)=X from w];rfl)
     |false=>
      simp only[ep,aO];refine aL (dk d.dR.rd d.dR.bu [102,117,110,99] (by simp)) ?_;rintro _ o ⟨rfl,ab⟩;refine⟨ab.1,?_⟩;have j:=d.aK ab;obtain⟨bA,bJ,bD,l,B,n2,E,G,K,L⟩:=j.cells;rw[HS l E L,show(16:Int)=((16:Nat):Int)from rfl,tY];cases F:aW T s [102,117,110,99]&&g.funcs.length==16 with
      |true=>exact full _ j (by rw[show(isRec T s&&g.c_.length==12)=U from aZ,show(jF T s&&g.globals.length==8)=U from w,show(isFun T s&&g.funcs.length==16)=X from F];rfl)
      |false=>exact free _ j (by rw[show(isRec T s&&g.c_.length==12)=U from aZ,show(jF T s&&g.globals.length==8)=U from w,show(isFun T s&&g.funcs.length==16)=U from F];rfl)
  ·have i:(s.aD==0)=false:=by simpa using O
   rw[i,Bool.false_and,aO]at a;cases a;simp-implicitDefEqProofs(disch:=try exact aj)only[bd,br,i];exact q _ h
end
def FH(H0:ad)(x:dm×Int×Int)(v:aa)(H':ad):Prop:=∃bA bJ bD,v= .tuple [.agg [bA,bJ,bD],.agg [I J x.2.1,I J x.2.2]]/\dH iL H' (bb H0.next) x.1.c_ bA/\dH fK H' (bb H0.next) x.1.globals bJ/\dH hR H' (bb H0.next) x.1.funcs bD/\aM H0 H'
def sf(s:aB)(g:dm)(s':aq):dm×Int×Int:=if(dq s).2.1=0 then vF g s' else(.none,(dq s).2.1,(dq s).2.2)
def CY(a b:Int):bg (D (.agg [I J a,I J b])) (.agg [I J a,I J b])=true:=by simp[bg,aa.beq,gf.beq]
section
variable {H:ad}
end
def GN{ak:aa}{T:List Tok}{H:ad}(h:eC H ak T):ch P 59 [(0,ak)]=D (.agg [ak,I J 0,I J 0,I J 0,I J 0]):=by
 rcases h with⟨rfl,_⟩|⟨l,i,cap,rfl,_⟩<;>kernel_rfl
section
variable {H:ad}
def JD(s:aB){gM:dm}{s':aq}{M n:Nat}(a3:M<=800000000)(a4:n<=800000000)(aF:(dq s).2.1=0->hg (dq s).1 M n .none ⟨0,0,0,0⟩=D (gM,s')):W (aA P aw 9 [Y s] H) (FH H (sf s gM s')):=by
 refine cA (λ_=>KR (n+1)) ?_;have am:=(aM.push H (.row U 3 [[.ar,.ar,.ar]])).bs (.row U 2 [[I J 0,I J 0]]);unfold qX;simp-implicitDefEqProofs(disch:=try exact aj)only[bd,br,List.length_cons,List.length_nil,Nat.zero_add,Nat.reduceAdd];refine aL (tA s) ?_;rintro _ j ⟨ak,rfl,L,d⟩;refine⟨d.1,?_⟩;have y:=d.get ((aM.push (H.push (.row U 3 [[.ar,.ar,.ar]])) (.row U 2 [[I J 0,I J 0]])).get (ad.bx H (.row U 3 [[.ar,.ar,.ar]])));have v:=d.get (ad.bx (H.push (.row U 3 [[.ar,.ar,.ar]])) (.row U 2 [[I J 0,I J 0]]));have aW:=d.1;simp only[ad.bQ]at aW v
 have N:= @q5 s;unfold sf;generalize dq s=bu at L aF N ⊢;obtain⟨T,aD,cO⟩:=bu;simp only at L aF N ⊢;have q:=aM.push j (.row U 2 [[I J aD,I J cO]]);have gc:=ad.bx j (.row U 2 [[I J aD,I J cO]]);have z:=q.get y;have B:=q.get v;have aX:(j.push (.row U 2 [[I J aD,I J cO]])).next=j.next+1:=by simp only[ad.bQ]
 have an:=(am.trans d).trans q;have p:=L.aK q;by_cases G:aD=0
 ·subst G;have z0:((0:Int) != 0)=false:=rfl;simp-implicitDefEqProofs(disch:=try exact aj)only[bd,br,dS,al,cD,aT,cD,Nat.reduceAdd,Nat.reduceLeDiff,reduceIte,aa.cells,cK,dA,dw,c7,ad.gy,z0];generalize j.push (.row U 2 [[I J 0,I J cO]])=a at q gc z B aX an p ⊢;obtain⟨aE,K⟩:=N rfl;have aH:=GN p;have aO:=p.one;have aI:∀l,dT l (.agg [ak,I J 0,I J 0,I J 0,I J 0])=D (.ptr l 0 0,.row U 5 [[ak,I J 0,I J 0,I J 0,I J 0]]):=λl=>hr l _ (by simp only[List.all_cons,List.all_nil,gO,aO,Bool.and_self])
  have x:=aM.push a (.row U 5 [[ak,I J 0,I J 0,I J 0,I J 0]]);have u:=aM.push (a.push (.row U 5 [[ak,I J 0,I J 0,I J 0,I J 0]])) (.row U 3 [[.ar,.ar,.ar]]);have V:=ad.bx (a.push (.row U 5 [[ak,I J 0,I J 0,I J 0,I J 0]])) (.row U 3 [[.ar,.ar,.ar]]);have ai:(a.push (.row U 5 [[ak,I J 0,I J 0,I J 0,I J 0]])).next=a.next+1:=by simp only[ad.bQ]
  rw[ai]at V;have a2:=(an.trans x).trans u;have rs:et H a.next (a.next+1) T ak ((a.push (.row U 5 [[ak,I J 0,I J 0,I J 0,I J 0]])).push (.row U 3 [[.ar,.ar,.ar]])) .none ⟨0,0,0,0⟩:=by
   refine⟨.ar,.ar,.ar,(λ_=>False),(λ_=>False),(λ_=>False),⟨u.get (ad.bx _ _),(p.aK x).aK u⟩,?_,u.get (x.get z),u.get (x.get B),V,c0.nil,c0.nil,c0.nil,λ_ h=>h.elim,λ_ h=>h.elim,λ_ h=>h.elim,af,af,a2.mut _⟩;intro l i m e c ag;rcases p with⟨rfl,_⟩|⟨l',a5,cap,rfl,aJ⟩
   ·cases ag
   ·cases ag;obtain⟨ro,els,aZ,-⟩:=aJ.resolve_left (by rintro rfl;simp at K);exact ad.aR aZ
  simp-implicitDefEqProofs(disch:=try exact aj)only[bd,br,aH,aI,ai];refine vR (M:=M) af aE.n (λap aG=> ?_) n (n+1) _ _ .none af (by simp only[dm.none,List.length_nil];omega) (by simp only[dm.none,List.length_nil];omega) (by simp only[dm.none,List.length_nil];omega) rs (aF rfl);obtain⟨bA,bJ,bD,aP,aQ,aS,au,a9,A,E,ab,R,S,b3,ax,az,aC,bE,bX,ah⟩:=aG;have ae:=au.rd;unfold bt at ae;have ck:=R.one;have dr:=S.one;have a0:=b3.one;have aU:=ad.aR A;have aV:=ad.aR E;have a8:=ad.aR ab;have ao:aM H ap:=⟨ah.1,λl K=>ah.2 l K af⟩;unfold mg;refine aL (jN au.rd) ?_;rintro _ Q ⟨rfl,rfl⟩;refine⟨bf _,?_⟩;unfold vF;by_cases w:s'.aD=0
  ·have F:(s'.aD==0)=true:=by simpa using w
   simp-implicitDefEqProofs(disch:=try exact aj)only[reduceAdd,reduceLeDiff,reduceIte,av,F,Bool.not_true,ab,A,E,ck,dr,a0];rw[if_pos w];have O:∀ok:Nat->Prop,(∀k,ok k->a.next+1<k)->dd Q ok ((Q.set H.next (.row U 3 [[bA,bJ,bD]])).set (H.next+1) (.row U 2 [[I J 0,I J 0]])) (bb H.next):=λok o k b aN g=>by
    have:=o k aN;exact⟨by unfold bb;omega,by rw[ad.get_set_other af,ad.get_set_other af];exact g⟩
   exact a_.2 ⟨bA,bJ,bD,rfl,(R.ay).aY (O aP λk o=>(ax k o).1),(S.ay).aY (O aQ λk o=>(az k o).1),(b3.ay).aY (O aS aC),(ao.cz (bf _) _).cz af _⟩
  ·have F:(s'.aD==0)=false:=by simpa using w
   simp-implicitDefEqProofs(disch:=try exact aj)only[reduceAdd,reduceLeDiff,reduceIte,av,F,Bool.not_false,ae,A,E,CY];rw[if_neg w];exact a_.2 ⟨.ar,.ar,.ar,rfl,dH.nil,dH.nil,dH.nil,(ao.cz (bf _) _).cz af _⟩
 ·have z0:(aD != 0)=true:=by simpa using G
  have a6:=ad.aR z;have a7:=ad.aR B;rw[if_neg G];have aU:=ad.aR y;have aV:=ad.aR v;have a1:=am.trans d;simp-implicitDefEqProofs(disch:=try exact aj)only[reduceAdd,reduceLeDiff,reduceIte,av,ad.gy,z0,y,v,CY];refine a_.2 ⟨.ar,.ar,.ar,rfl,dH.nil,dH.nil,dH.nil,?_⟩
  repeat (first|exact a1|refine aM.bs ?_ _|refine aM.cz ?_ af _)
end
section
variable {α:Type}{K:hK α}{H:ad}{ok:Nat->Prop}
def dH.row{l:List α}{v:aa}(h:dH K H ok l v)(c:¬l.length=0):∃L i cap ro els,v= .ay L i l.length K.esz cap/\H.get L=D (.row ro K.esz els)/\∀(j:Nat) (a:α),l[j]? =D a->∃cs,els[i+j]? =D cs/\K.V H ok a cs:=by
 rcases h with⟨rfl,h⟩|⟨L,i,cap,ro,els,d,m,e,k⟩|⟨L,i,cap,rfl,h⟩
 ·rw[h]at c;exact absurd rfl c
 ·exact⟨L,i,_,ro,els,d,e,k⟩
 ·rw[h]at c;exact absurd rfl c
end
def dH.mM{H:ad}{ok:Nat->Prop}{l:List b5}{v:aa}(h:dH fK H ok l v)(H':ad):b4 P H' .len [23] [v]=D (I J l.length):=by
 rcases h with⟨rfl,rfl⟩|⟨L,i,cap,ro,els,rfl,_⟩|⟨L,i,cap,rfl,rfl⟩
 ·exact rW
 ·exact ql
 ·exact ql
def dH.u1{H:ad}{ok:Nat->Prop}{l:List e3}{v:aa}(h:dH iL H ok l v)(H':ad):b4 P H' .len [22] [v]=D (I J l.length):=by
 rcases h with⟨rfl,rfl⟩|⟨L,i,cap,ro,els,rfl,_⟩|⟨L,i,cap,rfl,rfl⟩
 ·exact rV
 ·exact qk
 ·exact qk
def dH.u2{H:ad}{ok:Nat->Prop}{l:List Fn}{v:aa}(h:dH hR H ok l v)(H':ad):b4 P H' .len [24] [v]=D (I J l.length):=by
 rcases h with⟨rfl,rfl⟩|⟨L,i,cap,ro,els,rfl,_⟩|⟨L,i,cap,rfl,rfl⟩
 ·exact rX
 ·exact qm
 ·exact qm
section
set_option maxRecDepth 100000
noncomputable section
