/-
  Texts of one proof, laid together: V3 Rh Ri Rj Rk Rl Rm Rn Qj Ro N1b Qk ShPb.
-/
import Derived.Test.YtghmbpmaafnodaaDoorMR
set_option linter.unusedVariables false
set_option linter.unusedSimpArgs false
set_option linter.defProp false
open Option renaming some→D,none→C
open Bool renaming true→X,false→U
open Go.bn.aa renaming int→I,str→Z,bool→Y
open Go.IntKind renaming i64→J
namespace Go.Proofs.YtghmbpmaafnodaaDoor
open Go.bn
open Nat (reduceAdd reduceLeDiff)
section
variable {H0 H:af}{r b3 cY:Nat}{T:List Tok}{ax:aa}{s0 s:al}{t:Tok}
def UB{a:b0}{cg bv c v:aa}(g:H.get cY=D (.row U 9 [a.cells cg bv c]))(o:v.one=X):ba P H 71 (.ptr cY 0 5) v=D (H.set cY (.row U 9 [a.cells cg v c])):=by
 rw[Js u0 g rfl (by rw[jX o];rfl) (by rw[jX o,List.all_cons,o];rfl) aK,jX o];rfl
def UC{a:b0}{cg bv c v:aa}(g:H.get cY=D (.row U 9 [a.cells cg bv c]))(o:v.one=X):ba P H 71 (.ptr cY 0 6) v=D (H.set cY (.row U 9 [a.cells cg bv v])):=by
 rw[Js u0 g rfl (by rw[jX o];rfl) (by rw[jX o,List.all_cons,o];rfl) aK,jX o];rfl
def R3(ay:T.length<=20000000)(c:b6 H0 r T ax s0)(b:f_ H0 H r b3 cY ax t s (b0.cells {kind:=0,pos:=t.pos} .aA .aA .aA))(bW:ga H0 ax T):
  W (n5 (aI P aB) (.ptr r 0 0) (.ptr H0.next 0 0) (.ptr b3 0 0) (.ptr cY 0 0) (Y X) H) (gC H0 r T ax ((bif t.text==[108,101,116]then kE T (aw s)else ko T (aw s)).1.at t.pos) (bif t.text==[108,101,116]then kE T (aw s)else ko T (aw s)).2):=by
 have a:=c.rd.lt;have M:=c.bW.one;have ai:=b.ea;have aj:=b.gi;obtain⟨m1,d1⟩:=fR b.rd (aw s);have i:=(b.mut a m1 d1).set a (b0.cells {kind:=1,pos:=t.pos} .aA .aA .aA);have y:=b.rd;unfold bX at y;have g4:=b.g4;have h_:=b.rd.lt;have gi:=af.a6 g4;simp only[b0.cells]at g4;simp-implicitDefEqProofs(disch:=try exact ak)only[n5,reduceAdd,reduceLeDiff,reduceIte,az,e1,y,M,g4];refine aW (o8 (c.mut i.m i.rd)) ?_;rintro _ S ⟨rfl,m3,N⟩;refine⟨m3.1,?_⟩;have q:=i.mut a m3 N.rd;have j:=q.set a (b0.cells {kind:=1,name:=(bA T (aw s)).1,pos:=t.pos} .aA .aA .aA);have n:=q.g4;have ae:=af.a6 n;simp only[b0.cells]at n
 simp-implicitDefEqProofs(disch:=try exact ak)only[reduceAdd,reduceLeDiff,reduceIte,az,e1,n];refine aW (h0 (c.mut j.m j.rd) [58] (by simp)) ?_;rintro _ V ⟨rfl,m5,A⟩;refine⟨m5.1,?_⟩;have G:=j.mut a m5 A.rd;refine aW (uB A) ?_;rintro _ aa ⟨rfl,m6,O⟩;refine⟨m6.1,?_⟩;have k:=G.mut a m6 O.rd;have u:=k.set a (b0.cells {kind:=1,name:=(bA T (aw s)).1,b4:=(cM T (bh T [58] (bA T (aw s)).2)).1.1,cy:=(cM T (bh T [58] (bA T (aw s)).2)).1.2,pos:=t.pos} .aA .aA .aA);have e:=k.g4;have E:=k.g3;have ag:=af.a6 e;simp only[b0.cells]at e;unfold kE ko dd;generalize cM T (bh T [58] (bA T (aw s)).2)=o at*;generalize bA T (aw s)=cC at*
 cases z:t.text==[108,101,116]with
 |false=>
  simp-implicitDefEqProofs(disch:=try exact ak)only[reduceAdd,reduceLeDiff,reduceIte,az,e1,e,E,z];exact Ii c u (cz.nil _ _)
 |true=>
  have d:=u.set a (b0.cells {kind:=2,name:=cC.1,b4:=o.1.1,cy:=o.1.2,pos:=t.pos} .aA .aA .aA);rw[af.set_set]at d;simp-implicitDefEqProofs(disch:=try exact ak)only[reduceAdd,reduceLeDiff,reduceIte,az,e1,e,E,z];refine aW (h0 (c.mut d.m d.rd) [61] (by simp)) ?_;rintro _ ab ⟨rfl,m8,B⟩;refine⟨m8.1,?_⟩;have w:=d.mut a m8 B.rd;refine aW (so ay B) ?_;rintro v F ⟨m9,Q,he⟩;refine⟨m9.1,?_⟩;have x:=w.mut a m9 Q.rd;obtain⟨cs,rfl,L,bO⟩:=he.cells;have ar:∀l,cl P l 41 1 [(0,.agg cs)]=D (.aG l 0 1 11 (D 1),.row U 11 [cs]):=λl=>lb l cs L bO
  have p:=x.g4;have ah:=af.a6 p;have ad:=af.a6 w.g4;obtain⟨K,R⟩:=f_.expr a (c':=b0.cells {kind:=2,name:=cC.1,b4:=o.1.1,cy:=o.1.2,pos:=t.pos} (.aG F.next 0 1 11 (D 1)) .aA .aA) x (cT.a1 (dA.nu λl h=>by unfold bx at*;first|omega|(simp only[af.dK]at*;omega)) _ _ he) rfl;simp only[b0.cells]at p;simp-implicitDefEqProofs(disch:=try exact ak)only[reduceAdd,reduceLeDiff,reduceIte,az,e1,ar,p,af.iE];exact Ii c K R
def Iw{n:Nat}(ah:u4 n)(ay:T.length<=20000000)(q:b6 H0 r T ax s0)(b:f_ H0 H r b3 cY ax t s (b0.cells {kind:=0,pos:=t.pos} .aA .aA .aA)){a:Int}{e:aE}{i:List bf}{s1 s2:al}(aP:a=5\/a=6)(ab:bJ T (aw s)=(e,s1))(V:ej T n s1=D (i,s2))
  {Q:aa->af->Prop} {k:aa->af->O} (ae:∀(b5:af) (cg bv:aa),f_ H0 b5 r b3 cY ax t s2 (b0.cells {kind:=a,pos:=t.pos} cg bv .aA)->cz b5 (bx (cY+1)) [e] cg->dr b5 (bx (cY+1)) i bv->W (k (.tuple []) b5) Q):
  W (j (cp (.ptr r 0 0)) λan=>j (aJ P 59 an 1) λap=>j (ao P H 3 ap) λaq=>j (au P .add 3 X aq (I J 1)) λav=>j (cp (.ptr r 0 0)) λaC=>j (aJ P 59 aC 1) λaD=>
   bm H (ba P H 3 aD av) λz=>j (aJ P 112 (.ptr cY 0 0) 0) λaF=>bm z (ba P z 3 aF (I J a)) λA=>aO A (aI P aB 40 [.ptr r 0 0,I J 0] A) λaH B=>ca B (cl P B.next 41 1 [(0,aH)]) λaK E=>
   j (aJ P 112 (.ptr cY 0 0) 3) λaL=>bm E (ba P E 41 aL aK) λF=>aO F (aI P aB 56 [.ptr r 0 0] F) λaM G=>j (aJ P 112 (.ptr cY 0 0) 4) λaN=>bm G (ba P G 71 aN aM) λS=>k (.tuple []) S) Q:=by
 have c:=q.rd.lt;have ad:=q.bW.one;have aT:=b.ea;have aU:=b.gi;obtain⟨m1,d1⟩:=fR b.rd (aw s);have o:=(b.mut c m1 d1).set c (b0.cells {kind:=a,pos:=t.pos} .aA .aA .aA);have L:=b.rd;unfold bX at L;have g4:=b.g4;have h_:=b.rd.lt;have gi:=af.a6 g4;simp only[b0.cells]at g4;simp-implicitDefEqProofs(disch:=try exact ak)only[reduceAdd,reduceLeDiff,reduceIte,az,e1,L,ad,g4];refine aW (so ay (q.mut o.m o.rd)) ?_;rintro v d ⟨m4,M,he⟩;refine⟨m4.1,?_⟩;rw[ab]at M he;have y:=o.mut c m4 M.rd;obtain⟨cs,rfl,R,bO⟩:=he.cells;have ar:∀l,cl P l 41 1 [(0,.agg cs)]=D (.aG l 0 1 11 (D 1),.row U 11 [cs]):=λl=>lb l cs R bO
 have x:=y.g4;have aR:=af.a6 x;have aQ:=af.a6 o.g4;obtain⟨p,ai⟩:=f_.expr c (c':=b0.cells {kind:=a,pos:=t.pos} (.aG d.next 0 1 11 (D 1)) .aA .aA) y (cT.a1 (dA.nu λl h=>by unfold bx at*;first|omega|(simp only[af.dK]at*;omega)) _ _ he) rfl;have am:cY<((d.set cY (.row U 9 [b0.cells {kind:=a,pos:=t.pos} (.aG d.next 0 1 11 (D 1)) .aA .aA])).push (.row U 11 [cs])).next:=af.a6 p.g4
 simp only[b0.cells]at x am;simp-implicitDefEqProofs(disch:=try exact ak)only[reduceAdd,reduceLeDiff,reduceIte,az,e1,ar,x,af.iE];refine aW (ah ay (q.mut p.m p.rd) i s2 V) ?_;rintro bv u ⟨m7,ag,K⟩;refine⟨m7.1,?_⟩;have w:=p.mut c m7 ag.rd;have aj:=ai.a1 (dA.mut m7 (ok':=bx (cY+1)) (by unfold bx;omega) λ_ h=>h);have N:dr u (bx (cY+1)) i bv:=K.a1 (eS.nu λl h=>by unfold bx at*;simp only[b0.cells]at h;omega);have kF:=K.eb;have st:=UB w.g4 kF;have aS:=af.a6 w.g4;simp-implicitDefEqProofs(disch:=try exact ak)only[bg,bG,eF,Nat.zero_add];rw[st,xI (by simp only[af.dK];omega)];have ks:eS u (bx (cY+1)) (u.set cY (.row U 9 [b0.cells {kind:=a,pos:=t.pos} (.aG d.next 0 1 11 (D 1)) bv .aA])) (bx (cY+1)):=eS.set _ (by unfold bx;omega) λ_ h=>h
 exact ae _ _ _ (w.set c _) (aj.a1 ks.ex) (N.a1 ks)
end
def Q3{n:Nat}(am:u4 n):vb (n+1):=by
 intro H r T ax s ay a e s' h;refine cO (λ_=>RQ 0) ?_;have i:=a.rd.lt;have ab:=a.bW.one;have av:=aU.push H (.row U 9 [[I J 0,Z [],Z [],I J 0,.aA,.aA,.aA,I J 0,I J 0]]);simp-implicitDefEqProofs(disch:=try exact ak)only[uI,reduceAdd,reduceLeDiff,reduceIte,az,e1];refine aW (jt (a.rd.aR av) (a.bW.aR av)) ?_;rintro _ o ⟨rfl,N⟩;refine⟨N.1,?_⟩;have n2:=N.1;simp only[af.ch]at n2;generalize bl:aj T s.at_=t;have ba:=((av.trans N).bT (.row U 4 [[I J t.kind,Z t.text,I J t.n,I J t.pos]])).bT (.row U 9 [b0.cells {kind:=0,pos:=t.pos} .aA .aA .aA])
 have br:=(aU.push o (.row U 4 [[I J t.kind,Z t.text,I J t.n,I J t.pos]])).bT (.row U 9 [b0.cells {kind:=0,pos:=t.pos} .aA .aA .aA]);have b:f_ H ((o.push (.row U 4 [[I J t.kind,Z t.text,I J t.n,I J t.pos]])).push (.row U 9 [b0.cells {kind:=0,pos:=t.pos} .aA .aA .aA])) r o.next (o.next+1) ax t s (b0.cells {kind:=0,pos:=t.pos} .aA .aA .aA):=
  ⟨ba.mut _,a.rd.aR ba,br.get (N.get (af.bY H _)),by simp-implicitDefEqProofs(disch:=try exact ak)only[ed],af.bY (o.push _) _,ae,ae⟩
 simp-implicitDefEqProofs(disch:=try exact ak)only[uI,reduceAdd,reduceLeDiff,reduceIte,az,e1,Tok.v];simp only[b0.cells]at b;generalize (o.push (.row U 4 [[I J t.kind,Z t.text,I J t.n,I J t.pos]])).push (.row U 9 [[I J 0,Z [],Z [],I J 0,.aA,.aA,.aA,I J t.pos,I J 0]])=aF at b ⊢;have u:f_ H aF r o.next (o.next+1) ax t s (b0.cells {kind:=0,pos:=t.pos} .aA .aA .aA):=b
 generalize o.next=b3 at u ⊢
 clear b;simp only[hb,bl,dc]at h;obtain⟨⟨aq,s1⟩,c,aL⟩:=h;simp only[aZ,cj]at aL;obtain⟨rfl,rfl⟩:=aL;have F:=a.mut u.m u.rd;have bd:∀(H':af),aU aF H'->(aV T s [118,97,114]||aV T s [108,101,116])=X->W (n5 (aI P aB) (.ptr r 0 0) (.ptr H.next 0 0) (.ptr b3 0 0) (.ptr (b3+1) 0 0) (Y X) H') (gC H r T ax (aq.at t.pos) s1):=by
  intro H' a9 M;rw[M,aS,aZ]at c;have:=R3 ay a (u.mut i (a9.mut _) (u.rd.aR a9)) a.bW;rw[c]at this;exact this
 refine aW (dP F.rd F.bW [118,97,114] (by simp)) ?_;rintro _ be ⟨rfl,K⟩;refine⟨K.1,?_⟩;cases M:aV T s [118,97,114]with
 |true=>
  simp-implicitDefEqProofs(disch:=try exact ak)only[reduceAdd,reduceLeDiff,reduceIte,az];exact bd be K (by rw[M];rfl)
 |false=>
  simp-implicitDefEqProofs(disch:=try exact ak)only[reduceAdd,reduceLeDiff,reduceIte,az];refine aW (dP (F.aR K).rd (F.aR K).bW [108,101,116] (by simp)) ?_;rintro _ bf ⟨rfl,bc⟩;refine⟨bc.1,?_⟩;have aC:=K.trans bc;cases hle:aV T s [108,101,116]with
  |true=>exact bd bf aC (by rw[hle,Bool.or_true])
  |false=>
   rw[M,hle,Bool.or_false,aN]at c;simp-implicitDefEqProofs(disch:=try exact ak)only[n5,reduceAdd,reduceLeDiff,reduceIte,az];have ad:=F.aR aC;refine aW (dP ad.rd ad.bW [105,102] (by simp)) ?_;rintro _ bs ⟨rfl,aD⟩;refine⟨aD.1,?_⟩;have bb:=aC.trans aD;have ag:=ad.aR aD;have R:=u.mut i (bb.mut _) (u.rd.aR bb);have bH:=u.ea;cases aX:aV T s [105,102]with
   |true=>
    simp only[aX,aS,dc]at c;obtain⟨⟨y,s2⟩,aa,z⟩:=c;simp-implicitDefEqProofs(disch:=try exact ak)only[fl,aS];refine Iw am ay a R (.inl rfl) (e:=(bJ T (aw s)).1) (s1:=(bJ T (aw s)).2) rfl aa (k:=λ_ L=>aO L (aI P aB 23 [.ptr r 0 0,Z [101,108,115,101]] L) _) ?_;intro b5 cg bv km an ao;have a4:=a.mut km.m km.rd;refine aW (dP a4.rd a4.bW [101,108,115,101] (by simp)) ?_;rintro _ aH ⟨rfl,j⟩;refine⟨j.1,?_⟩;have d:=km.mut i (j.mut _) (km.rd.aR j);have a5:=an.aR j;have a7:=ao.a1 (eS.aR j λ_ h=>h);cases aT:aV T s2 [101,108,115,101]with
    |false=>
     simp only[aT,aN,aZ,cj]at z;obtain⟨rfl,rfl⟩:=z;simp-implicitDefEqProofs(disch:=try exact ak)only[reduceAdd,reduceLeDiff,reduceIte,az];exact sr a d a5 a7 (dr.nil _ _)
    |true=>
     simp only[aT,aS,dc]at z;obtain⟨⟨bi,fX⟩,bk,aM⟩:=z;simp only[aZ,cj]at aM;obtain⟨rfl,rfl⟩:=aM;obtain⟨B,V⟩:=fR d.rd (aw s2);have gF:=d.mut i B V;have E:=d.rd;unfold bX at E;have bq:=d.rd.lt;simp-implicitDefEqProofs(disch:=try exact ak)only[reduceAdd,reduceLeDiff,reduceIte,az,E,ab];refine aW (am ay (a.mut gF.m gF.rd) bi fX bk) ?_;rintro bj w ⟨q,G,aQ⟩;refine⟨q.1,?_⟩;have p:=gF.mut i q G.rd;have bD:=af.a6 p.g4;have bE:=af.a6 gF.g4;have st:=UC p.g4 aQ.eb;simp-implicitDefEqProofs(disch:=try exact ak)only[bg,bG,eF,Nat.zero_add];rw[st,xI (by simp only[af.dK];omega)];have a8:eS aH (bx (b3+1+1)) w (bx (b3+1+1)):=eS.mut (B.trans q) (by unfold bx;omega) λ_ h=>h
     have ks:eS w (bx (b3+1+1)) (w.set (b3+1) (.row U 9 [b0.cells {kind:=5,pos:=t.pos} cg bv bj])) (bx (b3+1+1)):=eS.set _ (by unfold bx;omega) λ_ h=>h
     exact sr a (p.set i _) ((a5.a1 a8.ex).a1 ks.ex) ((a7.a1 a8).a1 ks) ((aQ.a1 (eS.nu λl h=>by unfold bx at*;omega)).a1 ks)
   |false=>
    simp only[aX,aN]at c;simp-implicitDefEqProofs(disch:=try exact ak)only[reduceAdd,reduceLeDiff,reduceIte,az];refine aW (dP ag.rd ag.bW [119,104,105,108,101] (by simp)) ?_;rintro _ bt ⟨rfl,O⟩;refine⟨O.1,?_⟩;have ah:=ag.aR O;have S:=R.mut i (O.mut _) (R.rd.aR O);cases a3:aV T s [119,104,105,108,101]with
    |true=>
     simp only[a3,aS,dc]at c;obtain⟨⟨y,s2⟩,aa,z⟩:=c;simp only[aZ,cj]at z;obtain⟨rfl,rfl⟩:=z;simp-implicitDefEqProofs(disch:=try exact ak)only[fl,aS];refine Iw am ay a S (.inr rfl) (e:=(bJ T (aw s)).1) (s1:=(bJ T (aw s)).2) rfl aa (k:=λ_ L=>hY (aI P aB) (.ptr H.next 0 0) (.ptr (b3+1) 0 0) L) ?_;exactλb5 cg bv km an ao=>sr a km an ao (dr.nil _ _)
    |false=>
     simp only[a3,aN]at c;simp-implicitDefEqProofs(disch:=try exact ak)only[reduceAdd,reduceLeDiff,reduceIte,az];refine aW (dP ah.rd ah.bW [114,101,116,117,114,110] (by simp)) ?_;rintro _ bu ⟨rfl,Q⟩;refine⟨Q.1,?_⟩;have ai:=ah.aR Q;have x:=S.mut i (Q.mut _) (S.rd.aR Q);cases a2:aV T s [114,101,116,117,114,110]with
     |true=>
      simp only[a2,aS,aZ]at c;obtain⟨m9,d9⟩:=fR x.rd (aw s);have d:=(x.mut i m9 d9).set i (b0.cells {kind:=7,pos:=t.pos} .aA .aA .aA);have a0:=x.rd;unfold bX at a0;have g8:=x.g4;have bF:=x.rd.lt;have bA:=af.a6 g8;simp only[b0.cells]at g8;simp-implicitDefEqProofs(disch:=try exact ak)only[reduceAdd,reduceLeDiff,reduceIte,az,e1,a0,ab,g8];refine aW (dP d.rd (a.mut d.m d.rd).bW [59] (by simp)) ?_;rintro _ bh ⟨rfl,aE⟩;refine⟨aE.1,?_⟩;have gF:=d.mut i (aE.mut _) (d.rd.aR aE);unfold j4 at c;cases aP:aV T (aw s) [59]with
      |true=>
       simp only[aP,aS,cj]at c;obtain⟨rfl,rfl⟩:=c;simp-implicitDefEqProofs(disch:=try exact ak)only[reduceAdd,reduceLeDiff,reduceIte,az,Bool.not_true];exact IH a gF (cz.nil _ _)
      |false=>
       simp only[aP,aN,cj]at c;obtain⟨rfl,rfl⟩:=c;simp-implicitDefEqProofs(disch:=try exact ak)only[reduceAdd,reduceLeDiff,reduceIte,az,Bool.not_false];refine aW (so ay (a.mut gF.m gF.rd)) ?_;rintro v w ⟨q,G,he⟩;refine⟨q.1,?_⟩;have p:=gF.mut i q G.rd;obtain⟨cs,rfl,y,bO⟩:=he.cells;have ar:∀l,cl P l 41 1 [(0,.agg cs)]=D (.aG l 0 1 11 (D 1),.row U 11 [cs]):=λl=>lb l cs y bO
       have A:=p.g4;have bp:=af.a6 A;have bn:=af.a6 gF.g4;obtain⟨pW,ap⟩:=f_.expr i (c':=b0.cells {kind:=7,pos:=t.pos} (.aG w.next 0 1 11 (D 1)) .aA .aA) p (cT.a1 (dA.nu λl h=>by unfold bx at*;first|omega|(simp only[af.dK]at*;omega)) _ _ he) rfl;simp only[b0.cells]at A;simp-implicitDefEqProofs(disch:=try exact ak)only[reduceAdd,reduceLeDiff,reduceIte,az,e1,ar,A,af.iE];exact IH a pW ap
     |false=>
      simp only[a2,aN]at c;simp-implicitDefEqProofs(disch:=try exact ak)only[reduceAdd,reduceLeDiff,reduceIte,az];refine aW (dP ai.rd ai.bW [112,114,105,110,116] (by simp)) ?_;rintro _ aH ⟨rfl,j⟩;refine⟨j.1,?_⟩;have bz:=ai.aR j;have d:=x.mut i (j.mut _) (x.rd.aR j);have g9:=d.g4;have bq:=d.rd.lt;have bB:=af.a6 g9;cases aY:aV T s [112,114,105,110,116]with
      |true=>
       simp only[aY,aS,aZ]at c;obtain⟨B,V⟩:=fR d.rd (aw s);have gF:=(d.mut i B V).set i (b0.cells {kind:=8,pos:=t.pos} .aA .aA .aA);have E:=d.rd;unfold bX at E;simp only[b0.cells]at g9;unfold lI at c;simp only[cj]at c;obtain⟨rfl,rfl⟩:=c;simp-implicitDefEqProofs(disch:=try exact ak)only[reduceAdd,reduceLeDiff,reduceIte,az,e1,E,ab,g9];refine aW (so ay (a.mut gF.m gF.rd)) ?_;rintro v w ⟨q,G,he⟩;refine⟨q.1,?_⟩;have p:=gF.mut i q G.rd;obtain⟨cs,rfl,y,bO⟩:=he.cells;have ar:∀l,cl P l 41 1 [(0,.agg cs)]=D (.aG l 0 1 11 (D 1),.row U 11 [cs]):=λl=>lb l cs y bO
       have A:=p.g4;have bp:=af.a6 A;have bn:=af.a6 gF.g4;obtain⟨pW,ap⟩:=f_.expr i (c':=b0.cells {kind:=8,pos:=t.pos} (.aG w.next 0 1 11 (D 1)) .aA .aA) p (cT.a1 (dA.nu λl h=>by unfold bx at*;first|omega|(simp only[af.dK]at*;omega)) _ _ he) rfl;simp only[b0.cells]at A;simp-implicitDefEqProofs(disch:=try exact ak)only[reduceAdd,reduceLeDiff,reduceIte,az,e1,ar,A,af.iE];refine aW (h0 (a.mut pW.m pW.rd) [59] (by simp)) ?_;rintro _ bw ⟨rfl,au,bm⟩;refine⟨au.1,?_⟩;exact sr a (pW.mut i au bm.rd) (ap.a1 (dA.mut au (by unfold bx;omega) λ_ h=>h)) (dr.nil _ _) (dr.nil _ _)
      |false=>
       simp only[aY,aN,aZ]at c;have aJ:=g9;simp only[b0.cells]at aJ;simp-implicitDefEqProofs(disch:=try exact ak)only[reduceAdd,reduceLeDiff,reduceIte,az,e1,aJ];refine aW (QZ ay (a.mut d.m d.rd) t.pos) ?_;rintro v bh ⟨B,al,he⟩;refine⟨B.1,?_⟩;have gF:=d.mut i B al.rd;obtain⟨cs,rfl,y,bO⟩:=he.cells;have na:List.take 9 cs=cs:=List.take_of_length_le ae;have aK:=gF.g2;have bC:=af.a6 aK;rw[c]at he al;simp-implicitDefEqProofs(disch:=try exact ak)only[reduceAdd,reduceLeDiff,reduceIte,az,e1,aK,y,bO,na,List.append_nil];exact a_.2 (gC.ret a gF.m al.rd (bo _) he ae _)
structure K7(n:Nat):Prop where
 stmt:vb n
 block:u4 n
def LQ:∀n,n<=900000000->K7 n:=by
 intro n
 induction n using Nat.strongRecOn with
 |_ n a=>
  intro d;cases n with
  |zero=>exact⟨λ_ _ _ _ h=>by simp[hb]at h,λ_ _ _ _ h=>by simp[ej]at h⟩
  |succ n=>
   have i:=a n ae ae;exact⟨Q3 i.block,Qt ae λk c=>(a k ae ae).stmt⟩
section
variable {H H' H1:af}{r:Nat}{T:List Tok}{ax:aa}{s s':al}
variable {b c n2 esz:Nat}{z:List aa}{x:aa}{rest:List aa}{l:List bB}{v:aa}
def hj.An(h:hj H1 H r b c n2 esz T ax z x rest l v s){s0:al}(i:b6 H1 r T ax s0)(a:List aa):hj H1 (H.set c (.row U esz [x::v::a])) r b c n2 esz T ax z x a l v s:=by
 have bO:=h.bO;have b2:=h.b2;have cw:=h.cw;have dN:=h.dN;have kF:=h.kF;have lc:=af.a6 h.cell;have e:jV r H1.next H1 (H.set c (.row U esz [x::v::a])):=h.m.db (.inr ae) _
 exact⟨i.p_ e (by unfold bX;rw[af.get_set_other ae];exact h.c1.rd),by rw[af.get_set_other ae];exact h.two,af.get_set_same lc,h.h7.a1 λk x d g=>⟨d,by unfold bx at d;rw[af.get_set_other ae];exact g⟩,e,bO,b2,kF,cw,by simp;omega⟩
def hj.Qx(h:hj H1 H r b c n2 esz T ax z x rest l v s)(s2:al):hj H1 (H.set r (.row U 5 [[ax,I J s2.at_,I J s2.bk,I J s2.an,I J s2.bN]])) r b c n2 esz T ax z x rest l v s2:=by
 obtain⟨m,a⟩:=fR h.c1.rd s2;exact h.mut m (h.c1.mut m a)
def wJ{N:Nat}{Q:aa->af->Prop}{cC:aC}{s0:al}(x:b6 H1 r T ax s0){l':List bB}
  (k:∀H v,hj H1 H r b c n2 7 T ax z (Z cC) rest l' v s'->W (mH (aI P aB) N (.ptr r 0 0) (.ptr b 0 0) (.ptr c 0 0) H) Q):
  ∀(n m:Nat) (H:af) (s:al) (l:List bB) (v:aa),n<m->l.length+n<=1000000000->hj H1 H r b c n2 7 T ax z (Z cC) rest l v s->e6 T n l s=D (l',s')->W (mI (aI P aB) N m (.ptr r 0 0) (.ptr b 0 0) (.ptr c 0 0) H) Q
 |_,0,_,_,_,_,aY,_,_,_=>ae
 |0,m+1,_,_,_,_,_,_,_,a=>by cases a
 |n+1,m+1,H,s,l,v,aY,bk,h,a=>by
  rw[e6]at a;rw[mI];unfold wW;refine aW (mA h.c1.rd) ?_;rintro _ bd ⟨rfl,rfl⟩;refine⟨bo _,?_⟩;by_cases ar:s.an=0
  ·have i:(s.an==0)=true:=by simpa using ar
   simp-implicitDefEqProofs(disch:=try exact ak)only[bg,bG,i];refine hl (dP h.c1.rd h.c1.bW [41] (by simp)) ?_;rintro _ be ⟨rfl,ad⟩;refine⟨ad.1,?_⟩;have u:=h.mut (ad.mut _) (h.c1.aR ad);rw[i,Bool.true_and]at a;cases aE:aV T s [41]with
   |true=>
    rw[aE]at a;cases a;simp-implicitDefEqProofs(disch:=try exact ak)only[bg,bG,i,Bool.not_true];exact k _ _ u
   |false=>
    rw[aE,Bool.not_false,aS]at a;simp-implicitDefEqProofs(disch:=try exact ak)only[bg,bG,i,Bool.not_false];refine aW (jt u.c1.rd u.c1.bW) ?_;rintro _ o ⟨rfl,ag⟩;refine⟨ag.1,?_⟩;have e:=u.mut (ag.mut _) (u.c1.aR ag);have V:=λH'=>e.h7.nv H'
    have bl:=e.h7.rd;have E:=e.cell;have bn:=e.h7.one;have go:((aj T s.at_).kind==1&&l.length==6)=X->W (aO o (aI P aB 24 [.ptr r 0 0,I J 4] o) λbq d=>mH (aI P aB) N (.ptr r 0 0) (.ptr b 0 0) (.ptr c 0 0) d) Q:=λhm=>by
     rw[hm,aS]at a;cases a;refine aW (lJ e.c1 4) ?_;rintro _ bf ⟨rfl,m5,a2⟩;exact⟨m5.1,k _ _ (e.mut m5 a2)⟩
    have on:((aj T s.at_).kind==1&&l.length==6)=U->W (aO o (aI P aB 26 [.ptr r 0 0] o) λa5 d=>
      j (aJ P 73 (.ptr c 0 0) 1) λG=>j (ao P d 23 G) λK=>ca d (cl P (d).next 23 1 [(0,a5)]) λa6 L=>aO L (df P L [23,23] K a6) λa8 au=>j (aJ P 73 (.ptr c 0 0) 1) λa9=>bm au (ba P au 23 a9 a8) λav=>
      bif ((bp (ao P o 23 G) K&&(bp (ao P d 23 G) K&&(bp (ao P L 23 G) K&&X)))&&X)then(aO av (aI P aB 23 [.ptr r 0 0,Z [41]] av) λa_ M=>
      j (fD .not a_) λbb=>
      a7 (D bb) (aO M (aI P aB 27 [.ptr r 0 0,Z [44]] M) λbr aw=>
      aO aw (aI P aB 23 [.ptr r 0 0,Z [41]] aw) λbc O=>
      a7 (D bc) (aO O (aI P aB 24 [.ptr r 0 0,I J 2] O) λbs aU=>
      mI (aI P aB) N m (.ptr r 0 0) (.ptr b 0 0) (.ptr c 0 0) aU) (mI (aI P aB) N m (.ptr r 0 0) (.ptr b 0 0) (.ptr c 0 0) O)) (mI (aI P aB) N m (.ptr r 0 0) (.ptr b 0 0) (.ptr c 0 0) M))else C) Q:=λhm=>by
     rw[hm,aN]at a;refine aW (Ak e.c1) ?_;rintro _ am ⟨rfl,m6,a3⟩;refine⟨m6.1,?_⟩;have y:=e.mut m6 a3;have aX:=y.cell;have aZ:=y.h7.rd;generalize c7 T s=q at y a;obtain⟨p,aF⟩:=q;obtain⟨ai,aM,aQ,aT,ap,aq,aH,A⟩:=y.add x ae p;have a0:=uS tY am.next (cs:=p.cells) rfl rfl
     have bj:(am.push (.row U 4 [p.cells])).next<=aM.next:=by simp only[af.ch];exact aT
     have ay:=jX ap;simp only[aa.cells]at ay;simp-implicitDefEqProofs(disch:=try exact ak)only[bg,bG,eF,ao,c2,ba,c2,Nat.reduceAdd,Nat.reduceLeDiff,reduceIte,aa.cells,c8,eu,ed,ay,aX,a0,aQ,fJ,aq,aH,ap,aZ,E];refine aW (dP A.c1.rd A.c1.bW [41] (by simp)) ?_;rintro _ aP ⟨rfl,ah⟩;refine⟨ah.1,?_⟩;have R:=A.mut (ah.mut _) (A.c1.aR ah);simp only at a;cases aD:aV T aF [41]with
     |true=>
      rw[aD,aS]at a;simp-implicitDefEqProofs(disch:=try exact ak)only[bg,bG,Bool.not_true];exact wJ x k n m aP _ _ ai ae (by simp;omega) R a
     |false=>
      rw[aD,aN]at a;simp-implicitDefEqProofs(disch:=try exact ak)only[bg,bG,Bool.not_false];refine aW (h0 R.c1 [44] (by simp)) ?_;rintro _ bi ⟨rfl,m9,a4⟩;refine⟨m9.1,?_⟩;have B:=R.mut m9 a4;refine aW (dP B.c1.rd B.c1.bW [41] (by simp)) ?_;rintro _ aK ⟨rfl,ab⟩;refine⟨ab.1,?_⟩;have d:=B.mut (ab.mut _) (B.c1.aR ab);unfold iy at a;cases he:aV T (bh T [44] aF) [41]with
      |true=>
       rw[he,aS]at a;simp-implicitDefEqProofs(disch:=try exact ak)only[bg,bG];refine aW (lJ d.c1 2) ?_;rintro _ aL ⟨rfl,m11,a1⟩;refine⟨m11.1,?_⟩;exact wJ x k n m aL _ _ ai ae (by simp;omega) (d.mut m11 a1) a
      |false=>
       rw[he,aN]at a;simp-implicitDefEqProofs(disch:=try exact ak)only[bg,bG];exact wJ x k n m aK _ _ ai ae (by simp;omega) d a
    cases w:(aj T s.at_).kind==1 with
    |true=>
     rw[w]at go on;cases F:l.length==6 with
     |true=>
      have S:((l.length:Int)==6)=true:=by
       have:l.length=6:=by simpa using F
       simp;omega
      rw[F]at go;simp-implicitDefEqProofs(disch:=try exact ak)only[reduceAdd,reduceLeDiff,reduceIte,az,Tok.v,E,V,w,S];exact go rfl
     |false=>
      have S:((l.length:Int)==6)=false:=by
       have:l.length≠6:=by simpa using F
       simp;omega
      rw[F]at on;simp-implicitDefEqProofs(disch:=try exact ak)only[reduceAdd,reduceLeDiff,reduceIte,az,Tok.v,E,V,w,S];exact on rfl
    |false=>
     rw[w]at on;simp-implicitDefEqProofs(disch:=try exact ak)only[reduceAdd,reduceLeDiff,reduceIte,az,Tok.v,E,V,w];exact on rfl
  ·have i:(s.an==0)=false:=by simpa using ar
   rw[i]at a;cases a;simp-implicitDefEqProofs(disch:=try exact ak)only[bg,bG,i];exact k _ _ h
end
section
variable {H H' H1:af}{r:Nat}{T:List Tok}{ax:aa}{s s' s0:al}
abbrev rj:List aa:=[Z [],.aA,Y U,Z [],I J 0,.aA,I J 0]
abbrev iF(has:Bool)(c4:aC)(rd a:Int):List aa:=[Y has,Z c4,I J rd,.aA,I J a]
def xN(H1:af)(r:Nat)(T:List Tok)(ax:aa)(f:Fn)(s':al)(w:aa)(H':af):Prop:=(∃cs,w= .agg cs/\gg.V H' (bx H1.next) f cs)/\cv r H1 H'/\b6 H' r T ax s'
def Iv{N n:Nat}(Q:n<=900000000)(ay:T.length<=20000000)(p:b6 H1 r T ax s0){c n2:Nat}{cC c4:aC}{has:Bool}{rd e:Int}{l:List bB}{v:aa}{i:List bf}
  (h:hj H1 H r H1.next c n2 7 T ax rj (Z cC) (iF has c4 rd e) l v s) (O:ej T n s=D (i,s')):
  W (qH (aI P aB) N (.ptr r 0 0) (.ptr H1.next 0 0) (.ptr c 0 0) H) (xN H1 r T ax ⟨cC,l,has,c4,rd,i,e⟩ s'):=by
 unfold qH;refine aW ((LQ n Q).block ay h.c1 i s' O) ?_;rintro w o ⟨m2,R,q⟩;refine⟨m2.1,?_⟩;have a:=h.mut m2 R;have bO:=a.bO;have b2:=a.b2;have kF:=a.kF;have cw:=a.cw;have dN:=a.dN;have V:=h.dN;have K:=a.cell;have A:=a.h7.one;have B:=q.eb;have M:=jX A;have y:=jX B;simp only[aa.cells]at M y;have j:=a.An p [Y has,Z c4,I J rd,w,I J e];have u:=j.two;have L:=j.cell;have S:=af.a6 u;have z:jV r H1.next H1 ((o.set c (.row U 7 [Z cC::v::[Y has,Z c4,I J rd,w,I J e]])).set H1.next (.row U 7 [Z cC::v::[Y has,Z c4,I J rd,w,I J e]])):=j.m.db (.inr (bo _)) _
 have d:cK o (bx n2) ((o.set c (.row U 7 [Z cC::v::[Y has,Z c4,I J rd,w,I J e]])).set H1.next (.row U 7 [Z cC::v::[Y has,Z c4,I J rd,w,I J e]])) (bx H1.next):=λk x d g=>⟨by unfold bx at d ⊢;omega,by unfold bx at d;rw[af.get_set_other ae,af.get_set_other ae];exact g⟩
 have G:=a.h7.a1 d;have F:dr _ (bx H1.next) i w:=q.a1 (cK.trans (cK.le (ok':=bx n2) λk d=>by unfold bx at d ⊢;omega) d).s;have E:=p.p_ z (s':=s') (by unfold bX;rw[af.get_set_other ae];exact j.c1.rd);simp-implicitDefEqProofs(disch:=try exact ak)only[bg,bG,eF,ao,c2,ba,c2,Nat.reduceAdd,Nat.reduceLeDiff,reduceIte,aa.cells,c8,eu,ed,K,L,u,A,B,y];exact a_.2 ⟨⟨_,rfl,v,w,rfl,G.aG,F⟩,z.mt,E⟩
def QQ{N n:Nat}(x:n<=900000000)(ay:T.length<=20000000)(j:b6 H1 r T ax s0){c n2:Nat}{cC:aC}{i:Int}{l:List bB}{v:aa}{q:List bf}
  (h:hj H1 H r H1.next c n2 7 T ax rj (Z cC) (iF U [] 0 i) l v s) (a:ej T n (e7 T (bh T [41] s)).2=D (q,s')):
  W (mH (aI P aB) N (.ptr r 0 0) (.ptr H1.next 0 0) (.ptr c 0 0) H) (xN H1 r T ax ⟨cC,l,(e7 T (bh T [41] s)).1.1,(e7 T (bh T [41] s)).1.2.1,(e7 T (bh T [41] s)).1.2.2,q,i⟩ s'):=by
 unfold mH;refine aW (h0 h.c1 [41] (by simp)) ?_;rintro _ Q ⟨rfl,m2,M⟩;refine⟨m2.1,?_⟩;have e:=h.mut m2 M;generalize bh T [41] s=s2 at e a ⊢;refine aW (dP e.c1.rd e.c1.bW [58] (by simp)) ?_;rintro _ B ⟨rfl,p⟩;refine⟨p.1,?_⟩;have k:=e.mut (p.mut _) (e.c1.aR p);unfold e7 at a ⊢;cases A:aV T s2 [58]with
 |false=>
  rw[A,aN]at a;simp-implicitDefEqProofs(disch:=try exact ak)only[bg,bG];exact Iv x ay j k a
 |true=>
  rw[A,aS]at a;have u:hj H1 (B.set r (.row U 5 [[ax,I J (aw s2).at_,I J s2.bk,I J s2.an,I J s2.bN]])) r H1.next c n2 7 T ax rj (Z cC) (iF U [] 0 i) l v (aw s2):=k.Qx (aw s2)
  have z:=k.c1.rd;unfold bX at z;have w:=u.An j (iF X [] 0 i);have F:=u.cell;have L:=k.c1.bW.one;have K:IntKind.i64.wrap (s2.at_+1)=(aw s2).at_:=rfl;simp-implicitDefEqProofs(disch:=try exact ak)only[bg,bG,eF,c3,ao,c2,ba,c2,Nat.reduceAdd,Nat.reduceLeDiff,reduceIte,aa.cells,c8,eu,z,L,K,F];refine aW (uB w.c1) ?_;rintro _ R ⟨rfl,m6,O⟩;refine⟨m6.1,?_⟩;have m:=w.mut m6 O;have G:=m.cell;generalize cM T (aw s2)=o at m a ⊢;obtain⟨⟨y,d⟩,S⟩:=o;have E:=m.An j (iF X y d i);simp-implicitDefEqProofs(disch:=try exact ak)only[bg,bG,eF,c3,ao,c2,ba,c2,Nat.reduceAdd,Nat.reduceLeDiff,reduceIte,aa.cells,c8,eu,G]
  exact Iv x ay j E a
end
section
variable {H H' H1:af}{r:Nat}{T:List Tok}{ax:aa}{s s' s0:al}
def QS{n:Nat}(ag:n<=900000000)(ay:T.length<=20000000)(h:b6 H r T ax s){f:Fn}(w:iB T n s=D (f,s')):W (aI P aB 28 [.ptr r 0 0] H) (xN H r T ax f s'):=by
 refine cO (λ_=>Rh (n+1)) ?_;have ad:=h.rd.lt;unfold iB at w;obtain⟨⟨l',an⟩,i,ab⟩:=dc.1 w;obtain⟨⟨aq,uL⟩,y,A⟩:=dc.1 ab;simp only[aZ,cj]at A;obtain⟨rfl,rfl⟩:=A;simp only at y;have c:=aU.push H (.row U 7 [rj]);have L:=af.bY H (.row U 7 [rj]);simp-implicitDefEqProofs(disch:=try exact ak)only[wV,bg,bG,List.length_cons,List.length_nil,Nat.zero_add,Nat.reduceAdd];refine aW (jt (h.rd.aR c) (h.aR c).bW) ?_;rintro _ H1 ⟨rfl,a⟩;refine⟨a.1,?_⟩;have ai:=a.1;simp only[af.ch]at ai;have E:=(h.aR c).aR a;have M:=a.get L;generalize aj T s.at_=q;obtain⟨k,x,z,p⟩:=q;have j:=aU.push H1 (.row U 7 [Z []:: .aA::iF U [] 0 p])
 have R:=af.bY H1 (.row U 7 [Z []:: .aA::iF U [] 0 p]);simp-implicitDefEqProofs(disch:=try exact ak)only[bg,bG,eF,ao,c2,ba,c2,Nat.reduceAdd,Nat.reduceLeDiff,reduceIte,aa.cells,c8,eu,ed,af.iE,Tok.v];refine aW (o8 (E.aR j)) ?_;rintro _ m ⟨rfl,m3,e⟩;refine⟨m3.1,?_⟩;have al:=m3.1;simp only[af.ch]at al;have N:=m3.get (j.get M) ae;have u:=m3.get R ae;have ea:=af.a6 u;generalize bA T s=o at e i ⊢;obtain⟨cC,fX⟩:=o;simp only at e i ⊢;have ah:=((((c.mut (· =r)).trans (a.mut _)).trans (j.mut _)).trans m3);have B:=ah.db (l:=H1.next) (.inr ae) (.row U 7 [Z cC:: .aA::iF U [] 0 p]);have F:=h.mut B (show bX _ r ax fX by unfold bX;rw[af.get_set_other ae];exact e.rd)
 have O:(m.set H1.next (.row U 7 [Z cC:: .aA::iF U [] 0 p])).get H.next=D (.row U 7 [rj]):=by rw[af.get_set_other ae];exact N
 have S:(m.set H1.next (.row U 7 [Z cC:: .aA::iF U [] 0 p])).get H1.next=D (.row U 7 [Z cC:: .aA::iF U [] 0 p]):=af.get_set_same ea
 simp-implicitDefEqProofs(disch:=try exact ak)only[bg,bG,eF,ao,c2,ba,c2,Nat.reduceAdd,Nat.reduceLeDiff,reduceIte,aa.cells,c8,eu,ed,u];refine aW (h0 F [40] (by simp)) ?_;rintro _ d ⟨rfl,m5,G⟩;refine⟨m5.1,?_⟩;have am:=m5.1;simp only[af.dK]at am;have Q:=m5.get O ae;have V:=m5.get S ae;have h_:hj H d r H.next H1.next d.next 7 T ax rj (Z cC) (iF U [] 0 p) [] .aA (bh T [40] fX):=⟨G,Q,V,.nil,cv.vZ (B.trans m5),ad,bo _,ae,ae,bo _⟩
 refine wJ h (s':=an) (l':=l') (λap v K=> ?_) n (n+1) d _ [] .aA (Nat.lt_succ_self _) (by simp only[List.length_nil];omega) h_ i;exact QQ ag ay h K y
end
section
variable {H H' H0 H1:af}{r a c:Nat}{T:List Tok}{ax:aa}{s s' s0:al}{g g':bE}
def yQ{α:Type}{K:jB α}{t e:Nat}(y:l3 t e K.esz){j:Nat->Prop}{l:List α}{v:aa}{a:cb}(F:du K j H1 l v)(m:cv r H1 H)(M:H.get r=D a)(u:r<H1.next)(O:r<c)(L:c<H1.next)(s:∀k,j k->c<k){x:α}{cs:List aa}(he:K.V H (bx H1.next) x cs)(N:l.length<=1000000000):
  ∃n H',df P (H.push (.row U K.esz [cs])) [t,t] v (.aG H.next 0 1 K.esz (D 1))=D (n,H')/\n.one=X/\H.next+1<=H'.next/\H'.get c=H.get c/\∀b,du K (λk=>j k\/H1.next<=k) (H'.set c b) (l++[x]) n/\
   (∀k z,¬j k->k<H1.next->k≠c->k≠r->H1.get k=D z->(H'.set c b).get k=D z)/\(H'.set c b).get r=D a/\(H'.set c b).next=H'.next/\dp (λk=>k=r\/c<=k) H1 (H'.set c b):=by
 have i:(H1.set r a).next=H1.next:=af.dK _ _ _
 have pu:aU (H1.set r a) H:=⟨by rw[i];exact m.1,λk d=>by
  rw[i]at d;by_cases e:k=r
  ·rw[e,af.get_set_same u];exact M
  ·rw[af.get_set_other (Ne.symm e)];exact m.2 k d e⟩
 have G:du K j (H1.set r a) l v:=F.a1 λk x d g=>⟨d,by have:=s k d;rw[af.get_set_other ae];exact g⟩
 obtain⟨n,H',aT,a2,a3,a4,a5,o,w⟩:=grow (r:=c) y G ((pu.mut λk=>k=c\/(H1.set r a).next<=k)) s (by rw[i];exact L) (n2:=(H1.set r a).next) (by rw[i];exact he) (bo _) N;rw[i]at a3 o;refine⟨n,H',aT,a2,a4,a5,λb=>⟨a3 b,λk z p q A B E=>o k z p q A (by rw[af.get_set_other (Ne.symm B)];exact E) b,?_,af.dK _ _ _,?_⟩⟩
 ·exact o r a (λh=>by have:=s r h;omega) u ae (af.get_set_same u) b
 ·have m7:=w b;refine⟨by have:=m7.1;rw[i]at this;exact this,λk d ar=> ?_⟩;have p:k≠r:=λe=>ar (.inl e)
  have q:¬c<=k:=λe=>ar (.inr e)
  rw[m7.2 k (by rw[i];exact d) q,af.get_set_other (Ne.symm p)]
def fp(H0:af)(r c:Nat)(T:List Tok)(ax:aa)(H:af)(g:bE)(s:al):Prop:=∃bM bS bP,∃h d a:Nat->Prop,b6 H r T ax s/\(∀l i n e z,ax= .aG l i n e z->l<r)/\H.get H0.next=D (.row U 3 [[.aA,.aA,.aA]])/\H.get (H0.next+1)=D (.row U 2 [[I J 0,I J 0]])/\H.get c=D (.row U 3 [[bM,bS,bP]])/\ du hQ h H g.b7 bM/\du fv d H g.globals bS/\du gg a H g.funcs bP/\(∀k,h k->c<k/\¬d k/\¬a k)/\(∀k,d k->c<k/\¬a k)/\(∀k,a k->c<k)/\H0.next+1<r/\r<c/\dp (λk=>H0.next<=k) H0 H
def fp.mt(h:fp H0 r c T ax H g s)(m:cv r H H')(c1:b6 H' r T ax s'):fp H0 r c T ax H' g s':=by
 obtain⟨bM,bS,bP,o,p,q,av,u,v,w,x,l,n,b3,d,e,i,bO,b2,j⟩:=h;refine⟨bM,bS,bP,o,p,q,c1,u,m.get v ae,m.get w ae,m.get x ae,l.a1 (cK.mut m λk a=>by have:=(d k a).1;omega),n.a1 (cK.mut m λk a=>by have:=(e k a).1;omega),b3.a1 (cK.mut m λk a=>by have:=i k a;omega),d,e,i,bO,b2,?_⟩;have y:=j.1;exact⟨by have:=m.1;omega,λk a ar=>by rw[m.2 k ae ae];exact j.2 k a ar⟩
def fp.eE(h:fp H0 r c T ax H g s):b6 H r T ax s:=by
 obtain⟨bM,bS,bP,a,d,e,av,-⟩:=h;exact av
def fp.aR(h:fp H0 r c T ax H g s)(p:aU H H'):fp H0 r c T ax H' g s:=h.mt (p.mut _) (h.eE.aR p)
end
section
variable {H H' H0 H1:af}{r c:Nat}{T:List Tok}{ax:aa}{s s' s0:al}{g g':bE}
def AW(h:ga H ax T)(d:∀l i n e z,ax= .aG l i n e z->l<r)(c:∀k,k<r->∀z,H.get k=D z->H'.get k=D z):ga H' ax T:=by
 rcases h with a|⟨l,i,cap,rfl,a⟩
 ·exact .inl a
 ·exact .inr ⟨l,i,cap,rfl,a.imp id λ⟨ro,els,bb,j⟩=>⟨ro,els,c l (d _ _ _ _ _ rfl) _ bb,j⟩⟩
def QX(h:b6 H r T ax s){x:bB}(e:c7 T s=(x,s')):W (aI P aB 26 [.ptr r 0 0] H) λv H'=>(∃cs,v= .agg cs/\fv.V H' (bx H.next) x cs)/\cv r H H'/\b6 H' r T ax s':=by
 refine(Ak h).mono ?_;rintro v H' ⟨a,d,c⟩;rw[e]at a c;exact⟨⟨_,a,rfl⟩,d,c⟩
def R6{M:Nat}(bc:M<=900000000)(ay:T.length<=20000000)(h:fp H0 r c T ax H g s)(bd:g.b7.length<=900000000){x:ep}(aH:iG T M (aw s)=D (x,s')){L:af->O}{Q:aa->af->Prop}(aE:∀H',fp H0 r c T ax H' {g with b7:=g.b7++[x]} s'->W (L H') Q):
  W (j (cp (.ptr r 0 0)) λaY=>j (aJ P 59 aY 1) λaZ=>j (ao P H 3 aZ) λa0=>j (au P .add 3 X a0 (I J 1)) λa2=>j (cp (.ptr r 0 0)) λa3=>j (aJ P 59 a3 1) λa4=>bm H (ba P H 3 a4 a2) λd=>
   aO d (aI P aB 25 [.ptr r 0 0] d) λa5 l=>j (aJ P 26 (.ptr c 0 0) 0) λv=>j (ao P l 22 v) λw=>ca l (cl P (l).next 22 1 [(0,a5)]) λa7 n=>aO n (df P n [22,22] w a7) λa8 o=>
   j (aJ P 26 (.ptr c 0 0) 0) λa9=>bm o (ba P o 22 a9 a8) λaD=>bif ((bp (ao P d 22 v) w&&(bp (ao P l 22 v) w&&(bp (ao P n 22 v) w&&X)))&&X)then L aD else C) Q:=by
 have ad:=h.eE.rd;have aL:=h.eE.bW.one;unfold bX at ad;have aK:IntKind.i64.wrap (s.at_+1)=(aw s).at_:=rfl;obtain⟨m,aF⟩:=fR h.eE.rd (aw s);have d:fp H0 r c T ax (H.set r (.row U 5 [[ax,I J (aw s).at_,I J s.bk,I J s.an,I J s.bN]])) g (aw s):=h.mt m (h.eE.mut m aF);simp-implicitDefEqProofs(disch:=try exact ak)only[bg,bG,eF,c3,ao,c2,ba,c2,Nat.reduceAdd,Nat.reduceLeDiff,reduceIte,aa.cells,c8,eu,ad,aL,aK];generalize H.set r (.row U 5 [[ax,I J (aw s).at_,I J s.bk,I J s.an,I J s.bN]])=q at d ⊢;refine aW (Q0 ae d.eE aH) ?_;rintro _ y ⟨⟨cs,rfl,he⟩,m3,aX⟩
 refine⟨m3.1,?_⟩;obtain⟨bM,bS,bP,ag,aP,aQ,av,al,am,ap,F,A,N,b3,i,u,B,bO,b2,ai⟩:=d;have h_:=av.rd.lt;have lc:=af.a6 F;have bf:=m3.1;have bn:=m3.get am ae;have bo:=m3.get ap ae;have G:=m3.get F ae;obtain⟨E,K,R,S,aC,aq,az⟩:=yQ (c:=c) GG A m3 aX.rd h_ b2 lc (λk a=>(i k a).1) he ae;have ah:=hQ.len he;have aN:=uS GG y.next (cs:=cs) ah.1 ah.2
 have aR:hQ.esz=3:=rfl;rw[aR]at R;have aM:=A.rd;have ab:=jX S;simp only[aa.cells]at ab;rw[G]at aq;have z5:=(aU.push y (.row U 3 [cs])).get G;have a_:(y.push (.row U 3 [cs])).next<=K.next:=by simp only[af.ch];exact aC
 have bi:=A.one;have bj:=N.one;have bl:=b3.one;simp-implicitDefEqProofs(disch:=try exact ak)only[bg,bG,eF,ao,c2,ba,c2,Nat.reduceAdd,Nat.reduceLeDiff,reduceIte,aa.cells,c8,eu,G,F,z5,aq,aN,R,fJ,aM,ab,S];obtain⟨bb,aT,aV,bh,aj⟩:=az (.row U 3 [[E,bS,bP]]);have aS:=af.a6 aq;have p:∀k,k<q.next->k≠c->k≠r->¬ag k->∀z,q.get k=D z->(K.set c (.row U 3 [[E,bS,bP]])).get k=D z:=λk V d l n z o=>aT k z n V d l o
 have kc:∀k,ag k->c<k:=λk a=>(i k a).1
 refine aE _ ⟨E,bS,bP,_,(λk=>aP k/\k<q.next),(λk=>aQ k/\k<q.next),⟨aV,AW av.bW al λk a z e=>p k (af.a6 e) ae ae (λh=>by have:=kc k h;omega) z e⟩,al,?_,?_,af.get_set_same aS,bb,(N.a1 λk b a g=>⟨⟨a,af.a6 g⟩,p k (af.a6 g) (by have:=(u k a).1;omega) (by have:=(u k a).1;omega) (λh=>(i k h).2.1 a) b g⟩),(b3.a1 λk b a g=>⟨⟨a,af.a6 g⟩,p k (af.a6 g) (by have:=B k a;omega) (by have:=B k a;omega) (λh=>(i k h).2.2 a) b g⟩),?_,?_,?_,bO,b2,?_⟩
 ·exact p _ ae ae ae (λa=>by have:=kc _ a;omega) _ am
 ·exact p _ ae ae ae (λa=>by have:=kc _ a;omega) _ ap
 ·rintro k (a|a)
  ·exact⟨(i k a).1,λh=>(i k a).2.1 h.1,λh=>(i k a).2.2 h.1⟩
  ·exact⟨ae,λh=>by have:=h.2;omega,λh=>by have:=h.2;omega⟩
 ·exactλk a=>⟨(u k a.1).1,λh=>(u k a.1).2 h.1⟩
 ·exactλk a=>B k a.1
 ·have V:=ai.1;have o:=aj.1;refine⟨ae,λk a ar=> ?_⟩;have be:k<H0.next:=by simpa using ar
  rw[aj.2 k ae ae];exact ai.2 k a ar
def R5{M:Nat}(bc:M<=900000000)(ay:T.length<=20000000)(h:fp H0 r c T ax H g s)(bd:g.globals.length<=900000000){x:bB}(aH:c7 T (aw s)=(x,s')){L:af->O}{Q:aa->af->Prop}(aE:∀H',fp H0 r c T ax H' {g with globals:=g.globals++[x]} s'->W (L H') Q):
  W (j (cp (.ptr r 0 0)) λaY=>j (aJ P 59 aY 1) λaZ=>j (ao P H 3 aZ) λa0=>j (au P .add 3 X a0 (I J 1)) λa2=>j (cp (.ptr r 0 0)) λa3=>j (aJ P 59 a3 1) λa4=>bm H (ba P H 3 a4 a2) λd=>
   aO d (aI P aB 26 [.ptr r 0 0] d) λa5 l=>j (aJ P 26 (.ptr c 0 0) 1) λv=>j (ao P l 23 v) λw=>ca l (cl P (l).next 23 1 [(0,a5)]) λa7 o=>aO o (df P o [23,23] w a7) λa8 p=>
   j (aJ P 26 (.ptr c 0 0) 1) λa9=>bm p (ba P p 23 a9 a8) λaD=>bif ((bp (ao P d 23 v) w&&(bp (ao P l 23 v) w&&(bp (ao P o 23 v) w&&X)))&&X)then L aD else C) Q:=by
 have ad:=h.eE.rd;have aL:=h.eE.bW.one;unfold bX at ad;have aK:IntKind.i64.wrap (s.at_+1)=(aw s).at_:=rfl;obtain⟨m,aF⟩:=fR h.eE.rd (aw s);have d:fp H0 r c T ax (H.set r (.row U 5 [[ax,I J (aw s).at_,I J s.bk,I J s.an,I J s.bN]])) g (aw s):=h.mt m (h.eE.mut m aF);simp-implicitDefEqProofs(disch:=try exact ak)only[bg,bG,eF,c3,ao,c2,ba,c2,Nat.reduceAdd,Nat.reduceLeDiff,reduceIte,aa.cells,c8,eu,ad,aL,aK];generalize H.set r (.row U 5 [[ax,I J (aw s).at_,I J s.bk,I J s.an,I J s.bN]])=u at d ⊢;refine aW (QX d.eE aH) ?_;rintro _ y ⟨⟨cs,rfl,he⟩,m3,aX⟩
 refine⟨m3.1,?_⟩;obtain⟨bM,bS,bP,aP,ag,aQ,av,al,am,ap,F,N,A,b3,i,n,B,bO,b2,ai⟩:=d;have h_:=av.rd.lt;have lc:=af.a6 F;have bf:=m3.1;have bn:=m3.get am ae;have bo:=m3.get ap ae;have G:=m3.get F ae;obtain⟨E,K,R,S,aC,aq,az⟩:=yQ (c:=c) tY A m3 aX.rd h_ b2 lc (λk a=>(n k a).1) he ae;have ah:=fv.len he;have aN:=uS tY y.next (cs:=cs) ah.1 ah.2
 have aR:fv.esz=4:=rfl;rw[aR]at R;have aM:=A.rd;have ab:=jX S;simp only[aa.cells]at ab;rw[G]at aq;have z5:=(aU.push y (.row U 4 [cs])).get G;have a_:(y.push (.row U 4 [cs])).next<=K.next:=by simp only[af.ch];exact aC
 have bi:=N.one;have bj:=A.one;have bl:=b3.one;simp-implicitDefEqProofs(disch:=try exact ak)only[bg,bG,eF,ao,c2,ba,c2,Nat.reduceAdd,Nat.reduceLeDiff,reduceIte,aa.cells,c8,eu,G,F,z5,aq,aN,R,fJ,aM,ab,S];obtain⟨bb,aT,aV,bh,aj⟩:=az (.row U 3 [[bM,E,bP]]);have aS:=af.a6 aq;have q:∀k,k<u.next->k≠c->k≠r->¬ag k->∀z,u.get k=D z->(K.set c (.row U 3 [[bM,E,bP]])).get k=D z:=λk V d l o z p=>aT k z o V d l p
 have kc:∀k,ag k->c<k:=λk a=>(n k a).1
 refine aE _ ⟨bM,E,bP,(λk=>aP k/\k<u.next),_,(λk=>aQ k/\k<u.next),⟨aV,AW av.bW al λk a z e=>q k (af.a6 e) ae ae (λh=>by have:=kc k h;omega) z e⟩,al,?_,?_,af.get_set_same aS,(N.a1 λk b a g=>⟨⟨a,af.a6 g⟩,q k (af.a6 g) (by have:=(i k a).1;omega) (by have:=(i k a).1;omega) (λh=>(i k a).2.1 h) b g⟩),bb,(b3.a1 λk b a g=>⟨⟨a,af.a6 g⟩,q k (af.a6 g) (by have:=B k a;omega) (by have:=B k a;omega) (λh=>(n k h).2 a) b g⟩),?_,?_,?_,bO,b2,?_⟩
 ·exact q _ ae ae ae (λa=>by have:=kc _ a;omega) _ am
 ·exact q _ ae ae ae (λa=>by have:=kc _ a;omega) _ ap
 ·refineλk a=>⟨(i k a.1).1,λh=> ?_,λh=>(i k a.1).2.2 h.1⟩
  rcases h with h|h
  ·exact(i k a.1).2.1 h
  ·have:=a.2;omega
 ·rintro k (a|a)
  ·exact⟨(n k a).1,λh=>(n k a).2 h.1⟩
  ·exact⟨ae,λh=>by have:=h.2;omega⟩
 ·exactλk a=>B k a.1
 ·have V:=ai.1;have p:=aj.1;refine⟨ae,λk a ar=> ?_⟩;have be:k<H0.next:=by simpa using ar
  rw[aj.2 k ae ae];exact ai.2 k a ar
def R4{M:Nat}(aF:M<=900000000)(ay:T.length<=20000000)(h:fp H0 r c T ax H g s)(bd:g.funcs.length<=900000000){x:Fn}(aK:iB T M (aw s)=D (x,s')){L:af->O}{Q:aa->af->Prop}(aE:∀H',fp H0 r c T ax H' {g with funcs:=g.funcs++[x]} s'->W (L H') Q):
  W (j (cp (.ptr r 0 0)) λaZ=>j (aJ P 59 aZ 1) λa0=>j (ao P H 3 a0) λa2=>j (au P .add 3 X a2 (I J 1)) λa3=>j (cp (.ptr r 0 0)) λa4=>j (aJ P 59 a4 1) λa5=>bm H (ba P H 3 a5 a3) λd=>
   aO d (aI P aB 28 [.ptr r 0 0] d) λa7 l=>j (aJ P 26 (.ptr c 0 0) 2) λv=>j (ao P l 24 v) λw=>ca l (cl P (l).next 24 1 [(0,a7)]) λa8 o=>aO o (df P o [24,24] w a8) λa9 p=>
   j (aJ P 26 (.ptr c 0 0) 2) λa_=>bm p (ba P p 24 a_ a9) λaD=>bif ((bp (ao P d 24 v) w&&(bp (ao P l 24 v) w&&(bp (ao P o 24 v) w&&X)))&&X)then L aD else C) Q:=by
 have ad:=h.eE.rd;have aM:=h.eE.bW.one;unfold bX at ad;have aL:IntKind.i64.wrap (s.at_+1)=(aw s).at_:=rfl;obtain⟨m,aH⟩:=fR h.eE.rd (aw s);have d:fp H0 r c T ax (H.set r (.row U 5 [[ax,I J (aw s).at_,I J s.bk,I J s.an,I J s.bN]])) g (aw s):=h.mt m (h.eE.mut m aH);simp-implicitDefEqProofs(disch:=try exact ak)only[bg,bG,eF,c3,ao,c2,ba,c2,Nat.reduceAdd,Nat.reduceLeDiff,reduceIte,aa.cells,c8,eu,ad,aM,aL];generalize H.set r (.row U 5 [[ax,I J (aw s).at_,I J s.bk,I J s.an,I J s.bN]])=u at d ⊢;refine aW (QS aF ay d.eE aK) ?_;rintro _ y ⟨⟨cs,rfl,he⟩,m3,aY⟩
 refine⟨m3.1,?_⟩;obtain⟨bM,bS,bP,aQ,aR,ag,av,al,am,ap,E,K,N,b3,i,n,A,bO,b2,ai⟩:=d;have h_:=av.rd.lt;have lc:=af.a6 E;have bf:=m3.1;have bn:=m3.get am ae;have bo:=m3.get ap ae;have F:=m3.get E ae;obtain⟨B,G,R,S,aC,aq,az⟩:=yQ (c:=c) GF b3 m3 aY.rd h_ b2 lc (λk a=>A k a) he ae;have ah:=gg.len he;have aP:=uS GF y.next (cs:=cs) ah.1 ah.2
 have aS:gg.esz=7:=rfl;rw[aS]at R;have aN:=b3.rd;have ab:=jX S;simp only[aa.cells]at ab;rw[F]at aq;have z5:=(aU.push y (.row U 7 [cs])).get F;have bc:(y.push (.row U 7 [cs])).next<=G.next:=by simp only[af.ch];exact aC
 have bi:=K.one;have bj:=N.one;have bl:=b3.one;simp-implicitDefEqProofs(disch:=try exact ak)only[bg,bG,eF,ao,c2,ba,c2,Nat.reduceAdd,Nat.reduceLeDiff,reduceIte,aa.cells,c8,eu,F,E,z5,aq,aP,R,fJ,aN,ab,S];obtain⟨bb,aV,aX,bh,aj⟩:=az (.row U 3 [[bM,bS,B]]);have aT:=af.a6 aq;have q:∀k,k<u.next->k≠c->k≠r->¬ag k->∀z,u.get k=D z->(G.set c (.row U 3 [[bM,bS,B]])).get k=D z:=λk V d l o z p=>aV k z o V d l p
 have kc:∀k,ag k->c<k:=λk a=>A k a
 refine aE _ ⟨bM,bS,B,(λk=>aQ k/\k<u.next),(λk=>aR k/\k<u.next),_,⟨aX,AW av.bW al λk a z e=>q k (af.a6 e) ae ae (λh=>by have:=kc k h;omega) z e⟩,al,?_,?_,af.get_set_same aT,(K.a1 λk b a g=>⟨⟨a,af.a6 g⟩,q k (af.a6 g) (by have:=(i k a).1;omega) (by have:=(i k a).1;omega) (λh=>(i k a).2.2 h) b g⟩),(N.a1 λk b a g=>⟨⟨a,af.a6 g⟩,q k (af.a6 g) (by have:=(n k a).1;omega) (by have:=(n k a).1;omega) (λh=>(n k a).2 h) b g⟩),bb,?_,?_,?_,bO,b2,?_⟩
 ·exact q _ ae ae ae (λa=>by have:=kc _ a;omega) _ am
 ·exact q _ ae ae ae (λa=>by have:=kc _ a;omega) _ ap
 ·refineλk a=>⟨(i k a.1).1,λh=>(i k a.1).2.1 h.1,λh=> ?_⟩
  rcases h with h|h
  ·exact(i k a.1).2.2 h
  ·have:=a.2;omega
 ·refineλk a=>⟨(n k a.1).1,λh=> ?_⟩
  rcases h with h|h
  ·exact(n k a.1).2 h
  ·have:=a.2;omega
 ·rintro k (a|a)
  ·exact A k a
  ·omega
 ·have V:=ai.1;have p:=aj.1;refine⟨ae,λk a ar=> ?_⟩;have be:k<H0.next:=by simpa using ar
  rw[aj.2 k ae ae];exact ai.2 k a ar
end
section
variable {H H' H0 H1:af}{r c:Nat}{T:List Tok}{ax:aa}{s s' s0:al}{g g':bE}
def QU{N:Nat}{a:aa->aa->aa->aa->af->O}{d e:aa}{Q:aa->af->Prop}(h:fp H0 r c T ax H g s)(i:∀H',fp H0 r c T ax H' g (bQ T 4 s)->W (a d e (.ptr r 0 0) (.ptr c 0 0) H') Q):W (la (aI P aB) N a d e (.ptr r 0 0) (.ptr c 0 0) (Y X) H) Q:=by
 unfold la;simp only[fl,aS,aN];refine aW (lJ h.eE 4) ?_;rintro _ k ⟨rfl,m5,j⟩;exact⟨m5.1,i _ (h.mt m5 j)⟩
def QT{N M n:Nat}(o:M<=900000000)(ay:T.length<=20000000){d:aa->aa->aa->aa->af->O}{e i:aa}{Q:aa->af->Prop}(h:fp H0 r c T ax H g s)(A:g.b7.length<=900000000)(B:g.globals.length<=900000000)(ea:g.funcs.length<=900000000)
  (a:(bif isRec T s then(iG T M (aw s)).bind λp=>eh T M n {g with b7:=g.b7++[p.1]} p.2
   else bif iT T s then eh T M n {g with globals:=g.globals++[(c7 T (aw s)).1]} (bh T [59] (c7 T (aw s)).2)
   else bif isFun T s then(iB T M (aw s)).bind λp=>eh T M n {g with funcs:=g.funcs++[p.1]} p.2
   else eh T M n g (bQ T 2 s))=D (g',s'))
  (l:∀H' g1 s1,fp H0 r c T ax H' g1 s1->g1.b7.length<=g.b7.length+1->g1.globals.length<=g.globals.length+1->g1.funcs.length<=g.funcs.length+1->eh T M n g1 s1=D (g',s')->W (d e i (.ptr r 0 0) (.ptr c 0 0) H') Q):W (la (aI P aB) N d e i (.ptr r 0 0) (.ptr c 0 0) (Y U) H) Q:=by
 unfold isRec iT isFun at a;unfold la;simp only[fl,aS,aN];refine aW (dP h.eE.rd h.eE.bW [114,101,99,111,114,100] (by simp)) ?_;rintro _ E ⟨rfl,u⟩;refine⟨u.1,?_⟩;have j:=h.aR u;cases aq:aV T s [114,101,99,111,114,100]with
 |true=>
  rw[aq,aS]at a;obtain⟨⟨x,s1⟩,f1,f2⟩:=dc.1 a;simp only[fl,aS,aN];exact R6 o ay j A f1 (L:=λH'=>d e i (.ptr r 0 0) (.ptr c 0 0) H') λH' a8=>l H' _ _ a8 (by simp) (by simp) (by simp) f2
 |false=>
  rw[aq,aN]at a;simp only[fl,aS,aN];refine aW (dP j.eE.rd j.eE.bW [103,108,111,98,97,108] (by simp)) ?_;rintro _ F ⟨rfl,v⟩;refine⟨v.1,?_⟩;have k:=j.aR v;cases aH:aV T s [103,108,111,98,97,108]with
  |true=>
   rw[aH,aS]at a;simp only[fl,aS,aN];refine R5 o ay k B (x:=(c7 T (aw s)).1) (s':=(c7 T (aw s)).2) rfl (L:=λH'=>aO H' (aI P aB 27 [.ptr r 0 0,Z [59]] H') λK z=>d e i (.ptr r 0 0) (.ptr c 0 0) z) λH' a8=> ?_
   refine aW (h0 a8.eE [59] (by simp)) ?_;rintro _ y ⟨rfl,m5,q⟩;exact⟨m5.1,l _ _ _ (a8.mt m5 q) (by simp) (by simp) (by simp) a⟩
  |false=>
   rw[aH,aN]at a;simp only[fl,aS,aN];refine aW (dP k.eE.rd k.eE.bW [102,117,110,99] (by simp)) ?_;rintro _ G ⟨rfl,w⟩;refine⟨w.1,?_⟩;have m:=k.aR w;cases bu:aV T s [102,117,110,99]with
   |true=>
    rw[bu,aS]at a;obtain⟨⟨x,s1⟩,f1,f2⟩:=dc.1 a;simp only[fl,aS,aN];exact R4 o ay m ea f1 (L:=λH'=>d e i (.ptr r 0 0) (.ptr c 0 0) H') λH' a8=>l H' _ _ a8 (by simp) (by simp) (by simp) f2
   |false=>
    rw[bu,aN]at a;simp only[fl,aS,aN];refine aW (lJ m.eE 2) ?_;rintro _ y ⟨rfl,m5,q⟩;exact⟨m5.1,l _ _ _ (m.mt m5 q) (by simp) (by simp) (by simp) a⟩
end
section
variable {H H' H0 H1:af}{r c:Nat}{T:List Tok}{ax bM bS bP:aa}{s s' s0:al}{g g':bE}
def yS{n:Nat}(k:H.get c=D (.row U 3 [[bM,bS,bP]]))(l:∀H',cx P H' .len [22] [bM]=D (I J n))(u:bM.one=X)(b:Bool)(F:aa->af->O):
  (aM (Y b) X H (br (aJ P 26 (.ptr c 0 0) 0)) λm a=>aM (Y b) X a (qr (ao P a 22 m)) λe d=>aM (Y b) X d (λq=>iM (cx P .empty .len [22] [e]) (cx P d .len [22] [e]) q) λo i=>aM (Y b) X i (br (au P .eql 3 X o (I J 12))) λp h=>j (cE (Y b) (D p) (D (Y U))) λs=>F s h)=F (Y (b&&((n:Int)==12))) H:=by
 cases b
 ·simp-implicitDefEqProofs(disch:=try exact ak)only[reduceAdd,reduceLeDiff,reduceIte,az,Bool.false_and]
 ·simp-implicitDefEqProofs(disch:=try exact ak)only[reduceAdd,reduceLeDiff,reduceIte,az,k,l,Bool.true_and]
def yT{n:Nat}(k:H.get c=D (.row U 3 [[bM,bS,bP]]))(l:∀H',cx P H' .len [23] [bS]=D (I J n))(u:bS.one=X)(b:Bool)(F:aa->af->O):
  (aM (Y b) X H (br (aJ P 26 (.ptr c 0 0) 1)) λm a=>aM (Y b) X a (qr (ao P a 23 m)) λe d=>aM (Y b) X d (λq=>iM (cx P .empty .len [23] [e]) (cx P d .len [23] [e]) q) λo i=>aM (Y b) X i (br (au P .eql 3 X o (I J 8))) λp h=>j (cE (Y b) (D p) (D (Y U))) λs=>F s h)=F (Y (b&&((n:Int)==8))) H:=by
 cases b
 ·simp-implicitDefEqProofs(disch:=try exact ak)only[reduceAdd,reduceLeDiff,reduceIte,az,Bool.false_and]
 ·simp-implicitDefEqProofs(disch:=try exact ak)only[reduceAdd,reduceLeDiff,reduceIte,az,k,l,Bool.true_and]
def Oe{n:Nat}(k:H.get c=D (.row U 3 [[bM,bS,bP]]))(l:∀H',cx P H' .len [24] [bP]=D (I J n))(u:bP.one=X)(b:Bool)(F:aa->af->O):
  (aM (Y b) X H (br (aJ P 26 (.ptr c 0 0) 2)) λm a=>aM (Y b) X a (qr (ao P a 24 m)) λe d=>aM (Y b) X d (λq=>iM (cx P .empty .len [24] [e]) (cx P d .len [24] [e]) q) λo i=>aM (Y b) X i (br (au P .eql 3 X o (I J 16))) λp h=>j (cE (Y b) (D p) (D (Y U))) λs=>F s h)=F (Y (b&&((n:Int)==16))) H:=by
 cases b
 ·simp-implicitDefEqProofs(disch:=try exact ak)only[reduceAdd,reduceLeDiff,reduceIte,az,Bool.false_and]
 ·simp-implicitDefEqProofs(disch:=try exact ak)only[reduceAdd,reduceLeDiff,reduceIte,az,k,l,Bool.true_and]
def fp.cells(h:fp H0 r c T ax H g s):∃bM bS bP,H.get c=D (.row U 3 [[bM,bS,bP]])/\(∀H',cx P H' .len [22] [bM]=D (I J g.b7.length))/\(∀H',cx P H' .len [23] [bS]=D (I J g.globals.length))/\(∀H',cx P H' .len [24] [bP]=D (I J g.funcs.length))/\bM.one=X/\bS.one=X/\bP.one=true:=by
 obtain⟨bM,bS,bP,i,j,k,av,l,m,n,e,a,d,b3,-⟩:=h;exact⟨bM,bS,bP,e,a.r4,d.nv,b3.r5,a.one,d.one,b3.one⟩
def yo(n m:Nat):((n:Int)==(m:Int))=(n==m):=by
 by_cases h:n=m
 ·subst h;simp
 ·have:(n:Int)≠(m:Int):=ae;rw[show(n==m)=U by simpa using h];exact beq_eq_false_iff_ne.2 this
def Al{N M:Nat}(z:M<=900000000)(ay:T.length<=20000000){x y:aa}{Q:aa->af->Prop}
  (q:∀H,fp H0 r c T ax H g' s'->W (pF (aI P aB) N x y (.ptr r 0 0) (.ptr c 0 0) H) Q):
  ∀(n m:Nat) (H:af) (s:al) (g:bE),n<m->g.b7.length+n<=900000000->g.globals.length+n<=900000000->g.funcs.length+n<=900000000->fp H0 r c T ax H g s->eh T M n g s=D (g',s')->W (n6 (aI P aB) N m x y (.ptr r 0 0) (.ptr c 0 0) H) Q
 |_,0,_,_,_,ag,_,_,_,_,_=>ae
 |0,m+1,_,_,_,_,_,_,_,_,a=>by cases a
 |n+1,m+1,H,s,g,ag,ao,ap,ea,h,a=>by
  rw[eh]at a;rw[n6];unfold xh;refine aW (mA h.eE.rd) ?_;rintro _ ah ⟨rfl,rfl⟩;refine⟨bo _,?_⟩;by_cases O:s.an=0
  ·have i:(s.an==0)=true:=by simpa using O
   rw[i,Bool.true_and]at a;simp-implicitDefEqProofs(disch:=try exact ak)only[bg,bG,i];refine hl (jt h.eE.rd h.eE.bW) ?_;rintro _ ai ⟨rfl,R⟩;refine⟨R.1,?_⟩;have p:=h.aR R;cases u:((aj T s.at_).kind != 0)with
   |false=>
    rw[u,aN]at a;cases a;simp-implicitDefEqProofs(disch:=try exact ak)only[bg,bG,c3,eF,Tok.v,u,i];exact q _ p
   |true=>
    rw[u,aS]at a;simp-implicitDefEqProofs(disch:=try exact ak)only[bg,bG,c3,eF,Tok.v,u,i];have full:∀e,fp H0 r c T ax e g s->((isRec T s&&g.b7.length==12)||((iT T s&&g.globals.length==8)||(isFun T s&&g.funcs.length==16)))=X->W (la (aI P aB) N (n6 (aI P aB) N m) x y (.ptr r 0 0) (.ptr c 0 0) (Y X) e) Q:=λe d A=>by
     rw[A,aS]at a;exact QU d λo j=>Al z ay q n m o _ _ ae ae ae ae j a
    have free:∀e,fp H0 r c T ax e g s->((isRec T s&&g.b7.length==12)||((iT T s&&g.globals.length==8)||(isFun T s&&g.funcs.length==16)))=U->W (la (aI P aB) N (n6 (aI P aB) N m) x y (.ptr r 0 0) (.ptr c 0 0) (Y U) e) Q:=λe d A=>by
     rw[A,aN]at a;exact QT z ay d ae ae ae a λo g1 s1 j bb w F ad=>Al z ay q n m o _ _ ae ae ae ae j ad
    refine aW (dP p.eE.rd p.eE.bW [114,101,99,111,114,100] (by simp)) ?_;rintro _ am ⟨rfl,S⟩;refine⟨S.1,?_⟩;have k:=p.aR S;obtain⟨bM,bS,bP,l,B,n2,E,G,K,L⟩:=k.cells;rw[yS l B G,show(12:Int)=((12:Nat):Int)from rfl,yo];cases bb:aV T s [114,101,99,111,114,100]&&g.b7.length==12 with
    |true=>
     simp only[fl,aS];exact full _ k (by rw[show(isRec T s&&g.b7.length==12)=X from bb];rfl)
    |false=>
     simp only[fl,aN];refine aW (dP k.eE.rd k.eE.bW [103,108,111,98,97,108] (by simp)) ?_;rintro _ e ⟨rfl,V⟩;refine⟨V.1,?_⟩;have d:=k.aR V;obtain⟨bM,bS,bP,l,B,n2,E,G,K,L⟩:=d.cells;rw[yT l n2 K,show(8:Int)=((8:Nat):Int)from rfl,yo];cases w:aV T s [103,108,111,98,97,108]&&g.globals.length==8 with
     |true=>
      simp only[fl,aS];exact full _ d (by rw[show(isRec T s&&g.b7.length==12)=U from bb,show(iT T s&&g.globals.length==8)=X from w];rfl)
     |false=>
      simp only[fl,aN];refine aW (dP d.eE.rd d.eE.bW [102,117,110,99] (by simp)) ?_;rintro _ o ⟨rfl,ab⟩;refine⟨ab.1,?_⟩;have j:=d.aR ab;obtain⟨bM,bS,bP,l,B,n2,E,G,K,L⟩:=j.cells;rw[Oe l E L,show(16:Int)=((16:Nat):Int)from rfl,yo];cases F:aV T s [102,117,110,99]&&g.funcs.length==16 with
      |true=>exact full _ j (by rw[show(isRec T s&&g.b7.length==12)=U from bb,show(iT T s&&g.globals.length==8)=U from w,show(isFun T s&&g.funcs.length==16)=X from F];rfl)
      |false=>exact free _ j (by rw[show(isRec T s&&g.b7.length==12)=U from bb,show(iT T s&&g.globals.length==8)=U from w,show(isFun T s&&g.funcs.length==16)=U from F];rfl)
  ·have i:(s.an==0)=false:=by simpa using O
   rw[i,Bool.false_and,aN]at a;cases a;simp-implicitDefEqProofs(disch:=try exact ak)only[bg,bG,i];exact q _ h
end
def Lh(H0:af)(x:bE×Int×Int)(v:aa)(H':af):Prop:=∃bM bS bP,v= .tuple [.agg [bM,bS,bP],.agg [I J x.2.1,I J x.2.2]]/\dD hQ H' (bx H0.next) x.1.b7 bM/\dD fv H' (bx H0.next) x.1.globals bS/\dD gg H' (bx H0.next) x.1.funcs bP/\aU H0 H'
def gN(s:aC)(g:bE)(s':al):bE×Int×Int:=if(dB s).2.1=0 then nB g s' else(.none,(dB s).2.1,(dB s).2.2)
def Ib(a b:Int):bp (D (.agg [I J a,I J b])) (.agg [I J a,I J b])=true:=by simp[bp,aa.beq,hg.beq]
section
variable {H:af}
end
def Mw{ax:aa}{T:List Tok}{H:af}(h:ga H ax T):cS P 59 [(0,ax)]=D (.agg [ax,I J 0,I J 0,I J 0,I J 0]):=by
 rcases h with⟨rfl,_⟩|⟨l,i,cap,rfl,_⟩<;>kernel_rfl
section
variable {H:af}
def Ab(s:aC){g':bE}{s':al}{M n:Nat}(aZ:M<=800000000)(a0:n<=800000000)(aF:(dB s).2.1=0->eh (dB s).1 M n .none ⟨0,0,0,0⟩=D (g',s')):W (aI P aB 9 [Z s] H) (Lh H (gN s g' s')):=by
 refine cO (λ_=>RX (n+1)) ?_;have aj:=(aU.push H (.row U 3 [[.aA,.aA,.aA]])).bT (.row U 2 [[I J 0,I J 0]]);unfold uL;simp-implicitDefEqProofs(disch:=try exact ak)only[bg,bG,List.length_cons,List.length_nil,Nat.zero_add,Nat.reduceAdd];refine aW (Ll s) ?_;rintro _ j ⟨ax,rfl,L,d⟩;refine⟨d.1,?_⟩;have y:=d.get ((aU.push (H.push (.row U 3 [[.aA,.aA,.aA]])) (.row U 2 [[I J 0,I J 0]])).get (af.bY H (.row U 3 [[.aA,.aA,.aA]])));have v:=d.get (af.bY (H.push (.row U 3 [[.aA,.aA,.aA]])) (.row U 2 [[I J 0,I J 0]]));have aS:=d.1;simp only[af.ch]at aS v
 have N:= @AZ s;unfold gN;generalize dB s=bW at L aF N ⊢;obtain⟨T,an,bN⟩:=bW;simp only at L aF N ⊢;have q:=aU.push j (.row U 2 [[I J an,I J bN]]);have gc:=af.bY j (.row U 2 [[I J an,I J bN]]);have z:=q.get y;have B:=q.get v;have aT:(j.push (.row U 2 [[I J an,I J bN]])).next=j.next+1:=by simp only[af.ch]
 have am:=(aj.trans d).trans q;have p:=L.aR q;by_cases G:an=0
 ·subst G;have z0:((0:Int) != 0)=false:=rfl;simp-implicitDefEqProofs(disch:=try exact ak)only[bg,bG,eF,ao,c2,ba,c2,Nat.reduceAdd,Nat.reduceLeDiff,reduceIte,aa.cells,c8,eu,ed,c3,af.iE,z0];generalize j.push (.row U 2 [[I J 0,I J bN]])=a at q gc z B aT am p ⊢;obtain⟨ay,K⟩:=N rfl;have aE:=Mw p;have aL:=p.one;have aH:∀l,dR l (.agg [ax,I J 0,I J 0,I J 0,I J 0])=D (.ptr l 0 0,.row U 5 [[ax,I J 0,I J 0,I J 0,I J 0]]):=λl=>hn l _ (by simp only[List.all_cons,List.all_nil,hs,aL,Bool.and_self])
  have x:=aU.push a (.row U 5 [[ax,I J 0,I J 0,I J 0,I J 0]]);have u:=aU.push (a.push (.row U 5 [[ax,I J 0,I J 0,I J 0,I J 0]])) (.row U 3 [[.aA,.aA,.aA]]);have V:=af.bY (a.push (.row U 5 [[ax,I J 0,I J 0,I J 0,I J 0]])) (.row U 3 [[.aA,.aA,.aA]]);have ai:(a.push (.row U 5 [[ax,I J 0,I J 0,I J 0,I J 0]])).next=a.next+1:=by simp only[af.ch]
  rw[ai]at V;have aY:=(am.trans x).trans u;have rs:fp H a.next (a.next+1) T ax ((a.push (.row U 5 [[ax,I J 0,I J 0,I J 0,I J 0]])).push (.row U 3 [[.aA,.aA,.aA]])) .none ⟨0,0,0,0⟩:=by
   refine⟨.aA,.aA,.aA,(λ_=>False),(λ_=>False),(λ_=>False),⟨u.get (af.bY _ _),(p.aR x).aR u⟩,?_,u.get (x.get z),u.get (x.get B),V,du.nil,du.nil,du.nil,λ_ h=>h.elim,λ_ h=>h.elim,λ_ h=>h.elim,ae,ae,aY.mut _⟩;intro l i m e c ag;rcases p with⟨rfl,_⟩|⟨l',a2,cap,rfl,aJ⟩
   ·cases ag
   ·cases ag;obtain⟨ro,els,bb,-⟩:=aJ.resolve_left (by rintro rfl;simp at K);exact af.a6 bb
  simp-implicitDefEqProofs(disch:=try exact ak)only[bg,bG,aE,aH,ai];refine Al (M:=M) ae ay.n (λaq aD=> ?_) n (n+1) _ _ .none ae (by simp only[bE.none,List.length_nil];omega) (by simp only[bE.none,List.length_nil];omega) (by simp only[bE.none,List.length_nil];omega) rs (aF rfl);obtain⟨bM,bS,bP,aM,aN,aO,av,a7,A,E,ab,R,S,b3,ar,au,aw,bO,b2,ah⟩:=aD;have ad:=av.rd;unfold bX at ad;have cw:=R.one;have dN:=S.one;have aV:=b3.one;have aP:=af.a6 A;have aQ:=af.a6 E;have a5:=af.a6 ab;have ap:aU H aq:=⟨ah.1,λl K=>ah.2 l K ae⟩;unfold pF;refine aW (mA av.rd) ?_;rintro _ Q ⟨rfl,rfl⟩;refine⟨bo _,?_⟩;unfold nB;by_cases w:s'.an=0
  ·have F:(s'.an==0)=true:=by simpa using w
   simp-implicitDefEqProofs(disch:=try exact ak)only[reduceAdd,reduceLeDiff,reduceIte,az,F,Bool.not_true,ab,A,E,cw,dN,aV];rw[if_pos w];have O:∀ok:Nat->Prop,(∀k,ok k->a.next+1<k)->cK Q ok ((Q.set H.next (.row U 3 [[bM,bS,bP]])).set (H.next+1) (.row U 2 [[I J 0,I J 0]])) (bx H.next):=λok o k b aK g=>by
    have:=o k aK;exact⟨by unfold bx;omega,by rw[af.get_set_other ae,af.get_set_other ae];exact g⟩
   exact a_.2 ⟨bM,bS,bP,rfl,(R.aG).a1 (O aM λk o=>(ar k o).1),(S.aG).a1 (O aN λk o=>(au k o).1),(b3.aG).a1 (O aO aw),(ap.db (bo _) _).db ae _⟩
  ·have F:(s'.an==0)=false:=by simpa using w
   simp-implicitDefEqProofs(disch:=try exact ak)only[reduceAdd,reduceLeDiff,reduceIte,az,F,Bool.not_false,ad,A,E,Ib];rw[if_neg w];exact a_.2 ⟨.aA,.aA,.aA,rfl,dD.nil,dD.nil,dD.nil,(ap.db (bo _) _).db ae _⟩
 ·have z0:(an != 0)=true:=by simpa using G
  have a3:=af.a6 z;have a4:=af.a6 B;rw[if_neg G];have aP:=af.a6 y;have aQ:=af.a6 v;have aX:=aj.trans d;simp-implicitDefEqProofs(disch:=try exact ak)only[reduceAdd,reduceLeDiff,reduceIte,az,af.iE,z0,y,v,Ib];refine a_.2 ⟨.aA,.aA,.aA,rfl,dD.nil,dD.nil,dD.nil,?_⟩
  repeat (first|exact aX|refine aU.bT ?_ _|refine aU.db ?_ ae _)
end
def eV{α:Type}(f:α->α->Bool):List α->List α->Bool
 |[],[]=>X
 |a::l,b::m=>f a b&&eV f l m
 |_,_=>U
def vr{α:Type}{f:α->α->Bool}:∀(l m:List α),l.length≠m.length->eV f l m=U
 |[],[],h=>absurd rfl h
 |[],_::_,_=>rfl
 |_::_,[],_=>rfl
 |a::l,b::m,h=>by rw[eV,vr l m (by simpa using h),Bool.and_false]
def rJ{α:Type}{f:α->α->Bool}(h:∀a,f a a=X):∀l,eV f l l=X
 |[]=>rfl
 |a::l=>by rw[eV,h,rJ h l];rfl
def ig(a b:bB):Bool:=a.name==b.name&&(a.b4==b.b4&&a.cy==b.cy)
def kL(a b:ep):Bool:=a.name==b.name&&eV ig a.fields b.fields
def mW(a b:Fn):Bool:=a.name==b.name&&(eV ig a.params b.params&&(a.has==b.has&&((a.c4==b.c4&&a.rd==b.rd)&&fU a.body b.body)))
def n7(a b:bE):Bool:=eV kL a.b7 b.b7&&(eV ig a.globals b.globals&&eV mW a.funcs b.funcs)
section
variable {α:Type}{K:jB α}{H:af}{ok:Nat->Prop}
def dD.row{l:List α}{v:aa}(h:dD K H ok l v)(c:¬l.length=0):∃L i cap ro els,v= .aG L i l.length K.esz cap/\H.get L=D (.row ro K.esz els)/\∀(j:Nat) (a:α),l[j]? =D a->∃cs,els[i+j]? =D cs/\K.V H ok a cs:=by
 rcases h with⟨rfl,h⟩|⟨L,i,cap,ro,els,aq,aH,bu,cq⟩|⟨L,i,cap,rfl,h⟩
 ·rw[h]at c;exact absurd rfl c
 ·exact⟨L,i,_,ro,els,aq,bu,cq⟩
 ·rw[h]at c;exact absurd rfl c
end
def dD.nv{H:af}{ok:Nat->Prop}{l:List bB}{v:aa}(h:dD fv H ok l v)(H':af):cx P H' .len [23] [v]=D (I J l.length):=by
 rcases h with⟨rfl,rfl⟩|⟨L,i,cap,ro,els,rfl,_⟩|⟨L,i,cap,rfl,rfl⟩
 ·exact vS
 ·exact tT
 ·exact tT
def dD.r4{H:af}{ok:Nat->Prop}{l:List ep}{v:aa}(h:dD hQ H ok l v)(H':af):cx P H' .len [22] [v]=D (I J l.length):=by
 rcases h with⟨rfl,rfl⟩|⟨L,i,cap,ro,els,rfl,_⟩|⟨L,i,cap,rfl,rfl⟩
 ·exact vR
 ·exact tS
 ·exact tS
def dD.r5{H:af}{ok:Nat->Prop}{l:List Fn}{v:aa}(h:dD gg H ok l v)(H':af):cx P H' .len [24] [v]=D (I J l.length):=by
 rcases h with⟨rfl,rfl⟩|⟨L,i,cap,ro,els,rfl,_⟩|⟨L,i,cap,rfl,rfl⟩
 ·exact vT
 ·exact tU
 ·exact tU
def xO(a:Fn):Prop:=a.params.length<=1000000000/\a.body.length<=1000000000/\eJ 1000000000 a.body
structure td(g:bE):Prop where
 r:g.b7.length<=1000000000/\∀a∈g.b7,a.fields.length<=1000000000
 kA:g.globals.length<=1000000000
 f:g.funcs.length<=1000000000/\∀a∈g.funcs,xO a
section
set_option maxRecDepth 100000
noncomputable section
def qz(G:aD)(N:Nat)(H:af):O:=some ((Y X),H)
def Si(G:aD)(N:Nat):∀ad H,bC P G N (o (o (o (o (bI Tryd.f13))))) (bs Tryd.f13) [] (bs Tryd.f13) ad H=qz G N H:=by
 refine bZ (aL _) λad H=> ?_
 delta qz;kernel_rfl
def sx(G:aD)(N:Nat)(W:aa->aa->aa->af->O)(B V bD:aa)(H:af):O:=j (aJ P 26 B 2) λaO=>j (ao P H 24 aO) λaP=>bg P .len [24] [aP] H λaQ=>j (au P .lss 3 U bD aQ) λaR=>a7 (D aR) (j (aJ P 26 B 2) λu=>j (ao P H 24 u) λv=>j (cF P 24 v bD) λw=>j (ao P H 73 w) λx=>cX H [Z [],aa.aA,Y U,Z [],I J 0,aa.aA,I J 0] λi m=>cX m [Z [],aa.aA,Y U,Z [],I J 0,aa.aA,I J 0] λk d=>bm d (ba P d 73 i x) λe=>j (aJ P 26 V 2) λn=>j (ao P e 24 n) λo=>j (cF P 24 o bD) λp=>j (ao P e 73 p) λs=>bm e (ba P e 73 k s) λz=>bif ((bp (ao P H 24 u) v&&(bp (ao P m 24 u) v&&(bp (ao P d 24 u) v&&X)))&&((bp (ao P H 73 w) x&&(bp (ao P m 73 w) x&&(bp (ao P d 73 w) x&&X)))&&((bp (ao P H 24 n) o&&(bp (ao P m 24 n) o&&(bp (ao P d 24 n) o&&(bp (ao P e 24 n) o&&X))))&&((bp (ao P H 73 p) s&&(bp (ao P m 73 p) s&&(bp (ao P d 73 p) s&&(bp (ao P e 73 p) s&&X))))&&X))))then(j (aJ P 73 i 0) λaT=>j (ao P z 9 aT) λaU=>j (aJ P 73 k 0) λaV=>j (ao P z 9 aV) λaW=>j (au P .neq 9 U aU aW) λc=>aM c U z (br (aJ P 73 i 1)) λaX S=>aM c U S (qr (ao P S 23 aX)) λaY am=>aM c U am (br (aJ P 73 k 1)) λaZ T=>aM c U T (qr (ao P T 23 aZ)) λa0 A=>aM c U A (λq=>eQ A (G 36 [aY,a0] A) q) λa1 an=>aM c U an (br (fD .not a1)) λa2 ab=>j (cE c (D (Y X)) (D a2)) λl=>aM l U ab (br (aJ P 73 i 2)) λap E=>aM l U E (qr (ao P E 4 ap)) λaq ad=>aM l U ad (br (aJ P 73 k 2)) λar F=>aM l U F (qr (ao P F 4 ar)) λav ae=>aM l U ae (br (au P .neq 4 U aq av)) λaw ag=>j (cE l (D (Y X)) (D aw)) λh=>aM h U ag (br (aJ P 73 i 3)) λax K=>aM h U K (qr (ao P K 40 ax)) λay ah=>aM h U ah (br (aJ P 73 k 3)) λaz L=>aM h U L (qr (ao P L 40 az)) λaB ai=>aM h U ai (br (au P .neq 40 U ay aB)) λaC aj=>j (cE h (D (Y X)) (D aC)) λa=>aM a U aj (br (aJ P 73 i 4)) λaE M=>aM a U M (qr (ao P M 71 aE)) λaF ak=>aM a U ak (br (aJ P 73 k 4)) λaH Q=>aM a U Q (qr (ao P Q 71 aH)) λaI y=>aM a U y (λq=>eQ y (G 37 [aF,aI] y) q) λaK al=>aM a U al (br (fD .not aK)) λaL R=>j (cE a (D (Y X)) (D aL)) λaN=>a7 (D aN) (D ((Y U),R)) (j (au P .add 3 X bD (I J 1)) λaS=>W B V aS R))else C) (qz G N H)
def nJ(G:aD)(N:Nat):Nat->aa->aa->aa->af->O
 |0,_,_,_,_=>C
 |n+1,a,c,bD,H=>sx G N (nJ G N n) a c bD H
def Sf(G:aD)(N:Nat)(c:aa->aa->aa->af->O):∀ad H,bC P G N (bd (bd (o (bd (o (o (o (bI Tryd.f13)))))))) (λad H=>c (ad 2) (ad 3) (ad 6) H) [(2,(λad H=>qz G N H))] (bs Tryd.f13) ad H=sx G N c (ad 2) (ad 3) (ad 6) H:=by
 refine bZ (aL _) λad H=> ?_
 delta sx;generalize qz G N=a;revert a;refine id ?_;intro a;kernel_rfl
def nI(G:aD)(N:Nat)(a c:aa)(H:af):O:=nJ G N N a c (I J 0) H
def Sh(G:aD)(N:Nat):∀ad H,bC P G N (o (o (o (bI Tryd.f13)))) (bs Tryd.f13) [] (bs Tryd.f13) ad H=nI G N (ad 2) (ad 3) H:=by
 refine bZ ((aX ah (Si G N) ((aX ah ((dx ah ((eP (k:=λm ad H=>nJ G N m (ad 2) (ad 3) (ad 6) H) ah (λad H=>ah) (λm=>Sf G N (nJ G N m)))))) (aL _))))) λad H=> ?_
 delta nI;generalize nJ G N N=a;revert a;refine id ?_;intro a;kernel_rfl
def sy(G:aD)(N:Nat)(T:aa->aa->aa->af->O)(v y n:aa)(H:af):O:=j (aJ P 26 v 0) λV=>j (ao P H 22 V) λW=>bg P .len [22] [W] H λab=>j (au P .lss 3 U n ab) λad=>a7 (D ad) (j (aJ P 26 v 0) λz=>j (ao P H 22 z) λF=>j (cF P 22 F n) λK=>j (aJ P 65 K 0) λA=>j (ao P H 9 A) λL=>j (aJ P 26 y 0) λB=>j (ao P H 22 B) λM=>j (cF P 22 M n) λQ=>j (aJ P 65 Q 0) λE=>j (ao P H 9 E) λR=>j (au P .neq 9 U L R) λa=>fZ a U (br (aJ P 26 v 0)) λc=>fZ a U (qr (ao P (c.heap H) 22 c.val)) λe=>fZ a U (cJ n) λh=>fZ a U (br (cF P 22 e.val h.val)) λi=>fZ a U (br (aJ P 65 i.val 1)) λd=>fZ a U (qr (ao P (d.heap (i.heap (h.heap (e.heap (c.heap H))))) 23 d.val)) λm=>fZ a U (br (aJ P 26 y 0)) λk=>fZ a U (qr (ao P (k.heap (m.heap (d.heap (i.heap (h.heap (e.heap (c.heap H))))))) 22 k.val)) λo=>fZ a U (cJ n) λp=>fZ a U (br (cF P 22 o.val p.val)) λs=>fZ a U (br (aJ P 65 s.val 1)) λl=>fZ a U (qr (ao P (l.heap (s.heap (p.heap (o.heap (k.heap (m.heap (d.heap (i.heap (h.heap (e.heap (c.heap H))))))))))) 23 l.val)) λu=>fZ a U (λq=>eQ (u.heap (l.heap (s.heap (p.heap (o.heap (k.heap (m.heap (d.heap (i.heap (h.heap (e.heap (c.heap H)))))))))))) (G 36 [m.val,u.val] (u.heap (l.heap (s.heap (p.heap (o.heap (k.heap (m.heap (d.heap (i.heap (h.heap (e.heap (c.heap H))))))))))))) q) λw=>fZ a U (br (fD .not w.val)) λx=>j (cE a (D (Y X)) (D x.val)) λS=>bif oF [0,1,0,7,15,31,0,64,0,448,960,1984,4095,8191,16383,32767,16383,131071,262143,524287,16383,1064959,16383,7356415,15745023,32522239,67108863,134217727,268435455] [0,1,2,3,4,5,6,7,8,9,10,11,12,13,14,15,16,17,18,19,20,21,22,23,24,25,26,27,28] [⟨0,.pure z,λH=>C⟩,⟨1,.read F,λH=>ao P H 22 z⟩,⟨2,.pure n,λH=>C⟩,⟨3,.pure K,λH=>C⟩,⟨4,.pure A,λH=>C⟩,⟨5,.read L,λH=>ao P H 9 A⟩,⟨6,.pure B,λH=>C⟩,⟨7,.read M,λH=>ao P H 22 B⟩,⟨8,.pure n,λH=>C⟩,⟨9,.pure Q,λH=>C⟩,⟨10,.pure E,λH=>C⟩,⟨11,.read R,λH=>ao P H 9 E⟩,⟨12,.pure a,λH=>C⟩,⟨13,.pure a,λH=>C⟩,⟨14,c,λH=>C⟩,⟨15,e,λH=>ao P H 22 c.val⟩,⟨16,h,λH=>C⟩,⟨17,i,λH=>C⟩,⟨18,d,λH=>C⟩,⟨19,m,λH=>ao P H 23 d.val⟩,⟨20,k,λH=>C⟩,⟨21,o,λH=>ao P H 22 k.val⟩,⟨22,p,λH=>C⟩,⟨23,s,λH=>C⟩,⟨24,l,λH=>C⟩,⟨25,u,λH=>ao P H 23 l.val⟩,⟨26,w,λH=>C⟩,⟨27,x,λH=>C⟩,⟨28,.pure S,λH=>C⟩] H then(a7 (D S) (D ((Y U),(x.heap (w.heap (u.heap (l.heap (s.heap (p.heap (o.heap (k.heap (m.heap (d.heap (i.heap (h.heap (e.heap (c.heap H)))))))))))))))) (j (au P .add 3 X n (I J 1)) λae=>T v y ae (x.heap (w.heap (u.heap (l.heap (s.heap (p.heap (o.heap (k.heap (m.heap (d.heap (i.heap (h.heap (e.heap (c.heap H))))))))))))))))else C) (nI G N v y H)
def lL(G:aD)(N:Nat):Nat->aa->aa->aa->af->O
 |0,_,_,_,_=>C
 |n+1,a,c,d,H=>sy G N (lL G N n) a c d H
def Sg(G:aD)(N:Nat)(c:aa->aa->aa->af->O):∀ad H,bC P G N (bd (bd (o (bd (o (o (bI Tryd.f13))))))) (λad H=>c (ad 2) (ad 3) (ad 5) H) [(0,(λad H=>nI G N (ad 2) (ad 3) H))] (bs Tryd.f13) ad H=sy G N c (ad 2) (ad 3) (ad 5) H:=by
 refine bZ (aL _) λad H=> ?_
 delta sy;generalize nI G N=a;revert a;refine id ?_;intro a;kernel_rfl
def wO(G:aD)(N:Nat)(ag av:aa)(H:af):O:=ca H (dR (H).next ag) λe k=>ca k (dR (k).next av) λh d=>j (aJ P 26 e 0) λak=>j (ao P d 22 ak) λE=>bg P .len [22] [E] d λF=>j (aJ P 26 h 0) λK=>j (ao P d 22 K) λL=>bg P .len [22] [L] d λM=>j (au P .neq 3 U F M) λa=>aM a U d (br (aJ P 26 e 2)) λQ o=>aM a U o (qr (ao P o 24 Q)) λv p=>aM a U p (λq=>iM (cx P .empty .len [24] [v]) (cx P p .len [24] [v]) q) λR z=>aM a U z (br (aJ P 26 h 2)) λS s=>aM a U s (qr (ao P s 24 S)) λw u=>aM a U u (λq=>iM (cx P .empty .len [24] [w]) (cx P u .len [24] [w]) q) λT A=>aM a U A (br (au P .neq 3 U R T)) λV B=>j (cE a (D (Y X)) (D V)) λc=>aM c U B (br (aJ P 26 e 1)) λW l=>aM c U l (qr (ao P l 23 W)) λab x=>aM c U x (br (aJ P 26 h 1)) λad m=>aM c U m (qr (ao P m 23 ad)) λae i=>aM c U i (λq=>eQ i (G 36 [ab,ae] i) q) λah y=>aM c U y (br (fD .not ah)) λai n=>j (cE c (D (Y X)) (D ai)) λaj=>a7 (D aj) (D ((Y U),n)) (lL G N N e h (I J 0) n)
def Q6(N:Nat){ag av:aa}{H:af}{r:aa×af}(h:wO (aI P aB) N ag av H=D r):aI P aB 13 [ag,av] H=D r:=cZ N (S:=λG=>wO G N ag av H) Tryd.func13 (λG=>eo ((aX ah ((aX ah ((aX ah (Sh G N) ((aX ah ((dx ah ((eP (k:=λm ad H=>lL G N m (ad 2) (ad 3) (ad 5) H) ah (λad H=>ah) (λm=>Sg G N (lL G N m)))))) (aL _))))) (aL _))) (aL _))) (by delta wO;generalize lL G N N=a;revert a;refine id ?_;intro a;kernel_rfl)) h
def nQ(G:aD)(N:Nat)(H:af):O:=some ((Y X),H)
def SH(G:aD)(N:Nat):∀ad H,bC P G N (o (o (o (bI Tryd.f36)))) (bs Tryd.f36) [] (bs Tryd.f36) ad H=nQ G N H:=by
 refine bZ (aL _) λad H=> ?_
 delta nQ;kernel_rfl
def qK(G:aD)(N:Nat)(i:aa->aa->aa->af->O)(ag av c:aa)(H:af):O:=bg P .len [23] [ag] H λu=>j (au P .lss 3 U c u) λv=>a7 (D v) (j (cF P 23 ag c) λw=>j (aJ P 68 w 0) λx=>j (ao P H 9 x) λy=>j (cF P 23 av c) λz=>j (aJ P 68 z 0) λA=>j (ao P H 9 A) λB=>j (au P .neq 9 U y B) λa=>aM a U H (cJ ag) λE k=>aM a U k (cJ c) λF m=>aM a U m (br (cF P 23 E F)) λK n=>aM a U n (br (aJ P 68 K 1)) λL e=>aM a U e (qr (ao P e 40 L)) λM o=>aM a U o (cJ av) λQ p=>aM a U p (cJ c) λR q=>aM a U q (br (cF P 23 Q R)) λS s=>aM a U s (br (aJ P 68 S 1)) λT h=>aM a U h (qr (ao P h 40 T)) λV l=>aM a U l (br (au P .neq 40 U M V)) λW d=>j (cE a (D (Y X)) (D W)) λab=>a7 (D ab) (D ((Y U),d)) (j (au P .add 3 X c (I J 1)) λbR=>i ag av bR d)) (nQ G N H)
def mJ(G:aD)(N:Nat):Nat->aa->aa->aa->af->O
 |0,_,_,_,_=>C
 |n+1,ag,av,a,H=>qK G N (mJ G N n) ag av a H
def SG(G:aD)(N:Nat)(c:aa->aa->aa->af->O):∀ad H,bC P G N (bd (bd (o (bd (o (o (bI Tryd.f36))))))) (λad H=>c (ad 0) (ad 1) (ad 5) H) [(0,(λad H=>nQ G N H))] (bs Tryd.f36) ad H=qK G N c (ad 0) (ad 1) (ad 5) H:=by
 refine bZ (aL _) λad H=> ?_
 delta qK;generalize nQ G N=a;revert a;refine id ?_;intro a;kernel_rfl
def qJ(G:aD)(N:Nat)(ag av:aa)(H:af):O:=bg P .len [23] [ag] H λc=>bg P .len [23] [av] H λd=>j (au P .neq 3 U c d) λa=>a7 (D a) (D ((Y U),H)) (mJ G N N ag av (I J 0) H)
def Rm(N:Nat){ag av:aa}{H:af}{r:aa×af}(h:qJ (aI P aB) N ag av H=D r):aI P aB 36 [ag,av] H=D r:=cZ N (S:=λG=>qJ G N ag av H) Tryd.func36 (λG=>eo ((aX ah ((aX ah ((aX ah (SH G N) ((aX ah ((dx ah ((eP (k:=λm ad H=>mJ G N m (ad 0) (ad 1) (ad 5) H) ah (λad H=>ah) (λm=>SG G N (mJ G N m)))))) (aL _))))) (aL _))) (aL _))) (by delta qJ;generalize mJ G N N=a;revert a;refine id ?_;intro a;kernel_rfl)) h
