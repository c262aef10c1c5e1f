/-
  Texts of one proof, laid together: V3 Rh Ri Rj Rk Rl Rm Rn Qj Ro N1b Qk ShPb.
-/
import Derived.Test.YtghmbpmaafnodaaDoorMR
set_option linter.unusedVariables false
set_option linter.unusedSimpArgs false
set_option linter.defProp false
open Option renaming some→D,none→Z
open Bool renaming true→X,false→U
open Go.cn.ad renaming int→I,str→Y,bool→C
open Go.IntKind renaming i64→J
namespace Go.Proofs.YtghmbpmaafnodaaDoor
open Go.cn
open Nat (reduceAdd reduceLeDiff)
section
variable {H0 H:ae}{r b3 cK:Nat}{T:List Tok}{au:ad}{s0 s:an}{t:Tok}
def Pr{a:b2}{b9 bv c v:ad}(g:H.get cK=D (.row U 9 [a.cells b9 bv c]))(o:v.one=X):aY P H 71 (.ptr cK 0 5) v=D (H.set cK (.row U 9 [a.cells b9 v c])):=by
 rw[FP sH g rfl (by rw[iI o];rfl) (by rw[iI o,List.all_cons,o];rfl) bk,iI o];rfl
def Ps{a:b2}{b9 bv c v:ad}(g:H.get cK=D (.row U 9 [a.cells b9 bv c]))(o:v.one=X):aY P H 71 (.ptr cK 0 6) v=D (H.set cK (.row U 9 [a.cells b9 bv v])):=by
 rw[FP sH g rfl (by rw[iI o];rfl) (by rw[iI o,List.all_cons,o];rfl) bk,iI o];rfl
def M3(aw:T.length<=20000000)(c:bQ H0 r T au s0)(b:fb H0 H r b3 cK au t s (b2.cells {kind:=0,pos:=t.pos} .az .az .az))(bL:fe H0 au T):
  W (mv (aE P aA) (.ptr r 0 0) (.ptr H0.next 0 0) (.ptr b3 0 0) (.ptr cK 0 0) (C X) H) (fx H0 r T au ((bif t.text==[108,101,116]then p4 T (av s)else pM T (av s)).1.at t.pos) (bif t.text==[108,101,116]then p4 T (av s)else pM T (av s)).2):=by
 have a:=c.rd.lt;have M:=c.bL.one;have ai:=b.dH;have ak:=b.ff;obtain⟨m1,d1⟩:=e6 b.rd (av s);have i:=(b.mut a m1 d1).set a (b2.cells {kind:=1,pos:=t.pos} .az .az .az);have y:=b.rd;unfold bJ at y;have g4:=b.g4;have gb:=b.rd.lt;have ff:=ae.aV g4;simp only[b2.cells]at g4;simp-implicitDefEqProofs(disch:=try exact aj)only[mv,reduceAdd,reduceLeDiff,reduceIte,ax,fa,y,M,g4];refine aO (nh (c.mut i.m i.rd)) ?_;rintro _ S ⟨rfl,m3,N⟩;refine⟨m3.1,?_⟩;have q:=i.mut a m3 N.rd;have j:=q.set a (b2.cells {kind:=1,name:=(bq T (av s)).1,pos:=t.pos} .az .az .az);have n:=q.g4;have af:=ae.aV n;simp only[b2.cells]at n
 simp-implicitDefEqProofs(disch:=try exact aj)only[reduceAdd,reduceLeDiff,reduceIte,ax,fa,n];refine aO (gN (c.mut j.m j.rd) [58] (by simp)) ?_;rintro _ V ⟨rfl,m5,A⟩;refine⟨m5.1,?_⟩;have G:=j.mut a m5 A.rd;refine aO (si A) ?_;rintro _ aa ⟨rfl,m6,O⟩;refine⟨m6.1,?_⟩;have k:=G.mut a m6 O.rd;have u:=k.set a (b2.cells {kind:=1,name:=(bq T (av s)).1,cp:=(cO T (a_ T [58] (bq T (av s)).2)).1.1,c2:=(cO T (a_ T [58] (bq T (av s)).2)).1.2,pos:=t.pos} .az .az .az);have e:=k.g4;have E:=k.g3;have ag:=ae.aV e;simp only[b2.cells]at e;unfold p4 pM df;generalize cO T (a_ T [58] (bq T (av s)).2)=o at*;generalize bq T (av s)=cq at*
 cases z:t.text==[108,101,116]with
 |false=>
  simp-implicitDefEqProofs(disch:=try exact aj)only[reduceAdd,reduceLeDiff,reduceIte,ax,fa,e,E,z];exact ES c u (ck.nil _ _)
 |true=>
  have d:=u.set a (b2.cells {kind:=2,name:=cq.1,cp:=o.1.1,c2:=o.1.2,pos:=t.pos} .az .az .az);rw[ae.set_set]at d;simp-implicitDefEqProofs(disch:=try exact aj)only[reduceAdd,reduceLeDiff,reduceIte,ax,fa,e,E,z];refine aO (gN (c.mut d.m d.rd) [61] (by simp)) ?_;rintro _ ab ⟨rfl,m8,B⟩;refine⟨m8.1,?_⟩;have w:=d.mut a m8 B.rd;refine aO (qh aw B) ?_;rintro v F ⟨m9,Q,he⟩;refine⟨m9.1,?_⟩;have x:=w.mut a m9 Q.rd;obtain⟨cs,rfl,L,bz⟩:=he.cells;have aB:∀l,b6 P l 41 1 [(0,.agg cs)]=D (.aD l 0 1 11 (D 1),.row U 11 [cs]):=λl=>j1 l cs L bz
  have p:=x.g4;have ah:=ae.aV p;have ad:=ae.aV w.g4;obtain⟨K,R⟩:=fb.expr a (c':=b2.cells {kind:=2,name:=cq.1,cp:=o.1.1,c2:=o.1.2,pos:=t.pos} (.aD F.next 0 1 11 (D 1)) .az .az) x (cJ.aW (dp.lU λl h=>by unfold bn at*;first|omega|(simp only[ae.dz]at*;omega)) _ _ he) rfl;simp only[b2.cells]at p;simp-implicitDefEqProofs(disch:=try exact aj)only[reduceAdd,reduceLeDiff,reduceIte,ax,fa,aB,p,ae.h1];exact ES c K R
def E3{n:Nat}(ah:sN n)(aw:T.length<=20000000)(q:bQ H0 r T au s0)(b:fb H0 H r b3 cK au t s (b2.cells {kind:=0,pos:=t.pos} .az .az .az)){a:Int}{e:aJ}{i:List br}{s1 s2:an}(aQ:a=5\/a=6)(aa:bG T (av s)=(e,s1))(V:gC T n s1=D (i,s2))
  {Q:ad->ae->Prop} {k:ad->ae->O} (af:∀(bP:ae) (b9 bv:ad),fb H0 bP r b3 cK au t s2 (b2.cells {kind:=a,pos:=t.pos} b9 bv .az)->ck bP (bn (cK+1)) [e] b9->da bP (bn (cK+1)) i bv->W (k (.tuple []) bP) Q):
  W (j (b7 (.ptr r 0 0)) λam=>j (aH P 59 am 1) λap=>j (aq P H 3 ap) λar=>j (ao P .add 3 X ar (I J 1)) λay=>j (b7 (.ptr r 0 0)) λaC=>j (aH P 59 aC 1) λaF=>
   bd H (aY P H 3 aF ay) λz=>j (aH P 112 (.ptr cK 0 0) 0) λaG=>bd z (aY P z 3 aG (I J a)) λA=>aI A (aE P aA 40 [.ptr r 0 0,I J 0] A) λaK B=>b1 B (b6 P B.next 41 1 [(0,aK)]) λaL E=>
   j (aH P 112 (.ptr cK 0 0) 3) λaM=>bd E (aY P E 41 aM aL) λF=>aI F (aE P aA 56 [.ptr r 0 0] F) λaN G=>j (aH P 112 (.ptr cK 0 0) 4) λaP=>bd G (aY P G 71 aP aN) λS=>k (.tuple []) S) Q:=by
 have c:=q.rd.lt;have ab:=q.bL.one;have aU:=b.dH;have aX:=b.ff;obtain⟨m1,d1⟩:=e6 b.rd (av s);have o:=(b.mut c m1 d1).set c (b2.cells {kind:=a,pos:=t.pos} .az .az .az);have L:=b.rd;unfold bJ at L;have g4:=b.g4;have gb:=b.rd.lt;have ff:=ae.aV g4;simp only[b2.cells]at g4;simp-implicitDefEqProofs(disch:=try exact aj)only[reduceAdd,reduceLeDiff,reduceIte,ax,fa,L,ab,g4];refine aO (qh aw (q.mut o.m o.rd)) ?_;rintro v d ⟨m4,M,he⟩;refine⟨m4.1,?_⟩;rw[aa]at M he;have y:=o.mut c m4 M.rd;obtain⟨cs,rfl,R,bz⟩:=he.cells;have aB:∀l,b6 P l 41 1 [(0,.agg cs)]=D (.aD l 0 1 11 (D 1),.row U 11 [cs]):=λl=>j1 l cs R bz
 have x:=y.g4;have aS:=ae.aV x;have aR:=ae.aV o.g4;obtain⟨p,ai⟩:=fb.expr c (c':=b2.cells {kind:=a,pos:=t.pos} (.aD d.next 0 1 11 (D 1)) .az .az) y (cJ.aW (dp.lU λl h=>by unfold bn at*;first|omega|(simp only[ae.dz]at*;omega)) _ _ he) rfl;have al:cK<((d.set cK (.row U 9 [b2.cells {kind:=a,pos:=t.pos} (.aD d.next 0 1 11 (D 1)) .az .az])).push (.row U 11 [cs])).next:=ae.aV p.g4
 simp only[b2.cells]at x al;simp-implicitDefEqProofs(disch:=try exact aj)only[reduceAdd,reduceLeDiff,reduceIte,ax,fa,aB,x,ae.h1];refine aO (ah aw (q.mut p.m p.rd) i s2 V) ?_;rintro bv u ⟨m7,ag,K⟩;refine⟨m7.1,?_⟩;have w:=p.mut c m7 ag.rd;have ak:=ai.aW (dp.mut m7 (ok':=bn (cK+1)) (by unfold bn;omega) λ_ h=>h);have N:da u (bn (cK+1)) i bv:=K.aW (ek.lU λl h=>by unfold bn at*;simp only[b2.cells]at h;omega);have jr:=K.eb;have st:=Pr w.g4 jr;have aT:=ae.aV w.g4;simp-implicitDefEqProofs(disch:=try exact aj)only[bg,bx,eg,Nat.zero_add];rw[st,vf (by simp only[ae.dz];omega)];have ks:ek u (bn (cK+1)) (u.set cK (.row U 9 [b2.cells {kind:=a,pos:=t.pos} (.aD d.next 0 1 11 (D 1)) bv .az])) (bn (cK+1)):=ek.set _ (by unfold bn;omega) λ_ h=>h
 exact af _ _ _ (w.set c _) (ak.aW ks.ex) (N.aW ks)
end
def L5{n:Nat}(am:sN n):sV (n+1):=by
 intro H r T au s aw a e s' h;refine cG (λ_=>MQ 0) ?_;have i:=a.rd.lt;have ab:=a.bL.one;have ar:=aP.push H (.row U 9 [[I J 0,Y [],Y [],I J 0,.az,.az,.az,I J 0,I J 0]]);simp-implicitDefEqProofs(disch:=try exact aj)only[ss,reduceAdd,reduceLeDiff,reduceIte,ax,fa];refine aO (h3 (a.rd.aL ar) (a.bL.aL ar)) ?_;rintro _ o ⟨rfl,N⟩;refine⟨N.1,?_⟩;have n2:=N.1;simp only[ae.b8]at n2;generalize bl:al T s.at_=t;have a9:=((ar.trans N).bI (.row U 4 [[I J t.kind,Y t.text,I J t.n,I J t.pos]])).bI (.row U 9 [b2.cells {kind:=0,pos:=t.pos} .az .az .az])
 have bs:=(aP.push o (.row U 4 [[I J t.kind,Y t.text,I J t.n,I J t.pos]])).bI (.row U 9 [b2.cells {kind:=0,pos:=t.pos} .az .az .az]);have b:fb H ((o.push (.row U 4 [[I J t.kind,Y t.text,I J t.n,I J t.pos]])).push (.row U 9 [b2.cells {kind:=0,pos:=t.pos} .az .az .az])) r o.next (o.next+1) au t s (b2.cells {kind:=0,pos:=t.pos} .az .az .az):=
  ⟨a9.mut _,a.rd.aL a9,bs.get (N.get (ae.bM H _)),by simp-implicitDefEqProofs(disch:=try exact aj)only[dO],ae.bM (o.push _) _,af,af⟩
 simp-implicitDefEqProofs(disch:=try exact aj)only[ss,reduceAdd,reduceLeDiff,reduceIte,ax,fa,Tok.v];simp only[b2.cells]at b;generalize (o.push (.row U 4 [[I J t.kind,Y t.text,I J t.n,I J t.pos]])).push (.row U 9 [[I J 0,Y [],Y [],I J 0,.az,.az,.az,I J t.pos,I J 0]])=aG at b ⊢;have u:fb H aG r o.next (o.next+1) au t s (b2.cells {kind:=0,pos:=t.pos} .az .az .az):=b
 generalize o.next=b3 at u ⊢
 clear b;simp only[nQ,bl,c1]at h;obtain⟨⟨bj,s1⟩,c,aN⟩:=h;simp only[aS,b5]at aN;obtain⟨rfl,rfl⟩:=aN;have F:=a.mut u.m u.rd;have bc:∀(H':ae),aP aG H'->(aZ T s [118,97,114]||aZ T s [108,101,116])=X->W (mv (aE P aA) (.ptr r 0 0) (.ptr H.next 0 0) (.ptr b3 0 0) (.ptr (b3+1) 0 0) (C X) H') (fx H r T au (bj.at t.pos) s1):=by
  intro H' a8 M;rw[M,aR,aS]at c;have:=M3 aw a (u.mut i (a8.mut _) (u.rd.aL a8)) a.bL;rw[c]at this;exact this
 refine aO (dA F.rd F.bL [118,97,114] (by simp)) ?_;rintro _ bd ⟨rfl,K⟩;refine⟨K.1,?_⟩;cases M:aZ T s [118,97,114]with
 |true=>
  simp-implicitDefEqProofs(disch:=try exact aj)only[reduceAdd,reduceLeDiff,reduceIte,ax];exact bc bd K (by rw[M];rfl)
 |false=>
  simp-implicitDefEqProofs(disch:=try exact aj)only[reduceAdd,reduceLeDiff,reduceIte,ax];refine aO (dA (F.aL K).rd (F.aL K).bL [108,101,116] (by simp)) ?_;rintro _ be ⟨rfl,ba⟩;refine⟨ba.1,?_⟩;have ay:=K.trans ba;cases hle:aZ T s [108,101,116]with
  |true=>exact bc be ay (by rw[hle,Bool.or_true])
  |false=>
   rw[M,hle,Bool.or_false,aK]at c;simp-implicitDefEqProofs(disch:=try exact aj)only[mv,reduceAdd,reduceLeDiff,reduceIte,ax];have ad:=F.aL ay;refine aO (dA ad.rd ad.bL [105,102] (by simp)) ?_;rintro _ bt ⟨rfl,aC⟩;refine⟨aC.1,?_⟩;have a_:=ay.trans aC;have ag:=ad.aL aC;have R:=u.mut i (a_.mut _) (u.rd.aL a_);have bN:=u.dH;cases aY:aZ T s [105,102]with
   |true=>
    simp only[aY,aR,c1]at c;obtain⟨⟨y,s2⟩,aa,z⟩:=c;simp-implicitDefEqProofs(disch:=try exact aj)only[eE,aR];refine E3 am aw a R (.inl rfl) (e:=(bG T (av s)).1) (s1:=(bG T (av s)).2) rfl aa (k:=λ_ L=>aI L (aE P aA 23 [.ptr r 0 0,Y [101,108,115,101]] L) _) ?_;intro bP b9 bv jf an ao;have a4:=a.mut jf.m jf.rd;refine aO (dA a4.rd a4.bL [101,108,115,101] (by simp)) ?_;rintro _ aH ⟨rfl,j⟩;refine⟨j.1,?_⟩;have d:=jf.mut i (j.mut _) (jf.rd.aL j);have a5:=an.aL j;have a6:=ao.aW (ek.aL j λ_ h=>h);cases aX:aZ T s2 [101,108,115,101]with
    |false=>
     simp only[aX,aK,aS,b5]at z;obtain⟨rfl,rfl⟩:=z;simp-implicitDefEqProofs(disch:=try exact aj)only[reduceAdd,reduceLeDiff,reduceIte,ax];exact qj a d a5 a6 (da.nil _ _)
    |true=>
     simp only[aX,aR,c1]at z;obtain⟨⟨bh,e1⟩,bk,aQ⟩:=z;simp only[aS,b5]at aQ;obtain⟨rfl,rfl⟩:=aQ;obtain⟨B,V⟩:=e6 d.rd (av s2);have fB:=d.mut i B V;have E:=d.rd;unfold bJ at E;have br:=d.rd.lt;simp-implicitDefEqProofs(disch:=try exact aj)only[reduceAdd,reduceLeDiff,reduceIte,ax,E,ab];refine aO (am aw (a.mut fB.m fB.rd) bh e1 bk) ?_;rintro bi w ⟨q,G,aU⟩;refine⟨q.1,?_⟩;have p:=fB.mut i q G.rd;have bF:=ae.aV p.g4;have bH:=ae.aV fB.g4;have st:=Ps p.g4 aU.eb;simp-implicitDefEqProofs(disch:=try exact aj)only[bg,bx,eg,Nat.zero_add];rw[st,vf (by simp only[ae.dz];omega)];have a7:ek aH (bn (b3+1+1)) w (bn (b3+1+1)):=ek.mut (B.trans q) (by unfold bn;omega) λ_ h=>h
     have ks:ek w (bn (b3+1+1)) (w.set (b3+1) (.row U 9 [b2.cells {kind:=5,pos:=t.pos} b9 bv bi])) (bn (b3+1+1)):=ek.set _ (by unfold bn;omega) λ_ h=>h
     exact qj a (p.set i _) ((a5.aW a7.ex).aW ks.ex) ((a6.aW a7).aW ks) ((aU.aW (ek.lU λl h=>by unfold bn at*;omega)).aW ks)
   |false=>
    simp only[aY,aK]at c;simp-implicitDefEqProofs(disch:=try exact aj)only[reduceAdd,reduceLeDiff,reduceIte,ax];refine aO (dA ag.rd ag.bL [119,104,105,108,101] (by simp)) ?_;rintro _ bu ⟨rfl,O⟩;refine⟨O.1,?_⟩;have ah:=ag.aL O;have S:=R.mut i (O.mut _) (R.rd.aL O);cases a3:aZ T s [119,104,105,108,101]with
    |true=>
     simp only[a3,aR,c1]at c;obtain⟨⟨y,s2⟩,aa,z⟩:=c;simp only[aS,b5]at z;obtain⟨rfl,rfl⟩:=z;simp-implicitDefEqProofs(disch:=try exact aj)only[eE,aR];refine E3 am aw a S (.inr rfl) (e:=(bG T (av s)).1) (s1:=(bG T (av s)).2) rfl aa (k:=λ_ L=>gM (aE P aA) (.ptr H.next 0 0) (.ptr (b3+1) 0 0) L) ?_;exactλbP b9 bv jf an ao=>qj a jf an ao (da.nil _ _)
    |false=>
     simp only[a3,aK]at c;simp-implicitDefEqProofs(disch:=try exact aj)only[reduceAdd,reduceLeDiff,reduceIte,ax];refine aO (dA ah.rd ah.bL [114,101,116,117,114,110] (by simp)) ?_;rintro _ bw ⟨rfl,Q⟩;refine⟨Q.1,?_⟩;have ai:=ah.aL Q;have x:=S.mut i (Q.mut _) (S.rd.aL Q);cases a2:aZ T s [114,101,116,117,114,110]with
     |true=>
      simp only[a2,aR,aS]at c;obtain⟨m9,d9⟩:=e6 x.rd (av s);have d:=(x.mut i m9 d9).set i (b2.cells {kind:=7,pos:=t.pos} .az .az .az);have a1:=x.rd;unfold bJ at a1;have g8:=x.g4;have bK:=x.rd.lt;have bC:=ae.aV g8;simp only[b2.cells]at g8;simp-implicitDefEqProofs(disch:=try exact aj)only[reduceAdd,reduceLeDiff,reduceIte,ax,fa,a1,ab,g8];refine aO (dA d.rd (a.mut d.m d.rd).bL [59] (by simp)) ?_;rintro _ bf ⟨rfl,aF⟩;refine⟨aF.1,?_⟩;have fB:=d.mut i (aF.mut _) (d.rd.aL aF);unfold sh at c;cases aT:aZ T (av s) [59]with
      |true=>
       simp only[aT,aR,b5]at c;obtain⟨rfl,rfl⟩:=c;simp-implicitDefEqProofs(disch:=try exact aj)only[reduceAdd,reduceLeDiff,reduceIte,ax,Bool.not_true];exact Fe a fB (ck.nil _ _)
      |false=>
       simp only[aT,aK,b5]at c;obtain⟨rfl,rfl⟩:=c;simp-implicitDefEqProofs(disch:=try exact aj)only[reduceAdd,reduceLeDiff,reduceIte,ax,Bool.not_false];refine aO (qh aw (a.mut fB.m fB.rd)) ?_;rintro v w ⟨q,G,he⟩;refine⟨q.1,?_⟩;have p:=fB.mut i q G.rd;obtain⟨cs,rfl,y,bz⟩:=he.cells;have aB:∀l,b6 P l 41 1 [(0,.agg cs)]=D (.aD l 0 1 11 (D 1),.row U 11 [cs]):=λl=>j1 l cs y bz
       have A:=p.g4;have bq:=ae.aV A;have bp:=ae.aV fB.g4;obtain⟨od,ap⟩:=fb.expr i (c':=b2.cells {kind:=7,pos:=t.pos} (.aD w.next 0 1 11 (D 1)) .az .az) p (cJ.aW (dp.lU λl h=>by unfold bn at*;first|omega|(simp only[ae.dz]at*;omega)) _ _ he) rfl;simp only[b2.cells]at A;simp-implicitDefEqProofs(disch:=try exact aj)only[reduceAdd,reduceLeDiff,reduceIte,ax,fa,aB,A,ae.h1];exact Fe a od ap
     |false=>
      simp only[a2,aK]at c;simp-implicitDefEqProofs(disch:=try exact aj)only[reduceAdd,reduceLeDiff,reduceIte,ax];refine aO (dA ai.rd ai.bL [112,114,105,110,116] (by simp)) ?_;rintro _ aH ⟨rfl,j⟩;refine⟨j.1,?_⟩;have bB:=ai.aL j;have d:=x.mut i (j.mut _) (x.rd.aL j);have g9:=d.g4;have br:=d.rd.lt;have bD:=ae.aV g9;cases a0:aZ T s [112,114,105,110,116]with
      |true=>
       simp only[a0,aR,aS]at c;obtain⟨B,V⟩:=e6 d.rd (av s);have fB:=(d.mut i B V).set i (b2.cells {kind:=8,pos:=t.pos} .az .az .az);have E:=d.rd;unfold bJ at E;simp only[b2.cells]at g9;unfold tX at c;simp only[b5]at c;obtain⟨rfl,rfl⟩:=c;simp-implicitDefEqProofs(disch:=try exact aj)only[reduceAdd,reduceLeDiff,reduceIte,ax,fa,E,ab,g9];refine aO (qh aw (a.mut fB.m fB.rd)) ?_;rintro v w ⟨q,G,he⟩;refine⟨q.1,?_⟩;have p:=fB.mut i q G.rd;obtain⟨cs,rfl,y,bz⟩:=he.cells;have aB:∀l,b6 P l 41 1 [(0,.agg cs)]=D (.aD l 0 1 11 (D 1),.row U 11 [cs]):=λl=>j1 l cs y bz
       have A:=p.g4;have bq:=ae.aV A;have bp:=ae.aV fB.g4;obtain⟨od,ap⟩:=fb.expr i (c':=b2.cells {kind:=8,pos:=t.pos} (.aD w.next 0 1 11 (D 1)) .az .az) p (cJ.aW (dp.lU λl h=>by unfold bn at*;first|omega|(simp only[ae.dz]at*;omega)) _ _ he) rfl;simp only[b2.cells]at A;simp-implicitDefEqProofs(disch:=try exact aj)only[reduceAdd,reduceLeDiff,reduceIte,ax,fa,aB,A,ae.h1];refine aO (gN (a.mut od.m od.rd) [59] (by simp)) ?_;rintro _ bA ⟨rfl,aq,bo⟩;refine⟨aq.1,?_⟩;exact qj a (od.mut i aq bo.rd) (ap.aW (dp.mut aq (by unfold bn;omega) λ_ h=>h)) (da.nil _ _) (da.nil _ _)
      |false=>
       simp only[a0,aK,aS]at c;have aJ:=g9;simp only[b2.cells]at aJ;simp-implicitDefEqProofs(disch:=try exact aj)only[reduceAdd,reduceLeDiff,reduceIte,ax,fa,aJ];refine aO (L2 aw (a.mut d.m d.rd) t.pos) ?_;rintro v bf ⟨B,ak,he⟩;refine⟨B.1,?_⟩;have fB:=d.mut i B ak.rd;obtain⟨cs,rfl,y,bz⟩:=he.cells;have qO:List.take 9 cs=cs:=List.take_of_length_le af;have aM:=fB.g2;have bE:=ae.aV aM;rw[c]at he ak;simp-implicitDefEqProofs(disch:=try exact aj)only[reduceAdd,reduceLeDiff,reduceIte,ax,fa,aM,y,bz,qO,List.append_nil];exact bb.2 (fx.ret a fB.m ak.rd (bm _) he af _)
structure Ho(n:Nat):Prop where
 stmt:sV n
 block:sN n
def H8:∀n,n<=900000000->Ho n:=by
 intro n
 induction n using Nat.strongRecOn with
 |_ n a=>
  intro d;cases n with
  |zero=>exact⟨λ_ _ _ _ h=>by simp[nQ]at h,λ_ _ _ _ h=>by simp[gC]at h⟩
  |succ n=>
   have i:=a n af af;exact⟨L5 i.block,LC af λk c=>(a k af af).stmt⟩
section
variable {H H' H1:ae}{r:Nat}{T:List Tok}{au:ad}{s s':an}
variable {b c n2 esz:Nat}{z:List ad}{x:ad}{rest:List ad}{l:List bF}{v:ad}
def fY.xV(h:fY H1 H r b c n2 esz T au z x rest l v s){s0:an}(i:bQ H1 r T au s0)(a:List ad):fY H1 (H.set c (.row U esz [x::v::a])) r b c n2 esz T au z x a l v s:=by
 have bz:=h.bz;have bH:=h.bH;have bZ:=h.bZ;have dF:=h.dF;have jr:=h.jr;have lc:=ae.aV h.cell;have e:iE r H1.next H1 (H.set c (.row U esz [x::v::a])):=h.m.cW (.inr af) _
 exact⟨i.ov e (by unfold bJ;rw[ae.get_set_other af];exact h.cP.rd),by rw[ae.get_set_other af];exact h.two,ae.get_set_same lc,h.gR.aW λk x d g=>⟨d,by unfold bn at d;rw[ae.get_set_other af];exact g⟩,e,bz,bH,jr,bZ,by simp;omega⟩
def fY.LF(h:fY H1 H r b c n2 esz T au z x rest l v s)(s2:an):fY H1 (H.set r (.row U 5 [[au,I J s2.at_,I J s2.a8,I J s2.ak,I J s2.bD]])) r b c n2 esz T au z x rest l v s2:=by
 obtain⟨m,a⟩:=e6 h.cP.rd s2;exact h.mut m (h.cP.mut m a)
def uh{N:Nat}{Q:ad->ae->Prop}{cq:aG}{s0:an}(x:bQ H1 r T au s0){l':List bF}
  (k:∀H v,fY H1 H r b c n2 7 T au z (Y cq) rest l' v s'->W (lj (aE P aA) N (.ptr r 0 0) (.ptr b 0 0) (.ptr c 0 0) H) Q):
  ∀(n m:Nat) (H:ae) (s:an) (l:List bF) (v:ad),n<m->l.length+n<=1000000000->fY H1 H r b c n2 7 T au z (Y cq) rest l v s->il T n l s=D (l',s')->W (lk (aE P aA) N m (.ptr r 0 0) (.ptr b 0 0) (.ptr c 0 0) H) Q
 |_,0,_,_,_,_,a0,_,_,_=>af
 |0,m+1,_,_,_,_,_,_,_,a=>by cases a
 |n+1,m+1,H,s,l,v,a0,bn,h,a=>by
  rw[il]at a;rw[lk];unfold uA;refine aO (k9 h.cP.rd) ?_;rintro _ bf ⟨rfl,rfl⟩;refine⟨bm _,?_⟩;by_cases ap:s.ak=0
  ·have i:(s.ak==0)=true:=by simpa using ap
   simp-implicitDefEqProofs(disch:=try exact aj)only[bg,bx,i];refine kb (dA h.cP.rd h.cP.bL [41] (by simp)) ?_;rintro _ bi ⟨rfl,ab⟩;refine⟨ab.1,?_⟩;have u:=h.mut (ab.mut _) (h.cP.aL ab);rw[i,Bool.true_and]at a;cases aC:aZ T s [41]with
   |true=>
    rw[aC]at a;cases a;simp-implicitDefEqProofs(disch:=try exact aj)only[bg,bx,i,Bool.not_true];exact k _ _ u
   |false=>
    rw[aC,Bool.not_false,aR]at a;simp-implicitDefEqProofs(disch:=try exact aj)only[bg,bx,i,Bool.not_false];refine aO (h3 u.cP.rd u.cP.bL) ?_;rintro _ o ⟨rfl,ag⟩;refine⟨ag.1,?_⟩;have e:=u.mut (ag.mut _) (u.cP.aL ag);have V:=λH'=>e.gR.k2 H'
    have bo:=e.gR.rd;have E:=e.cell;have bp:=e.gR.one;have go:((al T s.at_).kind==1&&l.length==6)=X->W (aI o (aE P aA 24 [.ptr r 0 0,I J 4] o) λbq d=>lj (aE P aA) N (.ptr r 0 0) (.ptr b 0 0) (.ptr c 0 0) d) Q:=λhm=>by
     rw[hm,aR]at a;cases a;refine aO (kr e.cP 4) ?_;rintro _ bj ⟨rfl,m5,a4⟩;exact⟨m5.1,k _ _ (e.mut m5 a4)⟩
    have on:((al T s.at_).kind==1&&l.length==6)=U->W (aI o (aE P aA 26 [.ptr r 0 0] o) λa7 d=>
      j (aH P 73 (.ptr c 0 0) 1) λG=>j (aq P d 23 G) λK=>b1 d (b6 P (d).next 23 1 [(0,a7)]) λa8 L=>aI L (c0 P L [23,23] K a8) λa9 ar=>j (aH P 73 (.ptr c 0 0) 1) λba=>bd ar (aY P ar 23 ba a9) λav=>
      bif ((bh (aq P o 23 G) K&&(bh (aq P d 23 G) K&&(bh (aq P L 23 G) K&&X)))&&X)then(aI av (aE P aA 23 [.ptr r 0 0,Y [41]] av) λbb M=>
      j (fZ .not bb) λbc=>
      aU (D bc) (aI M (aE P aA 27 [.ptr r 0 0,Y [44]] M) λbr aw=>
      aI aw (aE P aA 23 [.ptr r 0 0,Y [41]] aw) λbe O=>
      aU (D be) (aI O (aE P aA 24 [.ptr r 0 0,I J 2] O) λbs aW=>
      lk (aE P aA) N m (.ptr r 0 0) (.ptr b 0 0) (.ptr c 0 0) aW) (lk (aE P aA) N m (.ptr r 0 0) (.ptr b 0 0) (.ptr c 0 0) O)) (lk (aE P aA) N m (.ptr r 0 0) (.ptr b 0 0) (.ptr c 0 0) M))else Z) Q:=λhm=>by
     rw[hm,aK]at a;refine aO (xT e.cP) ?_;rintro _ am ⟨rfl,m6,a5⟩;refine⟨m6.1,?_⟩;have y:=e.mut m6 a5;have aX:=y.cell;have a1:=y.gR.rd;generalize c9 T s=q at y a;obtain⟨p,aF⟩:=q;obtain⟨ai,aN,aT,aV,ao,aQ,aS,A⟩:=y.add x af p;have a2:=sB rS am.next (cs:=p.cells) rfl rfl
     have bl:(am.push (.row U 4 [p.cells])).next<=aN.next:=by simp only[ae.b8];exact aV
     have ay:=iI ao;simp only[ad.cells]at ay;simp-implicitDefEqProofs(disch:=try exact aj)only[bg,bx,eg,aq,cL,aY,cL,Nat.reduceAdd,Nat.reduceLeDiff,reduceIte,ad.cells,cQ,dN,dO,ay,aX,a2,aT,e2,aQ,aS,ao,a1,E];refine aO (dA A.cP.rd A.cP.bL [41] (by simp)) ?_;rintro _ aP ⟨rfl,ah⟩;refine⟨ah.1,?_⟩;have R:=A.mut (ah.mut _) (A.cP.aL ah);simp only at a;cases aB:aZ T aF [41]with
     |true=>
      rw[aB,aR]at a;simp-implicitDefEqProofs(disch:=try exact aj)only[bg,bx,Bool.not_true];exact uh x k n m aP _ _ ai af (by simp;omega) R a
     |false=>
      rw[aB,aK]at a;simp-implicitDefEqProofs(disch:=try exact aj)only[bg,bx,Bool.not_false];refine aO (gN R.cP [44] (by simp)) ?_;rintro _ bk ⟨rfl,m9,a6⟩;refine⟨m9.1,?_⟩;have B:=R.mut m9 a6;refine aO (dA B.cP.rd B.cP.bL [41] (by simp)) ?_;rintro _ aJ ⟨rfl,aa⟩;refine⟨aa.1,?_⟩;have d:=B.mut (aa.mut _) (B.cP.aL aa);unfold jg at a;cases he:aZ T (a_ T [44] aF) [41]with
      |true=>
       rw[he,aR]at a;simp-implicitDefEqProofs(disch:=try exact aj)only[bg,bx];refine aO (kr d.cP 2) ?_;rintro _ aM ⟨rfl,m11,a3⟩;refine⟨m11.1,?_⟩;exact uh x k n m aM _ _ ai af (by simp;omega) (d.mut m11 a3) a
      |false=>
       rw[he,aK]at a;simp-implicitDefEqProofs(disch:=try exact aj)only[bg,bx];exact uh x k n m aJ _ _ ai af (by simp;omega) d a
    cases w:(al T s.at_).kind==1 with
    |true=>
     rw[w]at go on;cases F:l.length==6 with
     |true=>
      have S:((l.length:Int)==6)=true:=by
       have:l.length=6:=by simpa using F
       simp;omega
      rw[F]at go;simp-implicitDefEqProofs(disch:=try exact aj)only[reduceAdd,reduceLeDiff,reduceIte,ax,Tok.v,E,V,w,S];exact go rfl
     |false=>
      have S:((l.length:Int)==6)=false:=by
       have:l.length≠6:=by simpa using F
       simp;omega
      rw[F]at on;simp-implicitDefEqProofs(disch:=try exact aj)only[reduceAdd,reduceLeDiff,reduceIte,ax,Tok.v,E,V,w,S];exact on rfl
    |false=>
     rw[w]at on;simp-implicitDefEqProofs(disch:=try exact aj)only[reduceAdd,reduceLeDiff,reduceIte,ax,Tok.v,E,V,w];exact on rfl
  ·have i:(s.ak==0)=false:=by simpa using ap
   rw[i]at a;cases a;simp-implicitDefEqProofs(disch:=try exact aj)only[bg,bx,i];exact k _ _ h
end
section
variable {H H' H1:ae}{r:Nat}{T:List Tok}{au:ad}{s s' s0:an}
abbrev ps:List ad:=[Y [],.az,C U,Y [],I J 0,.az,I J 0]
abbrev hp(has:Bool)(dB:aG)(rd a:Int):List ad:=[C has,Y dB,I J rd,.az,I J a]
def vl(H1:ae)(r:Nat)(T:List Tok)(au:ad)(f:Fn)(s':an)(w:ad)(H':ae):Prop:=(∃cs,w= .agg cs/\gF.V H' (bn H1.next) f cs)/\ca r H1 H'/\bQ H' r T au s'
def E2{N n:Nat}(Q:n<=900000000)(aw:T.length<=20000000)(p:bQ H1 r T au s0){c n2:Nat}{cq dB:aG}{has:Bool}{rd e:Int}{l:List bF}{v:ad}{i:List br}
  (h:fY H1 H r H1.next c n2 7 T au ps (Y cq) (hp has dB rd e) l v s) (O:gC T n s=D (i,s')):
  W (oY (aE P aA) N (.ptr r 0 0) (.ptr H1.next 0 0) (.ptr c 0 0) H) (vl H1 r T au ⟨cq,l,has,dB,rd,i,e⟩ s'):=by
 unfold oY;refine aO ((H8 n Q).block aw h.cP i s' O) ?_;rintro w o ⟨m2,R,q⟩;refine⟨m2.1,?_⟩;have a:=h.mut m2 R;have bz:=a.bz;have bH:=a.bH;have jr:=a.jr;have bZ:=a.bZ;have dF:=a.dF;have V:=h.dF;have K:=a.cell;have A:=a.gR.one;have B:=q.eb;have M:=iI A;have y:=iI B;simp only[ad.cells]at M y;have j:=a.xV p [C has,Y dB,I J rd,w,I J e];have u:=j.two;have L:=j.cell;have S:=ae.aV u;have z:iE r H1.next H1 ((o.set c (.row U 7 [Y cq::v::[C has,Y dB,I J rd,w,I J e]])).set H1.next (.row U 7 [Y cq::v::[C has,Y dB,I J rd,w,I J e]])):=j.m.cW (.inr (bm _)) _
 have d:cY o (bn n2) ((o.set c (.row U 7 [Y cq::v::[C has,Y dB,I J rd,w,I J e]])).set H1.next (.row U 7 [Y cq::v::[C has,Y dB,I J rd,w,I J e]])) (bn H1.next):=λk x d g=>⟨by unfold bn at d ⊢;omega,by unfold bn at d;rw[ae.get_set_other af,ae.get_set_other af];exact g⟩
 have G:=a.gR.aW d;have F:da _ (bn H1.next) i w:=q.aW (cY.trans (cY.le (ok':=bn n2) λk d=>by unfold bn at d ⊢;omega) d).s;have E:=p.ov z (s':=s') (by unfold bJ;rw[ae.get_set_other af];exact j.cP.rd);simp-implicitDefEqProofs(disch:=try exact aj)only[bg,bx,eg,aq,cL,aY,cL,Nat.reduceAdd,Nat.reduceLeDiff,reduceIte,ad.cells,cQ,dN,dO,K,L,u,A,B,y];exact bb.2 ⟨⟨_,rfl,v,w,rfl,G.aD,F⟩,z.mt,E⟩
def LU{N n:Nat}(x:n<=900000000)(aw:T.length<=20000000)(j:bQ H1 r T au s0){c n2:Nat}{cq:aG}{i:Int}{l:List bF}{v:ad}{q:List br}
  (h:fY H1 H r H1.next c n2 7 T au ps (Y cq) (hp U [] 0 i) l v s) (a:gC T n (fI T (a_ T [41] s)).2=D (q,s')):
  W (lj (aE P aA) N (.ptr r 0 0) (.ptr H1.next 0 0) (.ptr c 0 0) H) (vl H1 r T au ⟨cq,l,(fI T (a_ T [41] s)).1.1,(fI T (a_ T [41] s)).1.2.1,(fI T (a_ T [41] s)).1.2.2,q,i⟩ s'):=by
 unfold lj;refine aO (gN h.cP [41] (by simp)) ?_;rintro _ Q ⟨rfl,m2,M⟩;refine⟨m2.1,?_⟩;have e:=h.mut m2 M;generalize a_ T [41] s=s2 at e a ⊢;refine aO (dA e.cP.rd e.cP.bL [58] (by simp)) ?_;rintro _ B ⟨rfl,p⟩;refine⟨p.1,?_⟩;have k:=e.mut (p.mut _) (e.cP.aL p);unfold fI at a ⊢;cases A:aZ T s2 [58]with
 |false=>
  rw[A,aK]at a;simp-implicitDefEqProofs(disch:=try exact aj)only[bg,bx];exact E2 x aw j k a
 |true=>
  rw[A,aR]at a;have u:fY H1 (B.set r (.row U 5 [[au,I J (av s2).at_,I J s2.a8,I J s2.ak,I J s2.bD]])) r H1.next c n2 7 T au ps (Y cq) (hp U [] 0 i) l v (av s2):=k.LF (av s2)
  have z:=k.cP.rd;unfold bJ at z;have w:=u.xV j (hp X [] 0 i);have F:=u.cell;have L:=k.cP.bL.one;have K:IntKind.i64.wrap (s2.at_+1)=(av s2).at_:=rfl;simp-implicitDefEqProofs(disch:=try exact aj)only[bg,bx,eg,cZ,aq,cL,aY,cL,Nat.reduceAdd,Nat.reduceLeDiff,reduceIte,ad.cells,cQ,dN,z,L,K,F];refine aO (si w.cP) ?_;rintro _ R ⟨rfl,m6,O⟩;refine⟨m6.1,?_⟩;have m:=w.mut m6 O;have G:=m.cell;generalize cO T (av s2)=o at m a ⊢;obtain⟨⟨y,d⟩,S⟩:=o;have E:=m.xV j (hp X y d i);simp-implicitDefEqProofs(disch:=try exact aj)only[bg,bx,eg,cZ,aq,cL,aY,cL,Nat.reduceAdd,Nat.reduceLeDiff,reduceIte,ad.cells,cQ,dN,G]
  exact E2 x aw j E a
end
section
variable {H H' H1:ae}{r:Nat}{T:List Tok}{au:ad}{s s' s0:an}
def LV{n:Nat}(ag:n<=900000000)(aw:T.length<=20000000)(h:bQ H r T au s){f:Fn}(w:lS T n s=D (f,s')):W (aE P aA 28 [.ptr r 0 0] H) (vl H r T au f s'):=by
 refine cG (λ_=>Mi (n+1)) ?_;have ab:=h.rd.lt;unfold lS at w;obtain⟨⟨l',an⟩,i,aa⟩:=c1.1 w;obtain⟨⟨ap,sw⟩,y,A⟩:=c1.1 aa;simp only[aS,b5]at A;obtain⟨rfl,rfl⟩:=A;simp only at y;have c:=aP.push H (.row U 7 [ps]);have L:=ae.bM H (.row U 7 [ps]);simp-implicitDefEqProofs(disch:=try exact aj)only[uz,bg,bx,List.length_cons,List.length_nil,Nat.zero_add,Nat.reduceAdd];refine aO (h3 (h.rd.aL c) (h.aL c).bL) ?_;rintro _ H1 ⟨rfl,a⟩;refine⟨a.1,?_⟩;have ai:=a.1;simp only[ae.b8]at ai;have E:=(h.aL c).aL a;have M:=a.get L;generalize al T s.at_=q;obtain⟨k,x,z,p⟩:=q;have j:=aP.push H1 (.row U 7 [Y []:: .az::hp U [] 0 p])
 have R:=ae.bM H1 (.row U 7 [Y []:: .az::hp U [] 0 p]);simp-implicitDefEqProofs(disch:=try exact aj)only[bg,bx,eg,aq,cL,aY,cL,Nat.reduceAdd,Nat.reduceLeDiff,reduceIte,ad.cells,cQ,dN,dO,ae.h1,Tok.v];refine aO (nh (E.aL j)) ?_;rintro _ m ⟨rfl,m3,e⟩;refine⟨m3.1,?_⟩;have ak:=m3.1;simp only[ae.b8]at ak;have N:=m3.get (j.get M) af;have u:=m3.get R af;have dH:=ae.aV u;generalize bq T s=o at e i ⊢;obtain⟨cq,e1⟩:=o;simp only at e i ⊢;have ah:=((((c.mut (· =r)).trans (a.mut _)).trans (j.mut _)).trans m3);have B:=ah.cW (l:=H1.next) (.inr af) (.row U 7 [Y cq:: .az::hp U [] 0 p]);have F:=h.mut B (show bJ _ r au e1 by unfold bJ;rw[ae.get_set_other af];exact e.rd)
 have O:(m.set H1.next (.row U 7 [Y cq:: .az::hp U [] 0 p])).get H.next=D (.row U 7 [ps]):=by rw[ae.get_set_other af];exact N
 have S:(m.set H1.next (.row U 7 [Y cq:: .az::hp U [] 0 p])).get H1.next=D (.row U 7 [Y cq:: .az::hp U [] 0 p]):=ae.get_set_same dH
 simp-implicitDefEqProofs(disch:=try exact aj)only[bg,bx,eg,aq,cL,aY,cL,Nat.reduceAdd,Nat.reduceLeDiff,reduceIte,ad.cells,cQ,dN,dO,u];refine aO (gN F [40] (by simp)) ?_;rintro _ d ⟨rfl,m5,G⟩;refine⟨m5.1,?_⟩;have am:=m5.1;simp only[ae.dz]at am;have Q:=m5.get O af;have V:=m5.get S af;have gb:fY H d r H.next H1.next d.next 7 T au ps (Y cq) (hp U [] 0 p) [] .az (a_ T [40] e1):=⟨G,Q,V,.nil,ca.tJ (B.trans m5),ab,bm _,af,af,bm _⟩
 refine uh h (s':=an) (l':=l') (λao v K=> ?_) n (n+1) d _ [] .az (Nat.lt_succ_self _) (by simp only[List.length_nil];omega) gb i;exact LU ag aw h K y
end
section
variable {H H' H0 H1:ae}{r a c:Nat}{T:List Tok}{au:ad}{s s' s0:an}{g g':cj}
def wF{α:Type}{K:hd α}{t e:Nat}(y:kN t e K.esz){j:Nat->Prop}{l:List α}{v:ad}{a:bW}(F:c_ K j H1 l v)(m:ca r H1 H)(M:H.get r=D a)(u:r<H1.next)(O:r<c)(L:c<H1.next)(s:∀k,j k->c<k){x:α}{cs:List ad}(he:K.V H (bn H1.next) x cs)(N:l.length<=1000000000):
  ∃n H',c0 P (H.push (.row U K.esz [cs])) [t,t] v (.aD H.next 0 1 K.esz (D 1))=D (n,H')/\n.one=X/\H.next+1<=H'.next/\H'.get c=H.get c/\∀b,c_ K (λk=>j k\/H1.next<=k) (H'.set c b) (l++[x]) n/\
   (∀k z,¬j k->k<H1.next->k≠c->k≠r->H1.get k=D z->(H'.set c b).get k=D z)/\(H'.set c b).get r=D a/\(H'.set c b).next=H'.next/\c7 (λk=>k=r\/c<=k) H1 (H'.set c b):=by
 have i:(H1.set r a).next=H1.next:=ae.dz _ _ _
 have pu:aP (H1.set r a) H:=⟨by rw[i];exact m.1,λk d=>by
  rw[i]at d;by_cases e:k=r
  ·rw[e,ae.get_set_same u];exact M
  ·rw[ae.get_set_other (Ne.symm e)];exact m.2 k d e⟩
 have G:c_ K j (H1.set r a) l v:=F.aW λk x d g=>⟨d,by have:=s k d;rw[ae.get_set_other af];exact g⟩
 obtain⟨n,H',aQ,a2,a3,a4,a5,o,w⟩:=grow (r:=c) y G ((pu.mut λk=>k=c\/(H1.set r a).next<=k)) s (by rw[i];exact L) (n2:=(H1.set r a).next) (by rw[i];exact he) (bm _) N;rw[i]at a3 o;refine⟨n,H',aQ,a2,a4,a5,λb=>⟨a3 b,λk z p q A B E=>o k z p q A (by rw[ae.get_set_other (Ne.symm B)];exact E) b,?_,ae.dz _ _ _,?_⟩⟩
 ·exact o r a (λh=>by have:=s r h;omega) u af (ae.get_set_same u) b
 ·have m7:=w b;refine⟨by have:=m7.1;rw[i]at this;exact this,λk d aB=> ?_⟩;have p:k≠r:=λe=>aB (.inl e)
  have q:¬c<=k:=λe=>aB (.inr e)
  rw[m7.2 k (by rw[i];exact d) q,ae.get_set_other (Ne.symm p)]
def eI(H0:ae)(r c:Nat)(T:List Tok)(au:ad)(H:ae)(g:cj)(s:an):Prop:=∃bw bA bu,∃h d a:Nat->Prop,bQ H r T au s/\(∀l i n e z,au= .aD l i n e z->l<r)/\H.get H0.next=D (.row U 3 [[.az,.az,.az]])/\H.get (H0.next+1)=D (.row U 2 [[I J 0,I J 0]])/\H.get c=D (.row U 3 [[bw,bA,bu]])/\ c_ hV h H g.cm bw/\c_ e5 d H g.globals bA/\c_ gF a H g.funcs bu/\(∀k,h k->c<k/\¬d k/\¬a k)/\(∀k,d k->c<k/\¬a k)/\(∀k,a k->c<k)/\H0.next+1<r/\r<c/\c7 (λk=>H0.next<=k) H0 H
def eI.mt(h:eI H0 r c T au H g s)(m:ca r H H')(cP:bQ H' r T au s'):eI H0 r c T au H' g s':=by
 obtain⟨bw,bA,bu,o,p,q,ar,u,v,w,x,l,n,b3,d,e,i,bz,bH,j⟩:=h;refine⟨bw,bA,bu,o,p,q,cP,u,m.get v af,m.get w af,m.get x af,l.aW (cY.mut m λk a=>by have:=(d k a).1;omega),n.aW (cY.mut m λk a=>by have:=(e k a).1;omega),b3.aW (cY.mut m λk a=>by have:=i k a;omega),d,e,i,bz,bH,?_⟩;have y:=j.1;exact⟨by have:=m.1;omega,λk a aB=>by rw[m.2 k af af];exact j.2 k a aB⟩
def eI.ee(h:eI H0 r c T au H g s):bQ H r T au s:=by
 obtain⟨bw,bA,bu,a,d,e,ar,-⟩:=h;exact ar
def eI.aL(h:eI H0 r c T au H g s)(p:aP H H'):eI H0 r c T au H' g s:=h.mt (p.mut _) (h.ee.aL p)
end
section
variable {H H' H0 H1:ae}{r c:Nat}{T:List Tok}{au:ad}{s s' s0:an}{g g':cj}
def yg(h:fe H au T)(d:∀l i n e z,au= .aD l i n e z->l<r)(c:∀k,k<r->∀z,H.get k=D z->H'.get k=D z):fe H' au T:=by
 rcases h with a|⟨l,i,cap,rfl,a⟩
 ·exact .inl a
 ·exact .inr ⟨l,i,cap,rfl,a.imp id λ⟨ro,els,aT,j⟩=>⟨ro,els,c l (d _ _ _ _ _ rfl) _ aT,j⟩⟩
def L0(h:bQ H r T au s){x:bF}(e:c9 T s=(x,s')):W (aE P aA 26 [.ptr r 0 0] H) λv H'=>(∃cs,v= .agg cs/\e5.V H' (bn H.next) x cs)/\ca r H H'/\bQ H' r T au s':=by
 refine(xT h).mono ?_;rintro v H' ⟨a,d,c⟩;rw[e]at a c;exact⟨⟨_,a,rfl⟩,d,c⟩
def M6{M:Nat}(bf:M<=900000000)(aw:T.length<=20000000)(h:eI H0 r c T au H g s)(bi:g.cm.length<=900000000){x:e9}(aL:l2 T M (av s)=D (x,s')){L:ae->O}{Q:ad->ae->Prop}(aJ:∀H',eI H0 r c T au H' {g with cm:=g.cm++[x]} s'->W (L H') Q):
  W (j (b7 (.ptr r 0 0)) λa3=>j (aH P 59 a3 1) λa4=>j (aq P H 3 a4) λa5=>j (ao P .add 3 X a5 (I J 1)) λa6=>j (b7 (.ptr r 0 0)) λa7=>j (aH P 59 a7 1) λa9=>bd H (aY P H 3 a9 a6) λd=>
   aI d (aE P aA 25 [.ptr r 0 0] d) λa_ l=>j (aH P 26 (.ptr c 0 0) 0) λv=>j (aq P l 22 v) λw=>b1 l (b6 P (l).next 22 1 [(0,a_)]) λba n=>aI n (c0 P n [22,22] w ba) λbb o=>
   j (aH P 26 (.ptr c 0 0) 0) λbc=>bd o (aY P o 22 bc bb) λaG=>bif ((bh (aq P d 22 v) w&&(bh (aq P l 22 v) w&&(bh (aq P n 22 v) w&&X)))&&X)then L aG else Z) Q:=by
 have ah:=h.ee.rd;have aN:=h.ee.bL.one;unfold bJ at ah;have aM:IntKind.i64.wrap (s.at_+1)=(av s).at_:=rfl;obtain⟨m,aK⟩:=e6 h.ee.rd (av s);have d:eI H0 r c T au (H.set r (.row U 5 [[au,I J (av s).at_,I J s.a8,I J s.ak,I J s.bD]])) g (av s):=h.mt m (h.ee.mut m aK);simp-implicitDefEqProofs(disch:=try exact aj)only[bg,bx,eg,cZ,aq,cL,aY,cL,Nat.reduceAdd,Nat.reduceLeDiff,reduceIte,ad.cells,cQ,dN,ah,aN,aM];generalize H.set r (.row U 5 [[au,I J (av s).at_,I J s.a8,I J s.ak,I J s.bD]])=q at d ⊢;refine aO (L3 af d.ee aL) ?_;rintro _ y ⟨⟨cs,rfl,he⟩,m3,a2⟩
 refine⟨m3.1,?_⟩;obtain⟨bw,bA,bu,ai,aS,aU,ar,ap,ax,ay,K,A,S,b3,i,u,B,bz,bH,am⟩:=d;have gb:=ar.rd.lt;have lc:=ae.aV K;have bk:=m3.1;have bp:=m3.get ax af;have bq:=m3.get ay af;have N:=m3.get K af;obtain⟨G,R,V,aa,aF,E,aC⟩:=wF (c:=c) DK A m3 a2.rd gb bH lc (λk a=>(i k a).1) he af;have al:=hV.len he;have aR:=sB DK y.next (cs:=cs) al.1 al.2
 have aX:hV.esz=3:=rfl;rw[aX]at V;have aQ:=A.rd;have ag:=iI aa;simp only[ad.cells]at ag;rw[N]at E;have z5:=(aP.push y (.row U 3 [cs])).get N;have be:(y.push (.row U 3 [cs])).next<=R.next:=by simp only[ae.b8];exact aF
 have bm:=A.one;have bn:=S.one;have bo:=b3.one;simp-implicitDefEqProofs(disch:=try exact aj)only[bg,bx,eg,aq,cL,aY,cL,Nat.reduceAdd,Nat.reduceLeDiff,reduceIte,ad.cells,cQ,dN,N,K,z5,E,aR,V,e2,aQ,ag,aa];obtain⟨aT,a0,a1,bl,an⟩:=aC (.row U 3 [[G,bA,bu]]);have aZ:=ae.aV E;have p:∀k,k<q.next->k≠c->k≠r->¬ai k->∀z,q.get k=D z->(R.set c (.row U 3 [[G,bA,bu]])).get k=D z:=λk ab d l n z o=>a0 k z n ab d l o
 have F:∀k,ai k->c<k:=λk a=>(i k a).1
 refine aJ _ ⟨G,bA,bu,_,(λk=>aS k/\k<q.next),(λk=>aU k/\k<q.next),⟨a1,yg ar.bL ap λk a z e=>p k (ae.aV e) af af (λh=>by have:=F k h;omega) z e⟩,ap,?_,?_,ae.get_set_same aZ,aT,(S.aW λk b a g=>⟨⟨a,ae.aV g⟩,p k (ae.aV g) (by have:=(u k a).1;omega) (by have:=(u k a).1;omega) (λh=>(i k h).2.1 a) b g⟩),(b3.aW λk b a g=>⟨⟨a,ae.aV g⟩,p k (ae.aV g) (by have:=B k a;omega) (by have:=B k a;omega) (λh=>(i k h).2.2 a) b g⟩),?_,?_,?_,bz,bH,?_⟩
 ·exact p _ af af af (λa=>by have:=F _ a;omega) _ ax
 ·exact p _ af af af (λa=>by have:=F _ a;omega) _ ay
 ·rintro k (a|a)
  ·exact⟨(i k a).1,λh=>(i k a).2.1 h.1,λh=>(i k a).2.2 h.1⟩
  ·exact⟨af,λh=>by have:=h.2;omega,λh=>by have:=h.2;omega⟩
 ·exactλk a=>⟨(u k a.1).1,λh=>(u k a.1).2 h.1⟩
 ·exactλk a=>B k a.1
 ·have ab:=am.1;have o:=an.1;refine⟨af,λk a aB=> ?_⟩;have bj:k<H0.next:=by simpa using aB
  rw[an.2 k af af];exact am.2 k a aB
def M5{M:Nat}(bf:M<=900000000)(aw:T.length<=20000000)(h:eI H0 r c T au H g s)(bi:g.globals.length<=900000000){x:bF}(aL:c9 T (av s)=(x,s')){L:ae->O}{Q:ad->ae->Prop}(aJ:∀H',eI H0 r c T au H' {g with globals:=g.globals++[x]} s'->W (L H') Q):
  W (j (b7 (.ptr r 0 0)) λa3=>j (aH P 59 a3 1) λa4=>j (aq P H 3 a4) λa5=>j (ao P .add 3 X a5 (I J 1)) λa6=>j (b7 (.ptr r 0 0)) λa7=>j (aH P 59 a7 1) λa9=>bd H (aY P H 3 a9 a6) λd=>
   aI d (aE P aA 26 [.ptr r 0 0] d) λa_ l=>j (aH P 26 (.ptr c 0 0) 1) λv=>j (aq P l 23 v) λw=>b1 l (b6 P (l).next 23 1 [(0,a_)]) λba o=>aI o (c0 P o [23,23] w ba) λbb p=>
   j (aH P 26 (.ptr c 0 0) 1) λbc=>bd p (aY P p 23 bc bb) λaG=>bif ((bh (aq P d 23 v) w&&(bh (aq P l 23 v) w&&(bh (aq P o 23 v) w&&X)))&&X)then L aG else Z) Q:=by
 have ah:=h.ee.rd;have aN:=h.ee.bL.one;unfold bJ at ah;have aM:IntKind.i64.wrap (s.at_+1)=(av s).at_:=rfl;obtain⟨m,aK⟩:=e6 h.ee.rd (av s);have d:eI H0 r c T au (H.set r (.row U 5 [[au,I J (av s).at_,I J s.a8,I J s.ak,I J s.bD]])) g (av s):=h.mt m (h.ee.mut m aK);simp-implicitDefEqProofs(disch:=try exact aj)only[bg,bx,eg,cZ,aq,cL,aY,cL,Nat.reduceAdd,Nat.reduceLeDiff,reduceIte,ad.cells,cQ,dN,ah,aN,aM];generalize H.set r (.row U 5 [[au,I J (av s).at_,I J s.a8,I J s.ak,I J s.bD]])=u at d ⊢;refine aO (L0 d.ee aL) ?_;rintro _ y ⟨⟨cs,rfl,he⟩,m3,a2⟩
 refine⟨m3.1,?_⟩;obtain⟨bw,bA,bu,aS,ai,aU,ar,ap,ax,ay,K,S,A,b3,i,n,B,bz,bH,am⟩:=d;have gb:=ar.rd.lt;have lc:=ae.aV K;have bk:=m3.1;have bp:=m3.get ax af;have bq:=m3.get ay af;have N:=m3.get K af;obtain⟨G,R,V,aa,aF,E,aC⟩:=wF (c:=c) rS A m3 a2.rd gb bH lc (λk a=>(n k a).1) he af;have al:=e5.len he;have aR:=sB rS y.next (cs:=cs) al.1 al.2
 have aX:e5.esz=4:=rfl;rw[aX]at V;have aQ:=A.rd;have ag:=iI aa;simp only[ad.cells]at ag;rw[N]at E;have z5:=(aP.push y (.row U 4 [cs])).get N;have be:(y.push (.row U 4 [cs])).next<=R.next:=by simp only[ae.b8];exact aF
 have bm:=S.one;have bn:=A.one;have bo:=b3.one;simp-implicitDefEqProofs(disch:=try exact aj)only[bg,bx,eg,aq,cL,aY,cL,Nat.reduceAdd,Nat.reduceLeDiff,reduceIte,ad.cells,cQ,dN,N,K,z5,E,aR,V,e2,aQ,ag,aa];obtain⟨aT,a0,a1,bl,an⟩:=aC (.row U 3 [[bw,G,bu]]);have aZ:=ae.aV E;have q:∀k,k<u.next->k≠c->k≠r->¬ai k->∀z,u.get k=D z->(R.set c (.row U 3 [[bw,G,bu]])).get k=D z:=λk ab d l o z p=>a0 k z o ab d l p
 have F:∀k,ai k->c<k:=λk a=>(n k a).1
 refine aJ _ ⟨bw,G,bu,(λk=>aS k/\k<u.next),_,(λk=>aU k/\k<u.next),⟨a1,yg ar.bL ap λk a z e=>q k (ae.aV e) af af (λh=>by have:=F k h;omega) z e⟩,ap,?_,?_,ae.get_set_same aZ,(S.aW λk b a g=>⟨⟨a,ae.aV g⟩,q k (ae.aV g) (by have:=(i k a).1;omega) (by have:=(i k a).1;omega) (λh=>(i k a).2.1 h) b g⟩),aT,(b3.aW λk b a g=>⟨⟨a,ae.aV g⟩,q k (ae.aV g) (by have:=B k a;omega) (by have:=B k a;omega) (λh=>(n k h).2 a) b g⟩),?_,?_,?_,bz,bH,?_⟩
 ·exact q _ af af af (λa=>by have:=F _ a;omega) _ ax
 ·exact q _ af af af (λa=>by have:=F _ a;omega) _ ay
 ·refineλk a=>⟨(i k a.1).1,λh=> ?_,λh=>(i k a.1).2.2 h.1⟩
  rcases h with h|h
  ·exact(i k a.1).2.1 h
  ·have:=a.2;omega
 ·rintro k (a|a)
  ·exact⟨(n k a).1,λh=>(n k a).2 h.1⟩
  ·exact⟨af,λh=>by have:=h.2;omega⟩
 ·exactλk a=>B k a.1
 ·have ab:=am.1;have p:=an.1;refine⟨af,λk a aB=> ?_⟩;have bj:k<H0.next:=by simpa using aB
  rw[an.2 k af af];exact am.2 k a aB
def M4{M:Nat}(aK:M<=900000000)(aw:T.length<=20000000)(h:eI H0 r c T au H g s)(bi:g.funcs.length<=900000000){x:Fn}(aM:lS T M (av s)=D (x,s')){L:ae->O}{Q:ad->ae->Prop}(aJ:∀H',eI H0 r c T au H' {g with funcs:=g.funcs++[x]} s'->W (L H') Q):
  W (j (b7 (.ptr r 0 0)) λa4=>j (aH P 59 a4 1) λa5=>j (aq P H 3 a5) λa6=>j (ao P .add 3 X a6 (I J 1)) λa7=>j (b7 (.ptr r 0 0)) λa9=>j (aH P 59 a9 1) λa_=>bd H (aY P H 3 a_ a7) λd=>
   aI d (aE P aA 28 [.ptr r 0 0] d) λba l=>j (aH P 26 (.ptr c 0 0) 2) λv=>j (aq P l 24 v) λw=>b1 l (b6 P (l).next 24 1 [(0,ba)]) λbb o=>aI o (c0 P o [24,24] w bb) λbc p=>
   j (aH P 26 (.ptr c 0 0) 2) λbe=>bd p (aY P p 24 be bc) λaG=>bif ((bh (aq P d 24 v) w&&(bh (aq P l 24 v) w&&(bh (aq P o 24 v) w&&X)))&&X)then L aG else Z) Q:=by
 have ah:=h.ee.rd;have aQ:=h.ee.bL.one;unfold bJ at ah;have aN:IntKind.i64.wrap (s.at_+1)=(av s).at_:=rfl;obtain⟨m,aL⟩:=e6 h.ee.rd (av s);have d:eI H0 r c T au (H.set r (.row U 5 [[au,I J (av s).at_,I J s.a8,I J s.ak,I J s.bD]])) g (av s):=h.mt m (h.ee.mut m aL);simp-implicitDefEqProofs(disch:=try exact aj)only[bg,bx,eg,cZ,aq,cL,aY,cL,Nat.reduceAdd,Nat.reduceLeDiff,reduceIte,ad.cells,cQ,dN,ah,aQ,aN];generalize H.set r (.row U 5 [[au,I J (av s).at_,I J s.a8,I J s.ak,I J s.bD]])=u at d ⊢;refine aO (LV aK aw d.ee aM) ?_;rintro _ y ⟨⟨cs,rfl,he⟩,m3,a3⟩
 refine⟨m3.1,?_⟩;obtain⟨bw,bA,bu,aU,aX,ai,ar,ap,ax,ay,G,R,S,b3,i,n,A,bz,bH,am⟩:=d;have gb:=ar.rd.lt;have lc:=ae.aV G;have bk:=m3.1;have bp:=m3.get ax af;have bq:=m3.get ay af;have K:=m3.get G af;obtain⟨F,N,V,aa,aF,B,aC⟩:=wF (c:=c) DJ b3 m3 a3.rd gb bH lc (λk a=>A k a) he af;have al:=gF.len he;have aS:=sB DJ y.next (cs:=cs) al.1 al.2
 have aZ:gF.esz=7:=rfl;rw[aZ]at V;have aR:=b3.rd;have ag:=iI aa;simp only[ad.cells]at ag;rw[K]at B;have z5:=(aP.push y (.row U 7 [cs])).get K;have bf:(y.push (.row U 7 [cs])).next<=N.next:=by simp only[ae.b8];exact aF
 have bm:=R.one;have bn:=S.one;have bo:=b3.one;simp-implicitDefEqProofs(disch:=try exact aj)only[bg,bx,eg,aq,cL,aY,cL,Nat.reduceAdd,Nat.reduceLeDiff,reduceIte,ad.cells,cQ,dN,K,G,z5,B,aS,V,e2,aR,ag,aa];obtain⟨aT,a1,a2,bl,an⟩:=aC (.row U 3 [[bw,bA,F]]);have a0:=ae.aV B;have q:∀k,k<u.next->k≠c->k≠r->¬ai k->∀z,u.get k=D z->(N.set c (.row U 3 [[bw,bA,F]])).get k=D z:=λk ab d l o z p=>a1 k z o ab d l p
 have E:∀k,ai k->c<k:=λk a=>A k a
 refine aJ _ ⟨bw,bA,F,(λk=>aU k/\k<u.next),(λk=>aX k/\k<u.next),_,⟨a2,yg ar.bL ap λk a z e=>q k (ae.aV e) af af (λh=>by have:=E k h;omega) z e⟩,ap,?_,?_,ae.get_set_same a0,(R.aW λk b a g=>⟨⟨a,ae.aV g⟩,q k (ae.aV g) (by have:=(i k a).1;omega) (by have:=(i k a).1;omega) (λh=>(i k a).2.2 h) b g⟩),(S.aW λk b a g=>⟨⟨a,ae.aV g⟩,q k (ae.aV g) (by have:=(n k a).1;omega) (by have:=(n k a).1;omega) (λh=>(n k a).2 h) b g⟩),aT,?_,?_,?_,bz,bH,?_⟩
 ·exact q _ af af af (λa=>by have:=E _ a;omega) _ ax
 ·exact q _ af af af (λa=>by have:=E _ a;omega) _ ay
 ·refineλk a=>⟨(i k a.1).1,λh=>(i k a.1).2.1 h.1,λh=> ?_⟩
  rcases h with h|h
  ·exact(i k a.1).2.2 h
  ·have:=a.2;omega
 ·refineλk a=>⟨(n k a.1).1,λh=> ?_⟩
  rcases h with h|h
  ·exact(n k a.1).2 h
  ·have:=a.2;omega
 ·rintro k (a|a)
  ·exact A k a
  ·omega
 ·have ab:=am.1;have p:=an.1;refine⟨af,λk a aB=> ?_⟩;have bj:k<H0.next:=by simpa using aB
  rw[an.2 k af af];exact am.2 k a aB
end
section
variable {H H' H0 H1:ae}{r c:Nat}{T:List Tok}{au:ad}{s s' s0:an}{g g':cj}
def LX{N:Nat}{a:ad->ad->ad->ad->ae->O}{d e:ad}{Q:ad->ae->Prop}(h:eI H0 r c T au H g s)(i:∀H',eI H0 r c T au H' g (bE T 4 s)->W (a d e (.ptr r 0 0) (.ptr c 0 0) H') Q):W (j0 (aE P aA) N a d e (.ptr r 0 0) (.ptr c 0 0) (C X) H) Q:=by
 unfold j0;simp only[eE,aR,aK];refine aO (kr h.ee 4) ?_;rintro _ k ⟨rfl,m5,j⟩;exact⟨m5.1,i _ (h.mt m5 j)⟩
def LW{N M n:Nat}(o:M<=900000000)(aw:T.length<=20000000){d:ad->ad->ad->ad->ae->O}{e i:ad}{Q:ad->ae->Prop}(h:eI H0 r c T au H g s)(F:g.cm.length<=900000000)(G:g.globals.length<=900000000)(dH:g.funcs.length<=900000000)
  (a:(bif isRec T s then(l2 T M (av s)).bind λp=>fi T M n {g with cm:=g.cm++[p.1]} p.2
   else bif jK T s then fi T M n {g with globals:=g.globals++[(c9 T (av s)).1]} (a_ T [59] (c9 T (av s)).2)
   else bif isFun T s then(lS T M (av s)).bind λp=>fi T M n {g with funcs:=g.funcs++[p.1]} p.2
   else fi T M n g (bE T 2 s))=D (g',s'))
  (l:∀H' g1 s1,eI H0 r c T au H' g1 s1->g1.cm.length<=g.cm.length+1->g1.globals.length<=g.globals.length+1->g1.funcs.length<=g.funcs.length+1->fi T M n g1 s1=D (g',s')->W (d e i (.ptr r 0 0) (.ptr c 0 0) H') Q):W (j0 (aE P aA) N d e i (.ptr r 0 0) (.ptr c 0 0) (C U) H) Q:=by
 unfold isRec jK isFun at a;unfold j0;simp only[eE,aR,aK];refine aO (dA h.ee.rd h.ee.bL [114,101,99,111,114,100] (by simp)) ?_;rintro _ K ⟨rfl,y⟩;refine⟨y.1,?_⟩;have j:=h.aL y;cases u:aZ T s [114,101,99,111,114,100]with
 |true=>
  rw[u,aR]at a;obtain⟨⟨x,s1⟩,f1,f2⟩:=c1.1 a;simp only[eE,aR,aK];exact M6 o aw j F f1 (L:=λH'=>d e i (.ptr r 0 0) (.ptr c 0 0) H') λH' a1=>l H' _ _ a1 (by simp) (by simp) (by simp) f2
 |false=>
  rw[u,aK]at a;simp only[eE,aR,aK];refine aO (dA j.ee.rd j.ee.bL [103,108,111,98,97,108] (by simp)) ?_;rintro _ R ⟨rfl,z⟩;refine⟨z.1,?_⟩;have k:=j.aL z;cases v:aZ T s [103,108,111,98,97,108]with
  |true=>
   rw[v,aR]at a;simp only[eE,aR,aK];refine M5 o aw k G (x:=(c9 T (av s)).1) (s':=(c9 T (av s)).2) rfl (L:=λH'=>aI H' (aE P aA 27 [.ptr r 0 0,Y [59]] H') λV E=>d e i (.ptr r 0 0) (.ptr c 0 0) E) λH' a1=> ?_
   refine aO (gN a1.ee [59] (by simp)) ?_;rintro _ B ⟨rfl,m5,q⟩;exact⟨m5.1,l _ _ _ (a1.mt m5 q) (by simp) (by simp) (by simp) a⟩
  |false=>
   rw[v,aK]at a;simp only[eE,aR,aK];refine aO (dA k.ee.rd k.ee.bL [102,117,110,99] (by simp)) ?_;rintro _ S ⟨rfl,A⟩;refine⟨A.1,?_⟩;have m:=k.aL A;cases w:aZ T s [102,117,110,99]with
   |true=>
    rw[w,aR]at a;obtain⟨⟨x,s1⟩,f1,f2⟩:=c1.1 a;simp only[eE,aR,aK];exact M4 o aw m dH f1 (L:=λH'=>d e i (.ptr r 0 0) (.ptr c 0 0) H') λH' a1=>l H' _ _ a1 (by simp) (by simp) (by simp) f2
   |false=>
    rw[w,aK]at a;simp only[eE,aR,aK];refine aO (kr m.ee 2) ?_;rintro _ B ⟨rfl,m5,q⟩;exact⟨m5.1,l _ _ _ (m.mt m5 q) (by simp) (by simp) (by simp) a⟩
end
section
variable {H H' H0 H1:ae}{r c:Nat}{T:List Tok}{au bw bA bu:ad}{s s' s0:an}{g g':cj}
def wH{n:Nat}(k:H.get c=D (.row U 3 [[bw,bA,bu]]))(l:∀H',cg P H' .len [22] [bw]=D (I J n))(u:bw.one=X)(b:Bool)(F:ad->ae->O):
  (aX (C b) X H (bU (aH P 26 (.ptr c 0 0) 0)) λm a=>aX (C b) X a (qr (aq P a 22 m)) λe d=>aX (C b) X d (λq=>h8 (cg P .empty .len [22] [e]) (cg P d .len [22] [e]) q) λo i=>aX (C b) X i (bU (ao P .eql 3 X o (I J 12))) λp h=>j (dd (C b) (D p) (D (C U))) λs=>F s h)=F (C (b&&((n:Int)==12))) H:=by
 cases b
 ·simp-implicitDefEqProofs(disch:=try exact aj)only[reduceAdd,reduceLeDiff,reduceIte,ax,Bool.false_and]
 ·simp-implicitDefEqProofs(disch:=try exact aj)only[reduceAdd,reduceLeDiff,reduceIte,ax,k,l,Bool.true_and]
def wI{n:Nat}(k:H.get c=D (.row U 3 [[bw,bA,bu]]))(l:∀H',cg P H' .len [23] [bA]=D (I J n))(u:bA.one=X)(b:Bool)(F:ad->ae->O):
  (aX (C b) X H (bU (aH P 26 (.ptr c 0 0) 1)) λm a=>aX (C b) X a (qr (aq P a 23 m)) λe d=>aX (C b) X d (λq=>h8 (cg P .empty .len [23] [e]) (cg P d .len [23] [e]) q) λo i=>aX (C b) X i (bU (ao P .eql 3 X o (I J 8))) λp h=>j (dd (C b) (D p) (D (C U))) λs=>F s h)=F (C (b&&((n:Int)==8))) H:=by
 cases b
 ·simp-implicitDefEqProofs(disch:=try exact aj)only[reduceAdd,reduceLeDiff,reduceIte,ax,Bool.false_and]
 ·simp-implicitDefEqProofs(disch:=try exact aj)only[reduceAdd,reduceLeDiff,reduceIte,ax,k,l,Bool.true_and]
def J5{n:Nat}(k:H.get c=D (.row U 3 [[bw,bA,bu]]))(l:∀H',cg P H' .len [24] [bu]=D (I J n))(u:bu.one=X)(b:Bool)(F:ad->ae->O):
  (aX (C b) X H (bU (aH P 26 (.ptr c 0 0) 2)) λm a=>aX (C b) X a (qr (aq P a 24 m)) λe d=>aX (C b) X d (λq=>h8 (cg P .empty .len [24] [e]) (cg P d .len [24] [e]) q) λo i=>aX (C b) X i (bU (ao P .eql 3 X o (I J 16))) λp h=>j (dd (C b) (D p) (D (C U))) λs=>F s h)=F (C (b&&((n:Int)==16))) H:=by
 cases b
 ·simp-implicitDefEqProofs(disch:=try exact aj)only[reduceAdd,reduceLeDiff,reduceIte,ax,Bool.false_and]
 ·simp-implicitDefEqProofs(disch:=try exact aj)only[reduceAdd,reduceLeDiff,reduceIte,ax,k,l,Bool.true_and]
def eI.cells(h:eI H0 r c T au H g s):∃bw bA bu,H.get c=D (.row U 3 [[bw,bA,bu]])/\(∀H',cg P H' .len [22] [bw]=D (I J g.cm.length))/\(∀H',cg P H' .len [23] [bA]=D (I J g.globals.length))/\(∀H',cg P H' .len [24] [bu]=D (I J g.funcs.length))/\bw.one=X/\bA.one=X/\bu.one=true:=by
 obtain⟨bw,bA,bu,i,j,k,ar,l,m,n,e,a,d,b3,-⟩:=h;exact⟨bw,bA,bu,e,a.tv,d.k2,b3.tw,a.one,d.one,b3.one⟩
def v7(n m:Nat):((n:Int)==(m:Int))=(n==m):=by
 by_cases h:n=m
 ·subst h;simp
 ·have:(n:Int)≠(m:Int):=af;rw[show(n==m)=U by simpa using h];exact beq_eq_false_iff_ne.2 this
def xU{N M:Nat}(z:M<=900000000)(aw:T.length<=20000000){x y:ad}{Q:ad->ae->Prop}
  (q:∀H,eI H0 r c T au H g' s'->W (nO (aE P aA) N x y (.ptr r 0 0) (.ptr c 0 0) H) Q):
  ∀(n m:Nat) (H:ae) (s:an) (g:cj),n<m->g.cm.length+n<=900000000->g.globals.length+n<=900000000->g.funcs.length+n<=900000000->eI H0 r c T au H g s->fi T M n g s=D (g',s')->W (mw (aE P aA) N m x y (.ptr r 0 0) (.ptr c 0 0) H) Q
 |_,0,_,_,_,ag,_,_,_,_,_=>af
 |0,m+1,_,_,_,_,_,_,_,_,a=>by cases a
 |n+1,m+1,H,s,g,ag,ao,ap,dH,h,a=>by
  rw[fi]at a;rw[mw];unfold uX;refine aO (k9 h.ee.rd) ?_;rintro _ ah ⟨rfl,rfl⟩;refine⟨bm _,?_⟩;by_cases O:s.ak=0
  ·have i:(s.ak==0)=true:=by simpa using O
   rw[i,Bool.true_and]at a;simp-implicitDefEqProofs(disch:=try exact aj)only[bg,bx,i];refine kb (h3 h.ee.rd h.ee.bL) ?_;rintro _ ai ⟨rfl,R⟩;refine⟨R.1,?_⟩;have p:=h.aL R;cases u:((al T s.at_).kind != 0)with
   |false=>
    rw[u,aK]at a;cases a;simp-implicitDefEqProofs(disch:=try exact aj)only[bg,bx,cZ,eg,Tok.v,u,i];exact q _ p
   |true=>
    rw[u,aR]at a;simp-implicitDefEqProofs(disch:=try exact aj)only[bg,bx,cZ,eg,Tok.v,u,i];have full:∀e,eI H0 r c T au e g s->((isRec T s&&g.cm.length==12)||((jK T s&&g.globals.length==8)||(isFun T s&&g.funcs.length==16)))=X->W (j0 (aE P aA) N (mw (aE P aA) N m) x y (.ptr r 0 0) (.ptr c 0 0) (C X) e) Q:=λe d A=>by
     rw[A,aR]at a;exact LX d λo j=>xU z aw q n m o _ _ af af af af j a
    have free:∀e,eI H0 r c T au e g s->((isRec T s&&g.cm.length==12)||((jK T s&&g.globals.length==8)||(isFun T s&&g.funcs.length==16)))=U->W (j0 (aE P aA) N (mw (aE P aA) N m) x y (.ptr r 0 0) (.ptr c 0 0) (C U) e) Q:=λe d A=>by
     rw[A,aK]at a;exact LW z aw d af af af a λo g1 s1 j aT w F ab=>xU z aw q n m o _ _ af af af af j ab
    refine aO (dA p.ee.rd p.ee.bL [114,101,99,111,114,100] (by simp)) ?_;rintro _ am ⟨rfl,S⟩;refine⟨S.1,?_⟩;have k:=p.aL S;obtain⟨bw,bA,bu,l,B,n2,E,G,K,L⟩:=k.cells;rw[wH l B G,show(12:Int)=((12:Nat):Int)from rfl,v7];cases aT:aZ T s [114,101,99,111,114,100]&&g.cm.length==12 with
    |true=>
     simp only[eE,aR];exact full _ k (by rw[show(isRec T s&&g.cm.length==12)=X from aT];rfl)
    |false=>
     simp only[eE,aK];refine aO (dA k.ee.rd k.ee.bL [103,108,111,98,97,108] (by simp)) ?_;rintro _ e ⟨rfl,V⟩;refine⟨V.1,?_⟩;have d:=k.aL V;obtain⟨bw,bA,bu,l,B,n2,E,G,K,L⟩:=d.cells;rw[wI l n2 K,show(8:Int)=((8:Nat):Int)from rfl,v7];cases w:aZ T s [103,108,111,98,97,108]&&g.globals.length==8 with
     |true=>
      simp only[eE,aR];exact full _ d (by rw[show(isRec T s&&g.cm.length==12)=U from aT,show(jK T s&&g.globals.length==8)=X from w];rfl)
     |false=>
      simp only[eE,aK];refine aO (dA d.ee.rd d.ee.bL [102,117,110,99] (by simp)) ?_;rintro _ o ⟨rfl,aa⟩;refine⟨aa.1,?_⟩;have j:=d.aL aa;obtain⟨bw,bA,bu,l,B,n2,E,G,K,L⟩:=j.cells;rw[J5 l E L,show(16:Int)=((16:Nat):Int)from rfl,v7];cases F:aZ T s [102,117,110,99]&&g.funcs.length==16 with
      |true=>exact full _ j (by rw[show(isRec T s&&g.cm.length==12)=U from aT,show(jK T s&&g.globals.length==8)=U from w,show(isFun T s&&g.funcs.length==16)=X from F];rfl)
      |false=>exact free _ j (by rw[show(isRec T s&&g.cm.length==12)=U from aT,show(jK T s&&g.globals.length==8)=U from w,show(isFun T s&&g.funcs.length==16)=U from F];rfl)
  ·have i:(s.ak==0)=false:=by simpa using O
   rw[i,Bool.false_and,aK]at a;cases a;simp-implicitDefEqProofs(disch:=try exact aj)only[bg,bx,i];exact q _ h
end
def Hx(H0:ae)(x:cj×Int×Int)(v:ad)(H':ae):Prop:=∃bw bA bu,v= .tuple [.agg [bw,bA,bu],.agg [I J x.2.1,I J x.2.2]]/\dw hV H' (bn H0.next) x.1.cm bw/\dw e5 H' (bn H0.next) x.1.globals bA/\dw gF H' (bn H0.next) x.1.funcs bu/\aP H0 H'
def gV(s:aG)(g:cj)(s':an):cj×Int×Int:=if(dI s).2.1=0 then na g s' else(.none,(dI s).2.1,(dI s).2.2)
def EM(a b:Int):bh (D (.agg [I J a,I J b])) (.agg [I J a,I J b])=true:=by simp[bh,ad.beq,gA.beq]
section
variable {H:ae}
end
def IP{au:ad}{T:List Tok}{H:ae}(h:fe H au T):cC P 59 [(0,au)]=D (.agg [au,I J 0,I J 0,I J 0,I J 0]):=by
 rcases h with⟨rfl,_⟩|⟨l,i,cap,rfl,_⟩<;>kernel_rfl
section
variable {H:ae}
def EK(s:aG){g':cj}{s':an}{M n:Nat}(a3:M<=800000000)(a4:n<=800000000)(aC:(dI s).2.1=0->fi (dI s).1 M n .none ⟨0,0,0,0⟩=D (g',s')):W (aE P aA 9 [Y s] H) (Hx H (gV s g' s')):=by
 refine cG (λ_=>MW (n+1)) ?_;have al:=(aP.push H (.row U 3 [[.az,.az,.az]])).bI (.row U 2 [[I J 0,I J 0]]);unfold sw;simp-implicitDefEqProofs(disch:=try exact aj)only[bg,bx,List.length_cons,List.length_nil,Nat.zero_add,Nat.reduceAdd];refine aO (HC s) ?_;rintro _ j ⟨au,rfl,L,d⟩;refine⟨d.1,?_⟩;have y:=d.get ((aP.push (H.push (.row U 3 [[.az,.az,.az]])) (.row U 2 [[I J 0,I J 0]])).get (ae.bM H (.row U 3 [[.az,.az,.az]])));have v:=d.get (ae.bM (H.push (.row U 3 [[.az,.az,.az]])) (.row U 2 [[I J 0,I J 0]]));have aX:=d.1;simp only[ae.b8]at aX v
 have N:= @yk s;unfold gV;generalize dI s=bL at L aC N ⊢;obtain⟨T,ak,bD⟩:=bL;simp only at L aC N ⊢;have q:=aP.push j (.row U 2 [[I J ak,I J bD]]);have gc:=ae.bM j (.row U 2 [[I J ak,I J bD]]);have z:=q.get y;have B:=q.get v;have aZ:(j.push (.row U 2 [[I J ak,I J bD]])).next=j.next+1:=by simp only[ae.b8]
 have am:=(al.trans d).trans q;have p:=L.aL q;by_cases G:ak=0
 ·subst G;have z0:((0:Int) != 0)=false:=rfl;simp-implicitDefEqProofs(disch:=try exact aj)only[bg,bx,eg,aq,cL,aY,cL,Nat.reduceAdd,Nat.reduceLeDiff,reduceIte,ad.cells,cQ,dN,dO,cZ,ae.h1,z0];generalize j.push (.row U 2 [[I J 0,I J bD]])=a at q gc z B aZ am p ⊢;obtain⟨aw,K⟩:=N rfl;have aH:=IP p;have aM:=p.one;have aI:∀l,d_ l (.agg [au,I J 0,I J 0,I J 0,I J 0])=D (.ptr l 0 0,.row U 5 [[au,I J 0,I J 0,I J 0,I J 0]]):=λl=>hA l _ (by simp only[List.all_cons,List.all_nil,hF,aM,Bool.and_self])
  have x:=aP.push a (.row U 5 [[au,I J 0,I J 0,I J 0,I J 0]]);have u:=aP.push (a.push (.row U 5 [[au,I J 0,I J 0,I J 0,I J 0]])) (.row U 3 [[.az,.az,.az]]);have V:=ae.bM (a.push (.row U 5 [[au,I J 0,I J 0,I J 0,I J 0]])) (.row U 3 [[.az,.az,.az]]);have ai:(a.push (.row U 5 [[au,I J 0,I J 0,I J 0,I J 0]])).next=a.next+1:=by simp only[ae.b8]
  rw[ai]at V;have a2:=(am.trans x).trans u;have rs:eI H a.next (a.next+1) T au ((a.push (.row U 5 [[au,I J 0,I J 0,I J 0,I J 0]])).push (.row U 3 [[.az,.az,.az]])) .none ⟨0,0,0,0⟩:=by
   refine⟨.az,.az,.az,(λ_=>False),(λ_=>False),(λ_=>False),⟨u.get (ae.bM _ _),(p.aL x).aL u⟩,?_,u.get (x.get z),u.get (x.get B),V,c_.nil,c_.nil,c_.nil,λ_ h=>h.elim,λ_ h=>h.elim,λ_ h=>h.elim,af,af,a2.mut _⟩;intro l i m e c ag;rcases p with⟨rfl,_⟩|⟨l',a5,cap,rfl,aJ⟩
   ·cases ag
   ·cases ag;obtain⟨ro,els,aT,-⟩:=aJ.resolve_left (by rintro rfl;simp at K);exact ae.aV aT
  simp-implicitDefEqProofs(disch:=try exact aj)only[bg,bx,aH,aI,ai];refine xU (M:=M) af aw.n (λap aF=> ?_) n (n+1) _ _ .none af (by simp only[cj.none,List.length_nil];omega) (by simp only[cj.none,List.length_nil];omega) (by simp only[cj.none,List.length_nil];omega) rs (aC rfl);obtain⟨bw,bA,bu,aN,aQ,aR,ar,a9,A,E,aa,R,S,b3,av,ay,aB,bz,bH,ah⟩:=aF;have ab:=ar.rd;unfold bJ at ab;have bZ:=R.one;have dF:=S.one;have a0:=b3.one;have aS:=ae.aV A;have aU:=ae.aV E;have a8:=ae.aV aa;have ao:aP H ap:=⟨ah.1,λl K=>ah.2 l K af⟩;unfold nO;refine aO (k9 ar.rd) ?_;rintro _ Q ⟨rfl,rfl⟩;refine⟨bm _,?_⟩;unfold na;by_cases w:s'.ak=0
  ·have F:(s'.ak==0)=true:=by simpa using w
   simp-implicitDefEqProofs(disch:=try exact aj)only[reduceAdd,reduceLeDiff,reduceIte,ax,F,Bool.not_true,aa,A,E,bZ,dF,a0];rw[if_pos w];have O:∀ok:Nat->Prop,(∀k,ok k->a.next+1<k)->cY Q ok ((Q.set H.next (.row U 3 [[bw,bA,bu]])).set (H.next+1) (.row U 2 [[I J 0,I J 0]])) (bn H.next):=λok o k b aK g=>by
    have:=o k aK;exact⟨by unfold bn;omega,by rw[ae.get_set_other af,ae.get_set_other af];exact g⟩
   exact bb.2 ⟨bw,bA,bu,rfl,(R.aD).aW (O aN λk o=>(av k o).1),(S.aD).aW (O aQ λk o=>(ay k o).1),(b3.aD).aW (O aR aB),(ao.cW (bm _) _).cW af _⟩
  ·have F:(s'.ak==0)=false:=by simpa using w
   simp-implicitDefEqProofs(disch:=try exact aj)only[reduceAdd,reduceLeDiff,reduceIte,ax,F,Bool.not_false,ab,A,E,EM];rw[if_neg w];exact bb.2 ⟨.az,.az,.az,rfl,dw.nil,dw.nil,dw.nil,(ao.cW (bm _) _).cW af _⟩
 ·have z0:(ak != 0)=true:=by simpa using G
  have a6:=ae.aV z;have a7:=ae.aV B;rw[if_neg G];have aS:=ae.aV y;have aU:=ae.aV v;have a1:=al.trans d;simp-implicitDefEqProofs(disch:=try exact aj)only[reduceAdd,reduceLeDiff,reduceIte,ax,ae.h1,z0,y,v,EM];refine bb.2 ⟨.az,.az,.az,rfl,dw.nil,dw.nil,dw.nil,?_⟩
  repeat (first|exact a1|refine aP.bI ?_ _|refine aP.cW ?_ af _)
end
section
variable {α:Type}{K:hd α}{H:ae}{ok:Nat->Prop}
def dw.row{l:List α}{v:ad}(h:dw K H ok l v)(c:¬l.length=0):∃L i cap ro els,v= .aD L i l.length K.esz cap/\H.get L=D (.row ro K.esz els)/\∀(j:Nat) (a:α),l[j]? =D a->∃cs,els[i+j]? =D cs/\K.V H ok a cs:=by
 rcases h with⟨rfl,h⟩|⟨L,i,cap,ro,els,d,m,e,k⟩|⟨L,i,cap,rfl,h⟩
 ·rw[h]at c;exact absurd rfl c
 ·exact⟨L,i,_,ro,els,d,e,k⟩
 ·rw[h]at c;exact absurd rfl c
end
def dw.k2{H:ae}{ok:Nat->Prop}{l:List bF}{v:ad}(h:dw e5 H ok l v)(H':ae):cg P H' .len [23] [v]=D (I J l.length):=by
 rcases h with⟨rfl,rfl⟩|⟨L,i,cap,ro,els,rfl,_⟩|⟨L,i,cap,rfl,rfl⟩
 ·exact tC
 ·exact rO
 ·exact rO
def dw.tv{H:ae}{ok:Nat->Prop}{l:List e9}{v:ad}(h:dw hV H ok l v)(H':ae):cg P H' .len [22] [v]=D (I J l.length):=by
 rcases h with⟨rfl,rfl⟩|⟨L,i,cap,ro,els,rfl,_⟩|⟨L,i,cap,rfl,rfl⟩
 ·exact tB
 ·exact rN
 ·exact rN
def dw.tw{H:ae}{ok:Nat->Prop}{l:List Fn}{v:ad}(h:dw gF H ok l v)(H':ae):cg P H' .len [24] [v]=D (I J l.length):=by
 rcases h with⟨rfl,rfl⟩|⟨L,i,cap,ro,els,rfl,_⟩|⟨L,i,cap,rfl,rfl⟩
 ·exact tD
 ·exact rP
 ·exact rP
def Hs(a:Fn):Prop:=a.params.length<=1000000000/\a.body.length<=1000000000/\en 1000000000 a.body
structure sQ(g:cj):Prop where
 r:g.cm.length<=1000000000/\∀a∈g.cm,a.fields.length<=1000000000
 jH:g.globals.length<=1000000000
 f:g.funcs.length<=1000000000/\∀a∈g.funcs,Hs a
section
set_option maxRecDepth 100000
noncomputable section
