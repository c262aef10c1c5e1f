/-
  Texts of one proof, laid together: Y8 ShCa E1 ShR Wa ShRa Wb.
-/
import Derived.Test.YtghmbpmaafnodaaDoorMK
set_option linter.unusedVariables false
set_option linter.unusedSimpArgs false
set_option linter.defProp false
open Option renaming some→D,none→C
open Bool renaming true→X,false→U
open Go.bn.aa renaming int→I,str→Z
open Go.IntKind renaming i64→J
namespace Go.Proofs.YtghmbpmaafnodaaDoor
open Go.bn
open Nat (reduceAdd reduceLeDiff)
def NC{n:Nat}(R:s9 n){H0 H:af}{r:Nat}{T:List Tok}{ax:aa}{s:al}(c:b6 H0 r T ax s)(x:aU H0 H)(B:H.get H0.next=D (.row U 11 [[I J 0,I J 0,Z [],Z [],I J 0,.aA,I J 0,I J 0,I J 0,I J 0,I J 0]])){b:Nat}(ab:H0.next<b)(F:H.get b=D (.row U 4 [[I J (aj T s.at_).kind,Z (aj T s.at_).text,I J (aj T s.at_).n,I J (aj T s.at_).pos]])){z:aE}{s':al}(h:(bif aV T (bA T s).2 [40]then(fN T n (bA T s).2).bind λp=>D (.mk {kind:=7,name:=(bA T s).1,pos:=(aj T s.at_).pos} p.1,p.2)else D (.mk {kind:=4,name:=(bA T s).1,pos:=(aj T s.at_).pos} [],(bA T s).2))=D (z,s')):
  W (mU (aI P aB) (.ptr r 0 0) (.ptr H0.next 0 0) (.ptr b 0 0) H) (ew H0 r T ax z s'):=by
 have ad:=c.rd.lt;have ap:=c.bW.one;have Q:=c.aR x;have hle:=x.1;have am:=af.a6 F;have ag:=af.a6 B;rw[mU];refine aW (o8 Q) ?_;rintro _ H1 ⟨rfl,m1,u⟩;refine⟨m1.1,?_⟩;have M:=m1.get B ae;have N:=m1.get F ae;simp-implicitDefEqProofs(disch:=try exact ak)only[hH,hI,hJ,hK,hL,ht,gS,hv,gT,hx,gU,hy,gV,hz,gW,hA,gX,gY,hB,gZ,hC,g_,ha,gr,gu,gv,gw,gx,hD,hE,hF,hG,gR,reduceAdd,reduceLeDiff,reduceIte,az];refine aW (dP u.rd u.bW [40] (by simp)) ?_;rintro _ y ⟨rfl,e⟩;refine⟨e.1,?_⟩;have j:=e.get M;have d:=e.get N;have ah:=af.a6 j;have an:=af.a6 d;have G:=u.aR e;have w:=((x.mut (· =r)).trans m1).trans (e.mut _);cases E:aV T (bA T s).2 [40]with
 |false=>
  simp only[E,aN,aZ,cj]at h;obtain⟨rfl,rfl⟩:=h;simp-implicitDefEqProofs(disch:=try exact ak)only[hH,hI,hJ,hK,hL,ht,gS,hv,gT,hx,gU,hy,gV,hz,gW,hA,gX,gY,hB,gZ,hC,g_,ha,gr,gu,gv,gw,gx,hD,hE,hF,hG,gR,reduceAdd,reduceLeDiff,reduceIte,az,Bool.not_false,j,d];exact a_.2 (ew.box (a:={kind:=4,name:=(bA T s).1,pos:=(aj T s.at_).pos}) (kv:= .aA) (lo:=H0.next+1) c w G.rd (bo _) (Nat.lt_succ_self _) (cz.nil _ _) _)
 |true=>
  simp only[E,aS,dc]at h;obtain⟨⟨S,s1⟩,L,A⟩:=h;simp only[aZ,cj]at A;obtain⟨rfl,rfl⟩:=A;simp-implicitDefEqProofs(disch:=try exact ak)only[hH,hI,hJ,hK,hL,ht,gS,hv,gT,hx,gU,hy,gV,hz,gW,hA,gX,gY,hB,gZ,hC,g_,ha,gr,gu,gv,gw,gx,hD,hE,hF,hG,gR,reduceAdd,reduceLeDiff,reduceIte,az,Bool.not_true];refine aW (R G S s1 L) ?_;rintro v V ⟨m3,K,o⟩;refine⟨m3.1,?_⟩;have m:=m3.get j ae;have q:=m3.get d ae;have ai:=af.a6 m;have ao:=af.a6 q;have O:v= .aA\/∃l i n cap,v= .aG l i n 11 cap:=by
   rcases o with⟨h,_⟩|⟨l,i,cap,ro,els,h,_⟩|⟨l,i,cap,h,_⟩
   ·exact .inl h
   ·exact .inr ⟨_,_,_,_,h⟩
   ·exact .inr ⟨_,_,_,_,h⟩
  rcases O with rfl|⟨l,i,k,cap,rfl⟩
  ·simp-implicitDefEqProofs(disch:=try exact ak)only[hH,hI,hJ,hK,hL,ht,gS,hv,gT,hx,gU,hy,gV,hz,gW,hA,gX,gY,hB,gZ,hC,g_,ha,gr,gu,gv,gw,gx,hD,hE,hF,hG,gR,reduceAdd,reduceLeDiff,reduceIte,az,m,q,d];exact a_.2 (ew.box (a:={kind:=7,name:=(bA T s).1,pos:=(aj T s.at_).pos}) (kv:= .aA) (lo:=y.next) c (w.trans m3) K.rd (bo _) ae o _)
  ·simp-implicitDefEqProofs(disch:=try exact ak)only[hH,hI,hJ,hK,hL,ht,gS,hv,gT,hx,gU,hy,gV,hz,gW,hA,gX,gY,hB,gZ,hC,g_,ha,gr,gu,gv,gw,gx,hD,hE,hF,hG,gR,reduceAdd,reduceLeDiff,reduceIte,az,m,q,d];exact a_.2 (ew.box (a:={kind:=7,name:=(bA T s).1,pos:=(aj T s.at_).pos}) (kv:= .aG l i k 11 cap) (lo:=y.next) c (w.trans m3) K.rd (bo _) ae o _)
def NG{H0 H:af}{r:Nat}{T:List Tok}{ax:aa}{s:al}(c:b6 H0 r T ax s)(j:aU H0 H)(d:H.get H0.next=D (.row U 11 [[I J 0,I J 0,Z [],Z [],I J 0,.aA,I J 0,I J 0,I J 0,I J 0,I J 0]])){b:Nat}(v:H0.next<b)(e:H.get b=D (.row U 4 [[I J (aj T s.at_).kind,Z (aj T s.at_).text,I J (aj T s.at_).n,I J (aj T s.at_).pos]])){k:aE}{s':al}(h:D (aE.mk {kind:=1,n:=(aj T s.at_).n,pos:=(aj T s.at_).pos} [],aw s)=D (k,s')):
  W (hH (.ptr r 0 0) H (.ptr b 0 0) (.ptr H0.next 0 0)) (ew H0 r T ax k s'):=by
 have w:=c.rd.lt;have p:=c.bW.one;have q:=c.aR j;have hle:=j.1;have y:=af.a6 e;have x:=af.a6 d;have i:=q.rd;have m:=i;unfold bX at m;have z:=i.lt;obtain⟨m1,l⟩:=fR i (aw s);have o:=(j.mut (· =r)).trans m1;have B:=c.mut o l;have u:=m1.get d ae;have A:=m1.get e ae;simp only[aZ,cj]at h;obtain⟨rfl,rfl⟩:=h;simp-implicitDefEqProofs(disch:=try exact ak)only[hH,hI,hJ,hK,hL,ht,gS,hv,gT,hx,gU,hy,gV,hz,gW,hA,gX,gY,hB,gZ,hC,g_,ha,gr,gu,gv,gw,gx,hD,hE,hF,hG,gR,reduceAdd,reduceLeDiff,reduceIte,az,m,p,d,e];exact a_.2 (ew.box (a:={kind:=1,n:=(aj T s.at_).n,pos:=(aj T s.at_).pos}) (kv:= .aA) (lo:=H0.next+1) c o l (bo _) (Nat.lt_succ_self _) (cz.nil _ _) _)
def Ep{H0 H:af}{r:Nat}{T:List Tok}{ax:aa}{s:al}(c:b6 H0 r T ax s)(m:aU H0 H)(d:H.get H0.next=D (.row U 11 [[I J 0,I J 0,Z [],Z [],I J 0,.aA,I J 0,I J 0,I J 0,I J 0,I J 0]])){b:Nat}(w:H0.next<b)(e:H.get b=D (.row U 4 [[I J (aj T s.at_).kind,Z (aj T s.at_).text,I J (aj T s.at_).n,I J (aj T s.at_).pos]])){o:aE}{s':al}(h:D (aE.mk {kind:=2,n:=bif (aj T s.at_).text==[116,114,117,101]then 1 else 0,pos:=(aj T s.at_).pos} [],aw s)=D (o,s')):
  W (hI (aI P aB) (.ptr r 0 0) H (.ptr b 0 0) (.ptr H0.next 0 0)) (ew H0 r T ax o s'):=by
 have x:=c.rd.lt;have p:=c.bW.one;have u:=c.aR m;have hle:=m.1;have z:=af.a6 e;have y:=af.a6 d;have j:=u.rd;have k:=j;unfold bX at k;have A:=j.lt;obtain⟨m1,i⟩:=fR j (aw s);have l:=(m.mut (· =r)).trans m1;have E:=c.mut l i;have v:=m1.get d ae;have B:=m1.get e ae;simp only[aZ,cj]at h;obtain⟨rfl,rfl⟩:=h;cases q:(aj T s.at_).text==[116,114,117,101]with
 |true=>
  simp-implicitDefEqProofs(disch:=try exact ak)only[hH,q3,hI,hJ,hK,hL,ht,gS,hv,gT,hx,gU,hy,gV,hz,gW,hA,gX,gY,hB,gZ,hC,g_,ha,gr,gu,gv,gw,gx,hD,hE,hF,hG,gR,reduceAdd,reduceLeDiff,reduceIte,az,k,p,d,e,q];exact a_.2 (ew.box (a:={kind:=2,n:=1,pos:=(aj T s.at_).pos}) (kv:= .aA) (lo:=H0.next+1) c l i (bo _) (Nat.lt_succ_self _) (cz.nil _ _) _)
 |false=>
  simp-implicitDefEqProofs(disch:=try exact ak)only[hH,q3,hI,hJ,hK,hL,ht,gS,hv,gT,hx,gU,hy,gV,hz,gW,hA,gX,gY,hB,gZ,hC,g_,ha,gr,gu,gv,gw,gx,hD,hE,hF,hG,gR,reduceAdd,reduceLeDiff,reduceIte,az,k,p,d,e,q];exact a_.2 (ew.box (a:={kind:=2,n:=0,pos:=(aj T s.at_).pos}) (kv:= .aA) (lo:=H0.next+1) c l i (bo _) (Nat.lt_succ_self _) (cz.nil _ _) _)
def NF{H0 H:af}{r:Nat}{T:List Tok}{ax:aa}{s:al}(c:b6 H0 r T ax s)(i:aU H0 H)(k:H.get H0.next=D (.row U 11 [[I J 0,I J 0,Z [],Z [],I J 0,.aA,I J 0,I J 0,I J 0,I J 0,I J 0]])){b:Nat}(B:H0.next<b)(d:H.get b=D (.row U 4 [[I J (aj T s.at_).kind,Z (aj T s.at_).text,I J (aj T s.at_).n,I J (aj T s.at_).pos]])){j:aE}{s':al}(h:D (aE.mk {kind:=3,b4:=(cM T (aw s)).1.1,cy:=(cM T (aw s)).1.2,pos:=(aj T s.at_).pos} [],(cM T (aw s)).2)=D (j,s')):
  W (hJ (aI P aB) (.ptr r 0 0) H (.ptr b 0 0) (.ptr H0.next 0 0)) (ew H0 r T ax j s'):=by
 have E:=c.rd.lt;have v:=c.bW.one;have x:=c.aR i;have hle:=i.1;have K:=af.a6 d;have F:=af.a6 k;have e:=x.rd;have o:=e;unfold bX at o;have M:=e.lt;obtain⟨m1,u⟩:=fR e (aw s);have p:=(i.mut (· =r)).trans m1;have y:=c.mut p u;have q:=m1.get k ae;have w:=m1.get d ae;simp only[aZ,cj]at h;obtain⟨rfl,rfl⟩:=h;simp-implicitDefEqProofs(disch:=try exact ak)only[hH,hI,hJ,hK,hL,ht,gS,hv,gT,hx,gU,hy,gV,hz,gW,hA,gX,gY,hB,gZ,hC,g_,ha,gr,gu,gv,gw,gx,hD,hE,hF,hG,gR,reduceAdd,reduceLeDiff,reduceIte,az,o,v];refine aW (uB y) ?_;rintro _ A ⟨rfl,m2,z⟩;refine⟨m2.1,?_⟩;have l:=m2.get q ae;have m:=m2.get w ae;have G:=af.a6 l
 have L:=af.a6 m;simp-implicitDefEqProofs(disch:=try exact ak)only[hH,hI,hJ,hK,hL,ht,gS,hv,gT,hx,gU,hy,gV,hz,gW,hA,gX,gY,hB,gZ,hC,g_,ha,gr,gu,gv,gw,gx,hD,hE,hF,hG,gR,reduceAdd,reduceLeDiff,reduceIte,az,l,m,d];exact a_.2 (ew.box (a:={kind:=3,b4:=(cM T (aw s)).1.1,cy:=(cM T (aw s)).1.2,pos:=(aj T s.at_).pos}) (kv:= .aA) (lo:=H0.next+1) c (p.trans m2) z.rd (bo _) (Nat.lt_succ_self _) (cz.nil _ _) _)
def ND{n:Nat}(B:tc n){H0 H:af}{r:Nat}{T:List Tok}{ax:aa}{s:al}(a:b6 H0 r T ax s)(i:aU H0 H)(j:H.get H0.next=D (.row U 11 [[I J 0,I J 0,Z [],Z [],I J 0,.aA,I J 0,I J 0,I J 0,I J 0,I J 0]])){b:Nat}(F:H0.next<b)(d:H.get b=D (.row U 4 [[I J (aj T s.at_).kind,Z (aj T s.at_).text,I J (aj T s.at_).n,I J (aj T s.at_).pos]])){c:aE}{s':al}(h:gb T n (aj T s.at_).pos (aw s)=D (c,s')):
  W (hK (aI P aB) (.ptr r 0 0) H (.ptr b 0 0) (.ptr H0.next 0 0)) (ew H0 r T ax c s'):=by
 have G:=a.rd.lt;have u:=a.bW.one;have y:=a.aR i;have hle:=i.1;have M:=af.a6 d;have K:=af.a6 j;have e:=y.rd;have m:=e;unfold bX at m;have N:=e.lt;obtain⟨m1,q⟩:=fR e (aw s);have o:=(i.mut (· =r)).trans m1;have z:=a.mut o q;have p:=m1.get j ae;have Q:=m1.get d ae;simp-implicitDefEqProofs(disch:=try exact ak)only[hH,hI,hJ,hK,hL,ht,gS,hv,gT,hx,gU,hy,gV,hz,gW,hA,gX,gY,hB,gZ,hC,g_,ha,gr,gu,gv,gw,gx,hD,hE,hF,hG,gR,reduceAdd,reduceLeDiff,reduceIte,az,m,u,d];refine aW (B z _ c s' h) ?_;rintro v E ⟨m2,A,l⟩;refine⟨m2.1,?_⟩;have k:=m2.get p ae;have L:=af.a6 k;have O:=m1.1;obtain⟨cs,rfl,hlen,w⟩:=l.cells;have x:List.take 11 cs=cs:=List.take_of_length_le ae
 simp-implicitDefEqProofs(disch:=try exact ak)only[hH,hI,hJ,hK,hL,ht,gS,hv,gT,hx,gU,hy,gV,hz,gW,hA,gX,gY,hB,gZ,hC,g_,ha,gr,gu,gv,gw,gx,hD,hE,hF,hG,gR,reduceAdd,reduceLeDiff,reduceIte,az,k,hlen,w,List.append_nil,x];exact a_.2 (ew.ret a (o.trans m2) A.rd (bo _) l ae _)
def first_par{n:Nat}(u:pM n){H0 H:af}{r:Nat}{T:List Tok}{ax:aa}{s:al}(a:b6 H0 r T ax s)(d:aU H0 H)(e:H.get H0.next=D (.row U 11 [[I J 0,I J 0,Z [],Z [],I J 0,.aA,I J 0,I J 0,I J 0,I J 0,I J 0]])){b:Nat}(y:H0.next<b)(m:H.get b=D (.row U 4 [[I J (aj T s.at_).kind,Z (aj T s.at_).text,I J (aj T s.at_).n,I J (aj T s.at_).pos]])){c:aE}{s':al}(h:e4 T n s=D (c,s')):
  W (gS (aI P aB) H (.ptr r 0 0) (.ptr H0.next 0 0)) (ew H0 r T ax c s'):=by
 have z:=a.rd.lt;have G:=a.bW.one;have p:=a.aR d;have hle:=d.1;have E:=af.a6 m;have A:=af.a6 e;have w:=d.mut (· =r);have m1:=dp.refl (· =r) H;have k:=e;rw[gS];refine aW (u p c s' h) ?_;rintro v x ⟨m2,q,j⟩;refine⟨m2.1,?_⟩;have i:=m2.get k ae;have B:=af.a6 i;have F:=m1.1;obtain⟨cs,rfl,hlen,l⟩:=j.cells;have o:List.take 11 cs=cs:=List.take_of_length_le ae;simp-implicitDefEqProofs(disch:=try exact ak)only[hH,hI,hJ,hK,hL,ht,gS,hv,gT,hx,gU,hy,gV,hz,gW,hA,gX,gY,hB,gZ,hC,g_,ha,gr,gu,gv,gw,gx,hD,hE,hF,hG,gR,reduceAdd,reduceLeDiff,reduceIte,az,i,hlen,l,List.append_nil,o];exact a_.2 (ew.ret a (w.trans m2) q.rd (bo _) j ae _)
def NH{H0 H:af}{r:Nat}{T:List Tok}{ax:aa}{s:al}(c:b6 H0 r T ax s)(e:aU H0 H)(j:H.get H0.next=D (.row U 11 [[I J 0,I J 0,Z [],Z [],I J 0,.aA,I J 0,I J 0,I J 0,I J 0,I J 0]])){b:Nat}(F:H0.next<b)(l:H.get b=D (.row U 4 [[I J (aj T s.at_).kind,Z (aj T s.at_).text,I J (aj T s.at_).n,I J (aj T s.at_).pos]])){i:aE}{s':al}(h:D (aE.mk {kind:=11,pos:=(aj T s.at_).pos} [],dh T [41] (cB T [40] (aw s)))=D (i,s')):
  W (ht (aI P aB) (.ptr r 0 0) H (.ptr b 0 0) (.ptr H0.next 0 0)) (ew H0 r T ax i s'):=by
 have G:=c.rd.lt;have v:=c.bW.one;have x:=c.aR e;have hle:=e.1;have M:=af.a6 l;have K:=af.a6 j;have d:=x.rd;have o:=d;unfold bX at o;have O:=d.lt;obtain⟨m1,u⟩:=fR d (aw s);have p:=(e.mut (· =r)).trans m1;have y:=c.mut p u;have q:=m1.get j ae;have w:=m1.get l ae;simp only[aZ,cj]at h;obtain⟨rfl,rfl⟩:=h;simp-implicitDefEqProofs(disch:=try exact ak)only[hH,hI,hJ,hK,hL,ht,gS,hv,gT,hx,gU,hy,gV,hz,gW,hA,gX,gY,hB,gZ,hC,g_,ha,gr,gu,gv,gw,gx,hD,hE,hF,hG,gR,reduceAdd,reduceLeDiff,reduceIte,az,o,v];refine aW (sq y [40] (by simp)) ?_;rintro _ B ⟨rfl,m2,z⟩;refine⟨m2.1,?_⟩;simp-implicitDefEqProofs(disch:=try exact ak)only[hH,hI,hJ,hK,hL,ht,gS,hv,gT,hx,gU,hy,gV,hz,gW,hA,gX,gY,hB,gZ,hC,g_,ha,gr,gu,gv,gw,gx,hD,hE,hF,hG,gR,reduceAdd,reduceLeDiff,reduceIte,az]
 refine aW (sk z [41] (by simp)) ?_;rintro _ E ⟨rfl,m3,A⟩;refine⟨m3.1,?_⟩;have k:=m3.get (m2.get q ae) ae;have m:=m3.get (m2.get w ae) ae;have L:=af.a6 k;have N:=af.a6 m;simp-implicitDefEqProofs(disch:=try exact ak)only[hH,hI,hJ,hK,hL,ht,gS,hv,gT,hx,gU,hy,gV,hz,gW,hA,gX,gY,hB,gZ,hC,g_,ha,gr,gu,gv,gw,gx,hD,hE,hF,hG,gR,reduceAdd,reduceLeDiff,reduceIte,az,k,m];exact a_.2 (ew.box (a:={kind:=11,pos:=(aj T s.at_).pos}) (kv:= .aA) (lo:=H0.next+1) c ((p.trans m2).trans m3) A.rd (bo _) (Nat.lt_succ_self _) (cz.nil _ _) _)
def NB{n:Nat}(O:pM n){H0 H:af}{r:Nat}{T:List Tok}{ax:aa}{s:al}(d:b6 H0 r T ax s)(i:aU H0 H)(m:H.get H0.next=D (.row U 11 [[I J 0,I J 0,Z [],Z [],I J 0,.aA,I J 0,I J 0,I J 0,I J 0,I J 0]])){b:Nat}(R:H0.next<b)(e:H.get b=D (.row U 4 [[I J (aj T s.at_).kind,Z (aj T s.at_).text,I J (aj T s.at_).n,I J (aj T s.at_).pos]])){j:aE}{s':al}(h:((e4 T n (aw s)).bind λp=>D (aE.mk {kind:=10,pos:=(aj T s.at_).pos} [p.1],p.2))=D (j,s')):
  W (hL (aI P aB) (.ptr r 0 0) H (.ptr b 0 0) (.ptr H0.next 0 0)) (ew H0 r T ax j s'):=by
 have V:=d.rd.lt;have F:=d.bW.one;have L:=d.aR i;have hle:=i.1;have ag:=af.a6 e;have ab:=af.a6 m;have c:=L.rd;have w:=c;unfold bX at w;have ai:=c.lt;obtain⟨m1,E⟩:=fR c (aw s);have y:=(i.mut (· =r)).trans m1;have M:=d.mut y E;have B:=m1.get m ae;have K:=m1.get e ae;simp only[dc]at h;obtain⟨⟨aq,s1⟩,A,k⟩:=h;simp only[aZ,cj]at k;obtain⟨rfl,rfl⟩:=k;simp-implicitDefEqProofs(disch:=try exact ak)only[hH,hI,hJ,hK,hL,ht,gS,hv,gT,hx,gU,hy,gV,hz,gW,hA,gX,gY,hB,gZ,hC,g_,ha,gr,gu,gv,gw,gx,hD,hE,hF,hG,gR,reduceAdd,reduceLeDiff,reduceIte,az,w,F];refine aW (O M aq s1 A) ?_;rintro v z ⟨m2,N,q⟩;refine⟨m2.1,?_⟩;have o:=m2.get B ae
 have u:=m2.get K ae;have ad:=af.a6 o;have ah:=af.a6 u;have am:=m1.1;have an:=m2.1;obtain⟨cs,rfl,hlen,G⟩:=q.cells;have ao:List.take 11 cs=cs:=List.take_of_length_le ae;have ar:∀l,cl P l 41 1 [(0,.agg cs)]=D (.aG l 0 1 11 (D 1),.row U 11 [cs]):=λl=>lb l cs hlen G
 have Q:=y.trans m2;have x:=N.rd;unfold bX at x;have c:=x;simp-implicitDefEqProofs(disch:=try exact ak)only[hH,hI,hJ,hK,hL,ht,gS,hv,gT,hx,gU,hy,gV,hz,gW,hA,gX,gY,hB,gZ,hC,g_,ha,gr,gu,gv,gw,gx,hD,hE,hF,hG,gR,reduceAdd,reduceLeDiff,reduceIte,az,ar,o,u,e];refine a_.2 ?_;refine l6.fin (ok:=bx H0.next) (a:={kind:=10,pos:=(aj T s.at_).pos}) (kv:= .aG z.next 0 1 11 (D 1)) (s':=s1) d ?_ ?_ (cz.qo (ro:=false) ?_ (by unfold bx;omega) (q.new ?_ λl h=>by unfold bx;omega))
 ·(repeat (first|exact Q|refine dp.bT ?_ _|refine dp.db (S:=(· =r)) ?_ (.inl rfl) _|refine dp.db ?_ (.inr (by(first|omega|(simp only[af.ch,af.dK];omega)))) _))
 ·(unfold bX;simp-implicitDefEqProofs(disch:=try exact ak)only[ed,c,aw,dU,e0])
 ·simp-implicitDefEqProofs(disch:=try exact ak)only[ed]
 ·exact dp.db (S:=λl=>l<_) ((dp.refl _ _).bT _) (.inl ae) _
def NI{n:Nat}(ab:tc n)(O:pM n)(V:s9 n){H0 H:af}{r:Nat}{T:List Tok}{ax:aa}{s:al}(a:b6 H0 r T ax s)(d:aU H0 H)(R:H.get H0.next=D (.row U 11 [[I J 0,I J 0,Z [],Z [],I J 0,.aA,I J 0,I J 0,I J 0,I J 0,I J 0]])){b:Nat}(c:H0.next<b)(S:H.get b=D (.row U 4 [[I J (aj T s.at_).kind,Z (aj T s.at_).text,I J (aj T s.at_).n,I J (aj T s.at_).pos]])){q:aE}{s':al}(h:(bif aV T s [110,117,108,108]then D (.mk {kind:=3,b4:=(cM T (aw s)).1.1,cy:=(cM T (aw s)).1.2,pos:=(aj T s.at_).pos} [],(cM T (aw s)).2)else(bif aV T s [110,101,119]then gb T n (aj T s.at_).pos (aw s)else(bif aV T s [108,101,110]then(e4 T n (aw s)).bind λp=>D (.mk {kind:=10,pos:=(aj T s.at_).pos} [p.1],p.2)else(bif aV T s [114,101,97,100]then D (.mk {kind:=11,pos:=(aj T s.at_).pos} [],dh T [41] (cB T [40] (aw s)))else(bif aV T s [40]then e4 T n s else(bif aV T (bA T s).2 [40]then(fN T n (bA T s).2).bind λp=>D (.mk {kind:=7,name:=(bA T s).1,pos:=(aj T s.at_).pos} p.1,p.2)else D (.mk {kind:=4,name:=(bA T s).1,pos:=(aj T s.at_).pos} [],(bA T s).2)))))))=D (q,s')):
  W (gY (aI P aB) H (.ptr r 0 0) (.ptr b 0 0) (.ptr H0.next 0 0)) (ew H0 r T ax q s'):=by
 have am:=a.aR d;rw[gY];refine aW (dP (a.rd.aR d) (a.bW.aR d) [110,117,108,108] (by simp)) ?_;rintro _ ad ⟨rfl,hU⟩;refine⟨hU.1,?_⟩;have e:=d.trans hU;have z:=hU.get R;have G:=hU.get S;cases u:aV T s [110,117,108,108]with
 |true=>
  simp only[u,aS]at h;simp-implicitDefEqProofs(disch:=try exact ak)only[gX,fl,aS];exact NF a e z c G h
 |false=>
  simp only[u,aN]at h;simp-implicitDefEqProofs(disch:=try exact ak)only[gX,fl,aN];rw[hA];refine aW (dP (a.rd.aR e) (a.bW.aR e) [110,101,119] (by simp)) ?_;rintro _ ae ⟨rfl,bb⟩;refine⟨bb.1,?_⟩;have i:=e.trans bb;have A:=bb.get z;have K:=bb.get G;cases v:aV T s [110,101,119]with
  |true=>
   simp only[v,aS]at h;simp-implicitDefEqProofs(disch:=try exact ak)only[gW,fl,aS];exact ND ab a i A c K h
  |false=>
   simp only[v,aN]at h;simp-implicitDefEqProofs(disch:=try exact ak)only[gW,fl,aN];rw[hz];refine aW (dP (a.rd.aR i) (a.bW.aR i) [108,101,110] (by simp)) ?_;rintro _ ag ⟨rfl,l⟩;refine⟨l.1,?_⟩;have j:=i.trans l;have B:=l.get A;have L:=l.get K;cases w:aV T s [108,101,110]with
   |true=>
    simp only[w,aS]at h;simp-implicitDefEqProofs(disch:=try exact ak)only[gV,fl,aS];exact NB O a j B c L h
   |false=>
    simp only[w,aN]at h;simp-implicitDefEqProofs(disch:=try exact ak)only[gV,fl,aN];rw[hy];refine aW (dP (a.rd.aR j) (a.bW.aR j) [114,101,97,100] (by simp)) ?_;rintro _ ah ⟨rfl,m⟩;refine⟨m.1,?_⟩;have k:=j.trans m;have E:=m.get B;have M:=m.get L;cases x:aV T s [114,101,97,100]with
    |true=>
     simp only[x,aS]at h;simp-implicitDefEqProofs(disch:=try exact ak)only[gU,fl,aS];exact NH a k E c M h
    |false=>
     simp only[x,aN]at h;simp-implicitDefEqProofs(disch:=try exact ak)only[gU,fl,aN];rw[hx];refine aW (dP (a.rd.aR k) (a.bW.aR k) [40] (by simp)) ?_;rintro _ ai ⟨rfl,o⟩;refine⟨o.1,?_⟩;have Q:=k.trans o;have F:=o.get E;have N:=o.get M;cases y:aV T s [40]with
     |true=>
      simp only[y,aS]at h;simp-implicitDefEqProofs(disch:=try exact ak)only[gT,fl,aS];exact first_par O a Q F c N h
     |false=>
      simp only[y,aN]at h;simp-implicitDefEqProofs(disch:=try exact ak)only[gT,fl,aN];rw[hv];exact NC V a Q F c N h
def NJ{n:Nat}(M:tc n)(N:pM n)(L:s9 n):xM (n+1):=by
 intro H r T ax s a e s' h;refine cO (λ_=>RV 0) ?_;have S:=a.rd.lt;simp only[dY]at h;have o:=aU.push H (.row U 11 [[I J 0,I J 0,Z [],Z [],I J 0,.aA,I J 0,I J 0,I J 0,I J 0,I J 0]]);simp-implicitDefEqProofs(disch:=try exact ak)only[gR,hG,reduceAdd,reduceLeDiff,reduceIte,az];refine aW (jt (a.rd.aR o) (a.bW.aR o)) ?_;rintro _ l ⟨rfl,p⟩;refine⟨p.1,?_⟩;have G:=p.get (af.bY H _);have V:=af.a6 G;simp-implicitDefEqProofs(disch:=try exact ak)only[hF,hE,reduceAdd,reduceLeDiff,reduceIte,az,Tok.v];have F:=p.bT (.row U 4 [[I J (aj T s.at_).kind,Z (aj T s.at_).text,I J (aj T s.at_).n,I J (aj T s.at_).pos]])
 have z:=af.bY l (.row U 4 [[I J (aj T s.at_).kind,Z (aj T s.at_).text,I J (aj T s.at_).n,I J (aj T s.at_).pos]]);have w:=F.get (af.bY H _);have c:=o.trans F;rw[hD];refine aW (mA (a.rd.aR c)) ?_;rintro _ O ⟨rfl,rfl⟩;refine⟨bo _,?_⟩;have rest:(s.an==0&&(aj T s.at_).kind==2)=U->W (ha (aI P aB) (l.push (.row U 4 [[I J (aj T s.at_).kind,Z (aj T s.at_).text,I J (aj T s.at_).n,I J (aj T s.at_).pos]])) (.ptr r 0 0) (.ptr H.next 0 0) (.ptr l.next 0 0)) (ew H r T ax e s'):=by
  intro K;simp only[K,aN]at h;rw[ha];refine aW (dP (a.rd.aR c) (a.bW.aR c) [116,114,117,101] (by simp)) ?_;rintro _ Q ⟨rfl,j⟩;refine⟨j.1,?_⟩;have i:=c.trans j;have x:=j.get w;have A:=j.get z;cases q:aV T s [116,114,117,101]with
  |true=>
   simp only[q,Bool.true_or,aS]at h;simp-implicitDefEqProofs(disch:=try exact ak)only[g_,hB,pC,fl,aS];exact Ep a i x ae A h
  |false=>
   simp only[q,Bool.false_or]at h;simp-implicitDefEqProofs(disch:=try exact ak)only[g_,hC,fl,aN];refine aW (dP (a.rd.aR i) (a.bW.aR i) [102,97,108,115,101] (by simp)) ?_;rintro _ R ⟨rfl,k⟩;refine⟨k.1,?_⟩;have E:=i.trans k;have y:=k.get x;have B:=k.get A;cases u:aV T s [102,97,108,115,101]with
   |true=>
    simp only[u,aS]at h;simp-implicitDefEqProofs(disch:=try exact ak)only[gZ,pC,fl,aS];exact Ep a E y ae B h
   |false=>
    simp only[u,aN]at h;simp-implicitDefEqProofs(disch:=try exact ak)only[gZ,pC,fl,aN];exact NI M N L a E y ae B h
 cases m:s.an==0 with
 |false=>
  simp-implicitDefEqProofs(disch:=try exact ak)only[gx,gw,gv,gu,gr,reduceAdd,reduceLeDiff,reduceIte,az];exact rest (by simp[m])
 |true=>
  cases d:(aj T s.at_).kind==2 with
  |true=>
   simp only[m,d,Bool.and_self,aS]at h;simp-implicitDefEqProofs(disch:=try exact ak)only[gx,gw,gv,gu,gr,reduceAdd,reduceLeDiff,reduceIte,az,d];exact NG a c w ae z h
  |false=>
   simp-implicitDefEqProofs(disch:=try exact ak)only[gx,gw,gv,gu,gr,reduceAdd,reduceLeDiff,reduceIte,az,d];exact rest (by simp[m,d])
def BT:∀n,n<=900000000->∀k,k<=n->K8 k
 |0,_,k,a=>by
  have:k=0:=ae;subst this;exact⟨λ_ _ _ _ _ h=>by simp[dF]at h,λ_ _ _ h=>by simp[gj]at h,λ_ _ _ _ _ _ h=>by simp[eU]at h,λ_ _ _ h=>by simp[e4]at h,λ_ _ _ h=>by simp[dY]at h,
   λ_ _ _ _ h=>by simp[gb]at h,λ_ _ _ h=>by simp[fN]at h⟩
 |n+1,d,k,a=>by
  have c:=BT n ae;have i:=c n (bo _);rcases Nat.lt_or_ge k (n+1)with h|h
  ·exact c k ae
  ·have:k=n+1:=ae;subst this;exact⟨Nl (λk a=>(c k a).expr) i.unary,Vb (λk a=>(c k a).expr) i.first i.behind,My λk a=>(c k a).expr,Oy i.expr,NJ i.fresh i.inner i.args,NZ i.inner,Mk ae λk a=>(c k a).expr⟩
section
set_option maxRecDepth 100000
noncomputable section
def lN(G:aD)(ag av:aa)(H:af):O:=ca H (dR (H).next ag) λa n=>ca n (dR (n).next av) λc l=>j (aJ P 45 a 0) λaX=>j (ao P l 3 aX) λbD=>j (aJ P 45 c 0) λa0=>j (ao P l 3 a0) λa1=>j (au P .eql 3 U bD a1) λk=>aM k X l (br (aJ P 45 a 1)) λak z=>aM k X z (qr (ao P z 3 ak)) λal ae=>aM k X ae (br (aJ P 45 c 1)) λam B=>aM k X B (qr (ao P B 3 am)) λan ah=>aM k X ah (br (au P .eql 3 U al an)) λap ai=>j (cE k (D ap) (D (.bool U))) λbR=>aM bR X ai (br (aJ P 45 a 2)) λaq E=>aM bR X E (qr (ao P E 9 aq)) λar aj=>aM bR X aj (br (aJ P 45 c 2)) λaw o=>aM bR X o (qr (ao P o 9 aw)) λax F=>aM bR X F (br (au P .eql 9 U ar ax)) λay K=>j (cE bR (D ay) (D (.bool U))) λd=>aM d X K (br (aJ P 45 a 3)) λaz p=>aM d X p (qr (ao P p 40 az)) λaB L=>aM d X L (br (aJ P 45 c 3)) λaC s=>aM d X s (qr (ao P s 40 aC)) λaE M=>aM d X M (br (au P .eql 40 U aB aE)) λaF N=>j (cE d (D aF) (D (.bool U))) λe=>aM e X N (br (aJ P 45 a 6)) λaH u=>aM e X u (qr (ao P u 43 aH)) λaI Q=>aM e X Q (br (aJ P 45 c 6)) λaK v=>aM e X v (qr (ao P v 43 aK)) λaL R=>aM e X R (br (au P .eql 43 U aI aL)) λaN S=>j (cE e (D aN) (D (.bool U))) λh=>aM h X S (br (aJ P 45 a 7)) λaO w=>aM h X w (qr (ao P w 3 aO)) λaP T=>aM h X T (br (aJ P 45 c 7)) λaQ x=>aM h X x (qr (ao P x 3 aQ)) λaR V=>aM h X V (br (au P .eql 3 U aP aR)) λaS W=>j (cE h (D aS) (D (.bool U))) λi=>aM i X W (br (aJ P 45 a 4)) λaT y=>aM i X y (qr (ao P y 41 aT)) λaU ab=>aM i X ab (br (aJ P 45 c 4)) λaV A=>aM i X A (qr (ao P A 41 aV)) λaW m=>aM i X m (λq=>eQ m (G 52 [aU,aW] m) q) λaY ad=>j (cE i (D aY) (D (.bool U))) λaZ=>D (aZ,ad)
def Q9(N:Nat){ag av:aa}{H:af}{r:aa×af}(h:lN (aI P aB) ag av H=D r):aI P aB 18 [ag,av] H=D r:=cZ N (S:=λG=>lN G ag av H) Tryd.func18 (λ_=>by delta lN;kernel_rfl) h
def k6(G:aD)(N:Nat)(H:af):O:=some ((.bool X),H)
def S_(G:aD)(N:Nat):∀ad H,bC P G N (o (o (o (bI Tryd.f52)))) (bs Tryd.f52) [] (bs Tryd.f52) ad H=k6 G N H:=by
 refine bZ (aL _) λad H=> ?_
 delta k6;kernel_rfl
def nU(G:aD)(N:Nat)(d:aa->aa->aa->af->O)(ag av a:aa)(H:af):O:=bg P .len [41] [ag] H λe=>j (au P .lss 3 U a e) λh=>a7 (D h) (j (cF P 41 ag a) λi=>j (ao P H 45 i) λk=>j (cF P 41 av a) λl=>j (ao P H 45 l) λm=>aO H (G 18 [k,m] H) λn c=>j (fD .not n) λo=>a7 (D o) (D ((.bool U),c)) (j (au P .add 3 X a (I J 1)) λbR=>d ag av bR c)) (k6 G N H)
def nV(G:aD)(N:Nat):Nat->aa->aa->aa->af->O
 |0,_,_,_,_=>C
 |n+1,ag,av,a,H=>nU G N (nV G N n) ag av a H
def S9(G:aD)(N:Nat)(c:aa->aa->aa->af->O):∀ad H,bC P G N (bd (bd (o (bd (o (o (bI Tryd.f52))))))) (λad H=>c (ad 0) (ad 1) (ad 5) H) [(0,(λad H=>k6 G N H))] (bs Tryd.f52) ad H=nU G N c (ad 0) (ad 1) (ad 5) H:=by
 refine bZ (aL _) λad H=> ?_
 delta nU;generalize k6 G N=a;revert a;refine id ?_;intro a;kernel_rfl
def mL(G:aD)(N:Nat)(ag av:aa)(H:af):O:=bg P .len [41] [ag] H λc=>bg P .len [41] [av] H λd=>j (au P .neq 3 U c d) λa=>a7 (D a) (D ((.bool U),H)) (nV G N N ag av (I J 0) H)
def Ry(N:Nat){ag av:aa}{H:af}{r:aa×af}(h:mL (aI P aB) N ag av H=D r):aI P aB 52 [ag,av] H=D r:=cZ N (S:=λG=>mL G N ag av H) Tryd.func52 (λG=>eo ((aX ah ((aX ah ((aX ah (S_ G N) ((aX ah ((dx ah ((eP (k:=λm ad H=>nV G N m (ad 0) (ad 1) (ad 5) H) ah (λad H=>ah) (λm=>S9 G N (nV G N m)))))) (aL _))))) (aL _))) (aL _))) (by delta mL;generalize nV G N N=a;revert a;refine id ?_;intro a;kernel_rfl)) h
end
end
def Pl(x y:Bool):Option.map aa.bool (bif x then(bif y then D X else D U)else D U)=D (.bool (x&&y)):=by cases x<;>cases y<;>rfl
def Pm(x y z:Bool):Option.map aa.bool (bif x then(bif y then(bif z then D X else D U)else D U)else D U)=D (.bool (x&&(y&&z))):=by cases x<;>cases y<;>cases z<;>rfl
def kS{c:Bool}(a bt:List UInt8)(b ct:Int):au P .eql 40 c (.agg [Z a,I J b]) (.agg [Z bt,I J ct])=D (.bool (a==bt&&b==ct)):=
 Eq.trans ah (Pl (a==bt) (b==ct))
def p4{c:Bool}(a bt:Int)(b ct:Int)(d e:Int):au P .eql 43 c (.agg [I J a,I J b,I J d]) (.agg [I J bt,I J ct,I J e])=D (.bool (a==bt&&(b==ct&&d==e))):=
 Eq.trans ah (Pm (a==bt) (b==ct) (d==e))
def qw(a b c:Int):bp (D (.agg [I J a,I J b,I J c])) (.agg [I J a,I J b,I J c])=true:=by simp[bp,aa.beq,hg.beq]
mutual
def lS:aE->aE->Bool
 | .mk a ks,.mk b ls=>a.kind==b.kind&&(a.n==b.n&&(a.name==b.name&&((a.b4==b.b4&&a.cy==b.cy)&&((a.jc==b.jc&&(a.sX==b.sX&&a.na==b.na))&&(a.ref==b.ref&&gy ks ls)))))
def gy:List aE->List aE->Bool
 |[],[]=>X
 |[],_::_=>U
 |_::_,[]=>U
 |e::es,f::a=>lS e f&&gy es a
end
mutual
def dq(B:Nat):aE->Prop
 | .mk _ ks=>ks.length<=B/\dM B ks
def dM(B:Nat):List aE->Prop
 |[]=>True
 |e::es=>dq B e/\dM B es
end
def IV:∀(es a:List aE),es.length≠a.length->gy es a=U
 |[],[],h=>absurd rfl h
 |[],_::_,_=>by rw[gy]
 |_::_,[],_=>by rw[gy]
 |e::es,f::a,h=>by rw[gy,IV es a (by simpa using h),Bool.and_false]
def cz.eb{H:af}{ok:Nat->Prop}{ks:List aE}{kv:aa}(h:cz H ok ks kv):kv.one=true:=by
 rcases h with⟨rfl,_⟩|⟨l,i,cap,ro,els,rfl,_⟩|⟨l,i,cap,rfl,_⟩<;>rfl
def cz.aR{H H':af}{ok:Nat->Prop}{ks:List aE}{kv:aa}(h:cz H ok ks kv)(p:aU H H'):cz H' ok ks kv:=h.a1 (dA.aR p λ_ h=>h)
def cT.aR{H H':af}{ok:Nat->Prop}{e:aE}{v:aa}(h:cT H ok e v)(p:aU H H'):cT H' ok e v:=cT.a1 (dA.aR p λ_ h=>h) e v h
def dz.cons{H:af}{ok:Nat->Prop}{e:aE}{es:List aE}{els:List (List aa)}{k:Nat}(h:dz H ok (e::es) (els.drop k)):∃cs,els[k]? =D cs/\cT H ok e (.agg cs)/\dz H ok es (els.drop (k+1)):=by
 cases a:els.drop k with
 |nil=>rw[a,dz]at h;exact h.elim
 |cons cs css=>
  rw[a,dz]at h;have c:els[k]? =D cs:=by
   have:=List.getElem?_drop (xs:=els) (i:=k) (j:=0);rw[a]at this;simpa using this.symm
  have d:els.drop (k+1)=css:=by
   have:(els.drop k).drop 1=css:=by rw[a];rfl
   rwa[List.drop_drop]at this
  exact⟨cs,c,h.1,by rw[d];exact h.2⟩
def TP{H:af}{a b:bU}{ks ls:List aE}{kv cc:aa}(s:kv.one=X)(u:cc.one=X)
  (v:∀H',aU H H'->W (aI P aB 52 [kv,cc] H') λr q=>r= .bool (gy ks ls)/\aU H' q):
  W (aI P aB 18 [.agg (a.cells kv),.agg (b.cells cc)] H) λr H'=>r= .bool (lS (.mk a ks) (.mk b ls))/\aU H H':=by
 refine cO (λ_=>Q9 0) ?_;have d:∀l,dR l (.agg (a.cells kv))=D (.ptr l 0 0,.row U 11 [a.cells kv]):=λl=>hn l _ (by simp only[bU.cells,List.all_cons,List.all_nil,hs,hS,s,Bool.and_self])
 have e:∀l,dR l (.agg (b.cells cc))=D (.ptr l 0 0,.row U 11 [b.cells cc]):=λl=>hn l _ (by simp only[bU.cells,List.all_cons,List.all_nil,hs,hS,u,Bool.and_self])
 have c:=(aU.push H (.row U 11 [a.cells kv])).bT (.row U 11 [b.cells cc]);rw[lS];simp only[bU.cells]at d e c ⊢;cases h:a.kind==b.kind with
 |false=>
  simp-implicitDefEqProofs(disch:=try exact ak)only[lN,reduceAdd,reduceLeDiff,reduceIte,az,d,e,kS,p4,qw,h];exact a_.2 ⟨by simp only[Bool.false_and,Bool.and_false],c⟩
 |true=>
  cases i:a.n==b.n with
  |false=>
   simp-implicitDefEqProofs(disch:=try exact ak)only[lN,reduceAdd,reduceLeDiff,reduceIte,az,d,e,kS,p4,qw,h,i];exact a_.2 ⟨by simp only[Bool.false_and,Bool.and_false],c⟩
  |true=>
   cases j:a.name==b.name with
   |false=>
    simp-implicitDefEqProofs(disch:=try exact ak)only[lN,reduceAdd,reduceLeDiff,reduceIte,az,d,e,kS,p4,qw,h,i,j];exact a_.2 ⟨by simp only[Bool.false_and,Bool.and_false],c⟩
   |true=>
    cases k:(a.b4==b.b4&&a.cy==b.cy)with
    |false=>
     simp-implicitDefEqProofs(disch:=try exact ak)only[lN,reduceAdd,reduceLeDiff,reduceIte,az,d,e,kS,p4,qw,h,i,j,k];exact a_.2 ⟨by simp only[Bool.false_and,Bool.and_false],c⟩
    |true=>
     cases m:(a.jc==b.jc&&(a.sX==b.sX&&a.na==b.na))with
     |false=>
      simp-implicitDefEqProofs(disch:=try exact ak)only[lN,reduceAdd,reduceLeDiff,reduceIte,az,d,e,kS,p4,qw,h,i,j,k,m];exact a_.2 ⟨by simp only[Bool.false_and,Bool.and_false],c⟩
     |true=>
      cases o:a.ref==b.ref with
      |false=>
       simp-implicitDefEqProofs(disch:=try exact ak)only[lN,reduceAdd,reduceLeDiff,reduceIte,az,d,e,kS,p4,qw,h,i,j,k,m,o];exact a_.2 ⟨by simp only[Bool.false_and,Bool.and_false],c⟩
      |true=>
       simp-implicitDefEqProofs(disch:=try exact ak)only[lN,reduceAdd,reduceLeDiff,reduceIte,az,d,e,kS,p4,qw,h,i,j,k,m,o];refine hl (v _ c) ?_;rintro _ w ⟨rfl,p⟩;refine⟨p.1,?_⟩;simp-implicitDefEqProofs(disch:=try exact ak)only[lN,bg,bG];exact a_.2 ⟨by simp only[Bool.true_and],c.trans p⟩
section
set_option maxRecDepth 100000
noncomputable section
def pn(G:aD)(N:Nat)(ag a:aa)(H:af):O:=j (au P .lss 3 X ag (I J 0)) λc=>a7 (D c) (j (au P .add 9 X (Z [45]) a) λd=>D (d,H)) (D (a,H))
def S0(G:aD)(N:Nat):∀ad H,bC P G N (o (o (o (o (bI Tryd.f48))))) (bs Tryd.f48) [] (bs Tryd.f48) ad H=pn G N (ad 0) (ad 3) H:=by
 refine bZ (aL _) λad H=> ?_
 delta pn;kernel_rfl
def qR(G:aD)(N:Nat)(a:aa->aa->aa->af->O)(ag d e:aa)(H:af):O:=j (au P .quo 3 X e (I J 10)) λc=>a ag d c H
def S1(G:aD)(N:Nat)(a:aa->aa->aa->af->O):∀ad H,bC P G N (o (o (bd (bd (o (bd (o (o (o (bI Tryd.f48)))))))))) (λad H=>a (ad 0) (ad 3) (ad 4) H) [(0,(λad H=>pn G N (ad 0) (ad 3) H))] (bs Tryd.f48) ad H=qR G N a (ad 0) (ad 3) (ad 4) H:=by
 refine bZ (aL _) λad H=> ?_
 delta qR;kernel_rfl
def sJ(G:aD)(N:Nat)(c:aa->aa->aa->af->O)(ag l:aa)(m n:aa)(H:af):O:=j (au P .add 3 X (I J 48) n) λd=>s7 P 3 5 d H λe=>ca H (cl P (H).next 77 1 [(0,e)]) λh a=>s7 P 77 9 h a λi=>j (au P .add 9 U i l) λk=>qR G N c ag k m a
def S2(G:aD)(N:Nat)(a:aa->aa->aa->af->O):∀ad H,bC P G N (o (o (bd (bd (o (bd (bd (o (bd (o (o (o (bI Tryd.f48))))))))))))) (λad H=>qR G N a (ad 0) (ad 3) (ad 4) H) [(1,(λad H=>qR G N a (ad 0) (ad 3) (ad 4) H)),(0,(λad H=>pn G N (ad 0) (ad 3) H))] (bs Tryd.f48) ad H=sJ G N a (ad 0) (ad 3) (ad 4) (ad 5) H:=by
 refine bZ (aL _) λad H=> ?_
 delta sJ;generalize qR G N a=c;revert c;refine id ?_;intro c;kernel_rfl
def uH(G:aD)(N:Nat)(e:aa->aa->aa->af->O)(ag d a:aa)(H:af):O:=j (au P .neq 3 X a (I J 0)) λh=>a7 (D h) (j (au P .rem 3 X a (I J 10)) λc=>j (au P .lss 3 X c (I J 0)) λbR=>a7 (D bR) (j (au P .sub 3 X (I J 0) c) λi=>sJ G N e ag d a i H) (sJ G N e ag d a c H)) (pn G N ag d H)
def po(G:aD)(N:Nat):Nat->aa->aa->aa->af->O
 |0,_,_,_,_=>C
 |n+1,ag,a,c,H=>uH G N (po G N n) ag a c H
def SZ(G:aD)(N:Nat)(a:aa->aa->aa->af->O):∀ad H,bC P G N (bd (bd (o (bd (o (o (o (bI Tryd.f48)))))))) (λad H=>a (ad 0) (ad 3) (ad 4) H) [(0,(λad H=>pn G N (ad 0) (ad 3) H))] (bs Tryd.f48) ad H=uH G N a (ad 0) (ad 3) (ad 4) H:=by
 refine bZ ((aX ah ((aX ah (S1 G N a) ((dx ah ((aX ah ((aX ah (S2 G N a) (aL _))) (aL _))))))) (aL _))) λad H=> ?_
 delta uH;generalize pn G N=c;generalize sJ G N a=d;revert c d;refine id ?_;intro c d;kernel_rfl
def w5(G:aD)(N:Nat)(ag:aa)(H:af):O:=j (au P .eql 3 X ag (I J 0)) λa=>a7 (D a) (D ((Z [48]),H)) (po G N N ag (Z []) ag H)
def Ru(N:Nat){ag:aa}{H:af}{r:aa×af}(h:w5 (aI P aB) N ag H=D r):aI P aB 48 [ag] H=D r:=cZ N (S:=λG=>w5 G N ag H) Tryd.func48 (λG=>eo ((aX ah ((aX ah ((aX ah ((aX ah (S0 G N) ((aX ah ((dx ah ((eP (k:=λm ad H=>po G N m (ad 0) (ad 3) (ad 4) H) ah (λad H=>ah) (λm=>SZ G N (po G N m)))))) (aL _))))) (aL _))) (aL _))) (aL _))) (by delta w5;generalize po G N N=a;revert a;refine id ?_;intro a;kernel_rfl)) h
def kJ(G:aD)(H:af):O:=some ((I J 7),H)
def S4(G:aD)(N:Nat):∀ad H,bC P G N (o (o (bI Tryd.f50))) (bs Tryd.f50) [] (bs Tryd.f50) ad H=kJ G H:=by
 refine bZ (aL _) λad H=> ?_
 delta kJ;kernel_rfl
def sL(G:aD)(a:aa)(H:af):O:=a7 (D a) (D ((I J 6),H)) (kJ G H)
def S8(G:aD)(N:Nat):∀ad H,bC P G N (o (o (o (o (o (o (o (o (o (o (o (bd (o (bd (o (bI Tryd.f50)))))))))))))))) (λad H=>kJ G H) [(0,(λad H=>kJ G H))] (bs Tryd.f50) ad H=sL G (ad 21) H:=by
 refine bZ (aL _) λad H=> ?_
 delta sL;generalize kJ G=a;revert a;refine id ?_;intro a;kernel_rfl
def qS(G:aD)(c d:aa)(H:af):O:=a7 (D d) (D ((I J 5),H)) (j (au P .eql 3 X c (I J 12)) λa=>a7 (D a) (sL G a H) (j (au P .eql 3 X c (I J 13)) λe=>sL G e H))
def S7(G:aD)(N:Nat):∀ad H,bC P G N (o (o (o (o (o (o (o (o (o (bd (o (bd (o (bI Tryd.f50)))))))))))))) (λad H=>kJ G H) [(0,(λad H=>kJ G H))] (bs Tryd.f50) ad H=qS G (ad 4) (ad 17) H:=by
 refine bZ ((d_ ah (aL _) ((aX ah (S8 G N) (aL _))))) λad H=> ?_
 delta qS;generalize sL G=a;revert a;refine id ?_;intro a;kernel_rfl
def sK(G:aD)(a e:aa)(H:af):O:=a7 (D e) (D ((I J 4),H)) (j (au P .eql 3 X a (I J 16)) λc=>a7 (D c) (qS G a c H) (j (au P .eql 3 X a (I J 17)) λd=>a7 (D d) (qS G a d H) (j (au P .eql 3 X a (I J 18)) λh=>qS G a h H)))
def S6(G:aD)(N:Nat):∀ad H,bC P G N (o (o (o (o (o (o (o (bd (o (bd (o (bI Tryd.f50)))))))))))) (λad H=>kJ G H) [(0,(λad H=>kJ G H))] (bs Tryd.f50) ad H=sK G (ad 4) (ad 14) H:=by
 refine bZ ((d_ ah (aL _) ((aX ah (S7 G N) (aL _))))) λad H=> ?_
 delta sK;generalize qS G=a;revert a;refine id ?_;intro a;kernel_rfl
def pr(G:aD)(a d:aa)(H:af):O:=a7 (D d) (D ((I J 3),H)) (j (au P .eql 3 X a (I J 14)) λc=>a7 (D c) (sK G a c H) (j (au P .eql 3 X a (I J 15)) λbR=>sK G a bR H))
def S5(G:aD)(N:Nat):∀ad H,bC P G N (o (o (o (o (o (bd (o (bd (o (bI Tryd.f50)))))))))) (λad H=>kJ G H) [(0,(λad H=>kJ G H))] (bs Tryd.f50) ad H=pr G (ad 4) (ad 9) H:=by
 refine bZ ((d_ ah (aL _) ((aX ah (S6 G N) (aL _))))) λad H=> ?_
 delta pr;generalize sK G=a;revert a;refine id ?_;intro a;kernel_rfl
def w7(G:aD)(ag:aa)(H:af):O:=ca H (dR (H).next ag) λav c=>j (aJ P 45 av 0) λk=>j (ao P c 3 k) λa=>j (au P .eql 3 X a (I J 24)) λbD=>a7 (D bD) (D ((I J 1),c)) (j (au P .eql 3 X a (I J 23)) λl=>a7 (D l) (D ((I J 2),c)) (j (au P .eql 3 X a (I J 19)) λd=>a7 (D d) (pr G a d c) (j (au P .eql 3 X a (I J 20)) λe=>a7 (D e) (pr G a e c) (j (au P .eql 3 X a (I J 21)) λh=>a7 (D h) (pr G a h c) (j (au P .eql 3 X a (I J 22)) λi=>pr G a i c)))))
def Rw(N:Nat){ag:aa}{H:af}{r:aa×af}(h:w7 (aI P aB) ag H=D r):aI P aB 50 [ag] H=D r:=cZ N (S:=λG=>w7 G ag H) Tryd.func50 (λG=>eo ((aX ah ((aX ah (S4 G N) ((aX ah ((dx ah ((aX ah ((d_ ah (aL _) ((aX ah ((d_ ah (aL _) ((aX ah (S5 G N) (aL _))))) (aL _))))) (aL _))))) (aL _))))) (aL _))) (by delta w7;generalize pr G=a;revert a;refine id ?_;intro a;kernel_rfl)) h
def w8(G:aD)(ag:aa)(H:af):O:=ca H (D (.aG (H).next 0 11 1 (D 11),.row U 1 [[Z [43]],[Z [45]],[Z [42]],[Z [47]],[Z [37]],[Z [60]],[Z [60,61]],[Z [61,61]],[Z [33,61]],[Z [38,38]],[Z [124,124]]])) λc a=>j (au P .sub 3 X ag (I J 14)) λd=>j (cF P 50 c d) λe=>j (ao P a 9 e) λh=>D (h,a)
def Rx(N:Nat){ag:aa}{H:af}{r:aa×af}(h:w8 (aI P aB) ag H=D r):aI P aB 51 [ag] H=D r:=cZ N (S:=λG=>w8 G ag H) Tryd.func51 (λ_=>by delta w8;kernel_rfl) h
def sC(G:aD)(N:Nat)(a:aa)(H:af):O:=some (a,H)
def SF(G:aD)(N:Nat):∀ad H,bC P G N (o (o (o (bI Tryd.f34)))) (bs Tryd.f34) [] (bs Tryd.f34) ad H=sC G N (ad 3) H:=by
 refine bZ (aL _) λad H=> ?_
 delta sC;kernel_rfl
def uE(G:aD)(N:Nat)(d:aa->aa->aa->af->O)(av a c:aa)(H:af):O:=j (aJ P 40 av 1) λl=>j (ao P H 3 l) λm=>j (au P .lss 3 U c m) λe=>a7 (D e) (j (au P .add 9 X (Z [91]) a) λi=>j (au P .add 9 X i (Z [93])) λk=>j (au P .add 3 X c (I J 1)) λh=>d av k h H) (sC G N a H)
def ph(G:aD)(N:Nat):Nat->aa->aa->aa->af->O
 |0,_,_,_,_=>C
 |n+1,av,a,c,H=>uE G N (ph G N n) av a c H
def SE(G:aD)(N:Nat)(c:aa->aa->aa->af->O):∀ad H,bC P G N (bd (bd (o (bd (o (o (bI Tryd.f34))))))) (λad H=>c (ad 1) (ad 3) (ad 4) H) [(0,(λad H=>sC G N (ad 3) H))] (bs Tryd.f34) ad H=uE G N c (ad 1) (ad 3) (ad 4) H:=by
 refine bZ (aL _) λad H=> ?_
 delta uE;generalize sC G N=a;revert a;refine id ?_;intro a;kernel_rfl
def w1(G:aD)(N:Nat)(ag:aa)(H:af):O:=ca H (dR (H).next ag) λav a=>j (aJ P 40 av 0) λc=>j (ao P a 9 c) λbD=>ph G N N av bD (I J 0) a
def Rl(N:Nat){ag:aa}{H:af}{r:aa×af}(h:w1 (aI P aB) N ag H=D r):aI P aB 34 [ag] H=D r:=cZ N (S:=λG=>w1 G N ag H) Tryd.func34 (λG=>eo ((aX ah ((aX ah ((aX ah (SF G N) ((aX ah ((dx ah ((eP (k:=λm ad H=>ph G N m (ad 1) (ad 3) (ad 4) H) ah (λad H=>ah) (λm=>SE G N (ph G N m)))))) (aL _))))) (aL _))) (aL _))) (by delta w1;generalize ph G N N=a;revert a;refine id ?_;intro a;kernel_rfl)) h
end
end
def M0(n:Int):oz P 3 5 (I J n)=D (I .u8 (IntKind.u8.wrap n)):=ah
def M1(l i n e:Nat)(c:Option Nat):oz P 77 9 (.aG l i n e c)=none:=ah
def Us(l:Nat)(k:Int):cl P l 77 1 [(0,I .u8 k)]=D (.aG l 0 1 1 (D 1),.row U 1 [[I .u8 k]]):=ah
def U7:P.underlying 77=D (.slice 5):=ah
def U6:P.underlying 5=D (.int .u8):=ah
def U8:P.underlying 9=D .string:=ah
def MJ{H:af}{L:Nat}{k:Int}{cap:Option Nat}{ro:Bool}(a:H.get L=D (.row ro 1 [[I .u8 k]])):pQ P H 77 9 (.aG L 0 1 1 cap)=D (Z [UInt8.ofNat k.toNat]):=by
 simp[pQ,U7,U6,U8,fr,a,bytesOf,Go.bn.byteOf]
def Qs(m:Nat):au P .quo 3 X (I J (m:Int)) (I J 10)=D (I J (IntKind.i64.wrap ((m:Int).tdiv 10))):=by simp[au,ji]
def QK(m:Nat):au P .rem 3 X (I J (m:Int)) (I J 10)=D (I J ((m:Int).tmod 10)):=by simp[au,ji]
def J1{N:Nat}{n:Int}(l:0<=n){H0:af}:∀(f m k:Nat) (acc:aC) (H:af),m≠0->m<10^f->m<=9223372036854775807->acc.length+f<=100->f<k->aU H0 H->
  W (po (aI P aB) N k (I J n) (Z acc) (I J m) H) λv H'=>v= Z (ho f m acc)/\aU H0 H'
 |0,m,_,_,_,i,c,_,_,_,_=>by simp at c;omega
 |_,_,0,_,_,_,_,_,_,h,_=>ae
 |f+1,m,k+1,acc,H,i,c,w,x,y,pp=>by
  have e:((m:Int) != 0)=true:=by simp;omega
  have q:(m:Int).tmod 10=((m%10:Nat):Int):=rfl;have bb:(m:Int).tdiv 10=((m/10:Nat):Int):=rfl;have w0:IntKind.i64.wrap ((m/10:Nat):Int)=((m/10:Nat):Int):=wrap_i64 ae ae;have s:IntKind.i64.wrap ((48:Int)+((m%10:Nat):Int))=((48+m%10:Nat):Int):=by rw[wrap_i64 ae ae];omega
  have u:IntKind.u8.wrap ((48+m%10:Nat):Int)=((48+m%10:Nat):Int):=by show((48+m%10:Nat):Int)%256=_;omega
  have d0:¬(((m%10:Nat):Int)<0):=ae;have j:=af.bY H (.row U 1 [[I .u8 ((48+m%10:Nat):Int)]]);have d:=MJ (cap:=some 1) j;rw[Int.toNat_natCast]at d;have bu:au P .add 9 U (Z [UInt8.ofNat (48+m%10)]) (Z acc)=D (Z (UInt8.ofNat (48+m%10)::acc)):=lx _ _ _ _ (by simp only[List.length_cons,List.length_nil];omega);simp-implicitDefEqProofs(disch:=try exact ak)only[po,uH,sJ,qR,bg,bG,c3,e,QK,Qs,q,bb,w0,s,u,d0,decide_false,s7,M0,Us,M1,d,bu];rw[ho];by_cases a:m/10=0
  ·rw[if_pos a,a];have p:(((0:Nat):Int) != 0)=false:=rfl;have o:¬n<0:=ae;cases k with
   |zero=>omega
   |succ k=>
    simp-implicitDefEqProofs(disch:=try exact ak)only[po,uH,pn,bg,bG,c3,p,o,decide_false];exact a_.2 ⟨rfl,pp.bT _⟩
  ·rw[if_neg a];exact J1 l f (m/10) k _ _ a (by rw[Nat.pow_succ]at c;omega) ae (by simp only[List.length_cons];omega) ae (pp.bT _)
def UR{H:af}{n:Int}(c:0<=n)(e:n<=9223372036854775807):W (aI P aB 48 [I J n] H) λv H'=>v= Z (ho 20 n.toNat [])/\aU H H':=by
 refine cO (λ_=>Ru 30) ?_;rw[w5];by_cases a:n=0
 ·subst a;simp-implicitDefEqProofs(disch:=try exact ak)only[reduceAdd,reduceLeDiff,reduceIte,az,beq_self_eq_true];exact a_.2 ⟨rfl,.refl _⟩
 ·have d:(n==0)=false:=by simpa using a
  simp-implicitDefEqProofs(disch:=try exact ak)only[reduceAdd,reduceLeDiff,reduceIte,az,d];have:=J1 (N:=30) c (H0:=H) 20 n.toNat 30 [] H ae (by have:=uq;omega) ae (by simp) ae (.refl _);rw[show((n.toNat:Nat):Int)=n by omega]at this;exact this
def Fo(x:aC)(n:Nat)(l:List bK):flat (rep n (bw x)++l)=(List.replicate n x).flatten++flat l:=by
 induction n with
 |zero=>rfl
 |succ n a=>unfold rep at a ⊢;rw[List.replicate_succ,List.cons_append,flat,a,List.replicate_succ,List.flatten_cons,List.append_assoc];rfl
def iJ(x:aC)(n:Nat):aC:=(List.replicate n [91]).flatten++(x++(List.replicate n [93]).flatten)
def NP(x:aC)(l:List bK):flat (re x::l)=x++flat l:=by
 unfold re;cases gk x<;>rfl
def ds:flat []=[]:=rfl
def yF(x:aC)(z:Int):flat (cn x z)=iJ x z.toNat:=by
 unfold cn iJ;rw[Fo,NP];have:=Fo [93] z.toNat [];rw[List.append_nil,ds,List.append_nil]at this;rw[this]
def U4(x:aC)(n:Nat):iJ x (n+1)=[91]++iJ x n++[93]:=by
 have e:∀n,(List.replicate (n+1) ([93]:aC)).flatten=(List.replicate n ([93]:aC)).flatten++[93]:=by
  intro n;rw[List.replicate_succ'];simp
 unfold iJ;rw[e,List.replicate_succ,List.flatten_cons];simp only[List.append_assoc]
def U3(x:aC)(n:Nat):(iJ x n).length=2*n+x.length:=by
 unfold iJ;simp;omega
def KA{N:Nat}{H:af}{l:Nat}{x:aC}{z:Int}(d:H.get l=D (.row U 2 [[Z x,I J z]]))(i:x.length<=100)(m:z<=100):∀(c j k:Nat),((j+c:Nat):Int)=z->c<k->
  W (ph (aI P aB) N k (.ptr l 0 0) (Z (iJ x j)) (I J j) H) λv H'=>v= Z (iJ x z.toNat)/\H'=H
 |_,_,0,_,h=>ae
 |0,j,k+1,e,_=>by
  have a:¬((j:Int)<z):=ae;simp-implicitDefEqProofs(disch:=try exact ak)only[ph,uE,sC,reduceAdd,reduceLeDiff,reduceIte,az,d,a,decide_false];exact a_.2 ⟨by rw[show z.toNat=j by omega],rfl⟩
 |c+1,j,k+1,e,o=>by
  have a:(j:Int)<z:=ae;have p:=U3 x j;have aq:au P .add 9 X (Z [91]) (Z (iJ x j))=D (Z (91::iJ x j)):=lx _ _ _ _ (by simp only[List.length_cons,List.length_nil];omega);have aH:au P .add 9 X (Z (91::iJ x j)) (Z [93])=D (Z (iJ x (j+1))):=by
   rw[U4];exact lx _ _ (91::iJ x j) [93] (by simp only[List.length_append,List.length_cons,List.length_nil];omega)
  have n:IntKind.i64.wrap ((j:Int)+1)=((j+1:Nat):Int):=by rw[wrap_i64 ae ae];omega
  simp-implicitDefEqProofs(disch:=try exact ak)only[ph,uE,bg,bG,c3,eF,ao,c2,Nat.reduceAdd,Nat.reduceLeDiff,reduceIte,aa.cells,c8,eu,d,a,decide_true,aq,aH,n];exact KA d i m c (j+1) k ae ae
def Kz{H:af}{x:aC}{z:Int}(i:0<=z)(a:z<=100)(d:x.length<=100):W (aI P aB 34 [.agg [Z x,I J z]] H) λv H'=>v= Z (flat (cn x z))/\aU H H':=by
 refine cO (λ_=>Rl 200) ?_;have c:∀l,dR l (.agg [Z x,I J z])=D (.ptr l 0 0,.row U 2 [[Z x,I J z]]):=λl=>hn l _ rfl
 rw[w1,yF];simp-implicitDefEqProofs(disch:=try exact ak)only[reduceAdd,reduceLeDiff,reduceIte,az,c];have h:=KA (N:=200) (af.bY H (.row U 2 [[Z x,I J z]])) d a z.toNat 0 200 ae ae;have e:iJ x 0=x:=by simp[iJ]
 rw[e]at h;refine h.mono ?_;rintro v _ ⟨rfl,rfl⟩;exact⟨rfl,aU.push _ _⟩
def GK{H:af}{a:bU}{kv:aa}(q:kv.one=X):W (aI P aB 50 [.agg (a.cells kv)] H) λv H'=>v= I J (cG a.kind)/\aU H H':=by
 refine cO (λ_=>Rw 0) ?_;have e:∀l,dR l (.agg (a.cells kv))=D (.ptr l 0 0,.row U 11 [a.cells kv]):=λl=>hn l _ (by simp only[bU.cells,List.all_cons,List.all_nil,hs,hS,q,Bool.and_self])
 have pp:=aU.push H (.row U 11 [a.cells kv]);simp only[bU.cells]at e pp ⊢;generalize a.kind=k at e pp ⊢;unfold w7 pr sK qS sL kJ;simp-implicitDefEqProofs(disch:=try exact ak)only[reduceAdd,reduceLeDiff,reduceIte,az,e];unfold cG;have n:∀m:Int,k=m->(k==m)=true:=λm h=>by simpa using h
 have cP:∀m:Int,k≠m->(k==m)=false:=λm h=>by simpa using h
 by_cases c:k=24
 ·simp-implicitDefEqProofs(disch:=try exact ak)only[bg,bG,c3,n _ c];refine⟨_,_,rfl,?_,pp⟩;rw[if_pos c];rfl
 by_cases d:k=23
 ·simp-implicitDefEqProofs(disch:=try exact ak)only[bg,bG,c3,cP _ c,n _ d];refine⟨_,_,rfl,?_,pp⟩;rw[if_neg c,if_pos d];rfl
 by_cases p:19<=k/\k<=22
 ·have:k=19\/k=20\/k=21\/k=22:=ae;rcases this with rfl|rfl|rfl|rfl<;>exact⟨_,_,rfl,rfl,pp⟩
 by_cases j:k=14\/k=15
 ·rcases j with rfl|rfl<;>exact⟨_,_,rfl,rfl,pp⟩
 by_cases o:16<=k/\k<=18
 ·have:k=16\/k=17\/k=18:=ae;rcases this with rfl|rfl|rfl<;>exact⟨_,_,rfl,rfl,pp⟩
 by_cases i:k=12\/k=13
 ·rcases i with rfl|rfl<;>exact⟨_,_,rfl,rfl,pp⟩
 ·simp-implicitDefEqProofs(disch:=try exact ak)only[bg,bG,c3,cP 24 ae,cP 23 ae,cP 19 ae,cP 20 ae,cP 21 ae,cP 22 ae,cP 14 ae,cP 15 ae,cP 16 ae,cP 17 ae,cP 18 ae,cP 12 ae,cP 13 ae];refine⟨_,_,rfl,?_,pp⟩;rw[if_neg c,if_neg d,if_neg p,if_neg j,if_neg o,if_neg i];rfl
def Uf{H:af}{k:Int}(h:14<=k)(a8:k<=24):W (aI P aB 51 [I J k] H) λv H'=>v= Z (fc k)/\aU H H':=by
 refine cO (λ_=>Rx 0) ?_;have c:k=14\/k=15\/k=16\/k=17\/k=18\/k=19\/k=20\/k=21\/k=22\/k=23\/k=24:=ae;rcases c with rfl|rfl|rfl|rfl|rfl|rfl|rfl|rfl|rfl|rfl|rfl<;>
 ·unfold w8;have w:∀a b:Int,0<=a-b->a-b<=100->IntKind.i64.wrap (a-b)=a-b:=λa b x y=>wrap_i64 x ae
  simp-implicitDefEqProofs(disch:=try exact ak)only[reduceAdd,reduceLeDiff,reduceIte,az,w];exact a_.2 ⟨rfl,aU.push _ _⟩
section
set_option maxRecDepth 100000
noncomputable section
def w6(G:aD)(ag av:aa)(H:af):O:=ca H (dR (H).next ag) λe c=>j (ao P c 45 e) λn=>aO c (G 50 [n] c) λbD a=>j (au P .lss 3 U bD av) λo=>a7 (D o) (j (ao P a 45 e) λp=>aO a (G 17 [p] a) λh d=>j (au P .add 9 X (Z [40]) h) λi=>j (au P .add 9 X i (Z [41])) λk=>D (k,d)) (j (ao P a 45 e) λl=>aO a (G 17 [l] a) λm d=>D (m,d))
def Rv(N:Nat){ag av:aa}{H:af}{r:aa×af}(h:w6 (aI P aB) ag av H=D r):aI P aB 49 [ag,av] H=D r:=cZ N (S:=λG=>w6 G ag av H) Tryd.func49 (λ_=>by delta w6;kernel_rfl) h
def mF(G:aD)(N:Nat)(av:aa)(H:af):O:=j (ao P H 45 av) λp=>aO H (G 50 [p] H) λn a=>j (aJ P 45 av 4) λq=>j (ao P a 41 q) λs=>j (cF P 41 s (I J 0)) λu=>j (ao P a 45 u) λv=>aO a (G 49 [v,n] a) λw c=>j (aJ P 45 av 0) λl=>j (ao P c 3 l) λm=>aO c (G 51 [m] c) λy d=>j (aJ P 45 av 4) λe=>j (ao P d 41 e) λh=>j (cF P 41 h (I J 1)) λi=>j (ao P d 45 i) λk=>j (au P .add 3 X n (I J 1)) λB=>aO d (G 49 [k,B] d) λE o=>j (au P .add 9 X w (Z [32])) λx=>j (au P .add 9 U x y) λz=>j (au P .add 9 X z (Z [32])) λA=>j (au P .add 9 U A E) λF=>bif ((bp (ao P a 3 l) m&&(bp (ao P c 3 l) m&&X))&&((bp (ao P a 41 e) h&&(bp (ao P c 41 e) h&&(bp (ao P d 41 e) h&&X)))&&((bp (ao P a 45 i) k&&(bp (ao P c 45 i) k&&(bp (ao P d 45 i) k&&X)))&&X)))then(D (F,o))else C
def So(G:aD)(N:Nat):∀ad H,bC P G N (o (o (bI Tryd.f17))) (bs Tryd.f17) [] (bs Tryd.f17) ad H=mF G N (ad 1) H:=by
 refine bZ (aL _) λad H=> ?_
 delta mF;kernel_rfl
def nM(G:aD)(N:Nat)(a:aa)(H:af):O:=j (au P .add 9 X a (Z [41])) λc=>D (c,H)
def Sp(G:aD)(N:Nat):∀ad H,bC P G N (o (o (bd (o (o (o (o (o (o (o (o (o (o (o (o (o (bd (o (bd (o (bI Tryd.f17))))))))))))))))))))) (λad H=>mF G N (ad 1) H) [(0,(λad H=>mF G N (ad 1) H))] (bs Tryd.f17) ad H=nM G N (ad 3) H:=by
 refine bZ (aL _) λad H=> ?_
 delta nM;kernel_rfl
def qB(G:aD)(N:Nat)(a:aa->aa->aa->af->O)(av c d:aa)(H:af):O:=j (au P .add 3 X d (I J 1)) λe=>a av c e H
def Sq(G:aD)(N:Nat)(a:aa->aa->aa->af->O):∀ad H,bC P G N (o (o (bd (bd (o (bd (o (bd (o (o (o (o (o (o (o (o (o (o (o (o (o (bd (o (bd (o (bI Tryd.f17)))))))))))))))))))))))))) (λad H=>a (ad 1) (ad 3) (ad 4) H) [(1,(λad H=>nM G N (ad 3) H)),(0,(λad H=>mF G N (ad 1) H))] (bs Tryd.f17) ad H=qB G N a (ad 1) (ad 3) (ad 4) H:=by
 refine bZ (aL _) λad H=> ?_
 delta qB;kernel_rfl
def qC(G:aD)(N:Nat)(c:aa->aa->aa->af->O)(av e a:aa)(H:af):O:=j (aJ P 45 av 4) λh=>j (ao P H 41 h) λi=>j (cF P 41 i a) λk=>j (ao P H 45 k) λl=>aO H (G 17 [l] H) λm d=>j (au P .add 9 U e m) λn=>qB G N c av n a d
def Sr(G:aD)(N:Nat)(a:aa->aa->aa->af->O):∀ad H,bC P G N (o (bd (bd (o (bd (bd (o (bd (o (bd (o (o (o (o (o (o (o (o (o (o (o (o (o (bd (o (bd (o (bI Tryd.f17)))))))))))))))))))))))))))) (λad H=>qB G N a (ad 1) (ad 3) (ad 4) H) [(2,(λad H=>qB G N a (ad 1) (ad 3) (ad 4) H)),(1,(λad H=>nM G N (ad 3) H)),(0,(λad H=>mF G N (ad 1) H))] (bs Tryd.f17) ad H=qC G N a (ad 1) (ad 3) (ad 4) H:=by
 refine bZ (aL _) λad H=> ?_
 delta qC;generalize qB G N a=c;revert c;refine id ?_;intro c;kernel_rfl
def qA(G:aD)(N:Nat)(d:aa->aa->aa->af->O)(av c a:aa)(H:af):O:=j (aJ P 45 av 4) λe=>j (ao P H 41 e) λh=>bg P .len [41] [h] H λi=>j (au P .lss 3 U a i) λk=>a7 (D k) (j (au P .gtr 3 X a (I J 0)) λl=>a7 (D l) (j (au P .add 9 X c (Z [44,32])) λm=>qC G N d av m a H) (qC G N d av c a H)) (nM G N c H)
def lM(G:aD)(N:Nat):Nat->aa->aa->aa->af->O
 |0,_,_,_,_=>C
 |n+1,av,a,c,H=>qA G N (lM G N n) av a c H
def Sn(G:aD)(N:Nat)(a:aa->aa->aa->af->O):∀ad H,bC P G N (bd (bd (o (bd (o (bd (o (o (o (o (o (o (o (o (o (o (o (o (o (bd (o (bd (o (bI Tryd.f17)))))))))))))))))))))))) (λad H=>a (ad 1) (ad 3) (ad 4) H) [(1,(λad H=>nM G N (ad 3) H)),(0,(λad H=>mF G N (ad 1) H))] (bs Tryd.f17) ad H=qA G N a (ad 1) (ad 3) (ad 4) H:=by
 refine bZ ((aX ah ((aX ah (Sq G N a) ((dx ah ((aX ah (Sr G N a) (aL _))))))) (aL _))) λad H=> ?_
 delta qA;generalize nM G N=c;generalize qC G N a=d;revert c d;refine id ?_;intro c d;kernel_rfl
def wP(G:aD)(N:Nat)(ag:aa)(H:af):O:=ca H (dR (H).next ag) λav a=>j (aJ P 45 av 0) λbD=>j (ao P a 3 bD) λd=>j (au P .eql 3 X d (I J 1)) λba=>a7 (D ba) (j (aJ P 45 av 1) λu=>j (ao P a 3 u) λF=>aO a (G 48 [F] a) λW c=>D (W,c)) (j (au P .eql 3 X d (I J 2)) λal=>a7 (D al) (j (aJ P 45 av 1) λam=>j (ao P a 3 am) λbR=>j (au P .eql 3 X bR (I J 1)) λan=>a7 (D an) (D ((Z [116,114,117,101]),a)) (D ((Z [102,97,108,115,101]),a))) (j (au P .eql 3 X d (I J 3)) λap=>a7 (D ap) (j (aJ P 45 av 3) λaq=>j (ao P a 40 aq) λar=>aO a (G 34 [ar] a) λaw c=>j (au P .add 9 X (Z [110,117,108,108,32]) aw) λax=>D (ax,c)) (j (au P .eql 3 X d (I J 4)) λay=>a7 (D ay) (j (aJ P 45 av 2) λaz=>j (ao P a 9 az) λaB=>D (aB,a)) (j (au P .eql 3 X d (I J 5)) λaC=>a7 (D aC) (j (aJ P 45 av 4) λaE=>j (ao P a 41 aE) λaF=>j (cF P 41 aF (I J 0)) λaH=>j (ao P a 45 aH) λaI=>aO a (G 49 [aI,I J 7] a) λaK c=>j (au P .add 9 X aK (Z [46])) λaL=>j (aJ P 45 av 2) λh=>j (ao P c 9 h) λi=>j (au P .add 9 U aL i) λaM=>bif ((bp (ao P a 9 h) i&&bp (ao P c 9 h) i)&&X)then(D (aM,c))else C) (j (au P .eql 3 X d (I J 6)) λaN=>a7 (D aN) (j (aJ P 45 av 4) λaP=>j (ao P a 41 aP) λaQ=>j (cF P 41 aQ (I J 0)) λaR=>j (ao P a 45 aR) λaS=>aO a (G 49 [aS,I J 7] a) λaT c=>j (aJ P 45 av 4) λk=>j (ao P c 41 k) λl=>j (cF P 41 l (I J 1)) λm=>j (ao P c 45 m) λn=>aO c (G 17 [n] c) λaV e=>j (au P .add 9 X aT (Z [91])) λaU=>j (au P .add 9 U aU aV) λaW=>j (au P .add 9 X aW (Z [93])) λaX=>bif ((bp (ao P a 41 k) l&&(bp (ao P c 41 k) l&&X))&&((bp (ao P a 45 m) n&&(bp (ao P c 45 m) n&&X))&&X))then(D (aX,e))else C) (j (au P .eql 3 X d (I J 7)) λaY=>a7 (D aY) (j (aJ P 45 av 2) λaZ=>j (ao P a 9 aZ) λa0=>j (au P .add 9 X a0 (Z [40])) λa1=>lM G N N av a1 (I J 0) a) (j (au P .eql 3 X d (I J 8)) λa2=>a7 (D a2) (j (aJ P 45 av 3) λa3=>j (aJ P 40 a3 0) λa4=>j (ao P a 9 a4) λa5=>j (au P .add 9 X (Z [110,101,119,32]) a5) λa6=>D (a6,a)) (j (au P .eql 3 X d (I J 9)) λa8=>a7 (D a8) (j (aJ P 45 av 3) λa9=>j (ao P a 40 a9) λa_=>aO a (G 34 [a_] a) λbb c=>j (aJ P 45 av 4) λo=>j (ao P c 41 o) λp=>j (cF P 41 p (I J 0)) λq=>j (ao P c 45 q) λs=>aO c (G 17 [s] c) λbe e=>j (au P .add 9 X (Z [110,101,119,32,91]) bb) λbc=>j (au P .add 9 X bc (Z [93,40])) λbd=>j (au P .add 9 U bd be) λbf=>j (au P .add 9 X bf (Z [41])) λbg=>bif ((bp (ao P a 41 o) p&&(bp (ao P c 41 o) p&&X))&&((bp (ao P a 45 q) s&&(bp (ao P c 45 q) s&&X))&&X))then(D (bg,e))else C) (j (au P .eql 3 X d (I J 10)) λv=>a7 (D v) (j (aJ P 45 av 4) λw=>j (ao P a 41 w) λx=>j (cF P 41 x (I J 0)) λy=>j (ao P a 45 y) λz=>aO a (G 17 [z] a) λA c=>j (au P .add 9 X (Z [108,101,110,40]) A) λB=>j (au P .add 9 X B (Z [41])) λE=>D (E,c)) (j (au P .eql 3 X d (I J 11)) λK=>a7 (D K) (D ((Z [114,101,97,100,40,41]),a)) (j (au P .eql 3 X d (I J 12)) λL=>a7 (D L) (j (aJ P 45 av 4) λM=>j (ao P a 41 M) λQ=>j (cF P 41 Q (I J 0)) λR=>j (ao P a 45 R) λS=>aO a (G 49 [S,I J 6] a) λT c=>j (au P .add 9 X (Z [45]) T) λV=>D (V,c)) (j (au P .eql 3 X d (I J 13)) λab=>a7 (D ab) (j (aJ P 45 av 4) λad=>j (ao P a 41 ad) λae=>j (cF P 41 ae (I J 0)) λah=>j (ao P a 45 ah) λai=>aO a (G 49 [ai,I J 6] a) λaj c=>j (au P .add 9 X (Z [33]) aj) λak=>D (ak,c)) (mF G N av a)))))))))))))
def Q8(N:Nat){ag:aa}{H:af}{r:aa×af}(h:wP (aI P aB) N ag H=D r):aI P aB 17 [ag] H=D r:=cZ N (S:=λG=>wP G N ag H) Tryd.func17 (λG=>eo ((aX ah ((aX ah (So G N) ((aX ah ((dx ah ((aX ah ((d_ ah (aL _) ((aX ah ((d_ ah (aL _) ((aX ah ((d_ ah (aL _) ((aX ah ((d_ ah (aL _) ((aX ah ((d_ ah (aL _) ((aX ah ((d_ ah (aL _) ((aX ah ((d_ ah ((aX ah ((aX ah (Sp G N) ((aX ah ((dx ah ((eP (k:=λm ad H=>lM G N m (ad 1) (ad 3) (ad 4) H) ah (λad H=>ah) (λm=>Sn G N (lM G N m)))))) (aL _))))) (aL _))) (aL _))) (aL _))))) (aL _))))) (aL _))))) (aL _))))) (aL _))))) (aL _))))) (aL _))))) (aL _))))) (aL _))) (by delta wP;generalize mF G N=a;generalize lM G N N=c;revert a c;refine id ?_;intro a c;kernel_rfl)) h
end
end
def cz.beq{H:af}{ok:Nat->Prop}{ks:List aE}{kv:aa}(h:cz H ok ks kv):aa.beq kv kv=true:=by
 rcases h with⟨rfl,_⟩|⟨l,i,cap,ro,els,rfl,_⟩|⟨l,i,cap,rfl,_⟩<;>simp[aa.beq]
def ux{a:bU}{kv:aa}(h:aa.beq kv kv=X):bp (D (.agg (a.cells kv))) (.agg (a.cells kv))=true:=by
 simp[bp,aa.beq,hg.beq,bU.cells,h]
def dz.get{H:af}{ok:Nat->Prop}:∀{ks:List aE} {css:List (List aa)} {j:Nat} {e:aE},dz H ok ks css->ks[j]? =D e->∃cs,css[j]? =D cs/\cT H ok e (.agg cs)
 |[],_,_,_,_,h=>by simp at h
 |_::_,[],_,_,h,_=>by rw[dz]at h;exact h.elim
 |k::ks,cs::css,0,e,h,a=>by rw[dz]at h;simp at a;subst a;exact⟨cs,rfl,h.1⟩
 |k::ks,cs::css,j+1,e,h,a=>by
  rw[dz]at h;obtain⟨c,bb,d⟩:=dz.get (ks:=ks) (css:=css) (j:=j) h.2 (by simpa using a);exact⟨c,by simpa using bb,d⟩
def cz.kW{H:af}{ok:Nat->Prop}{ks:List aE}{kv:aa}(h:cz H ok ks kv){n:Nat}(k:ks.length=n){j:Nat}{a:bU}{es:List aE}(e:ks[j]? =D (.mk a es)):∃l i cap ro els c,kv= .aG l i n 11 cap/\H.get l=D (.row ro 11 els)/\els[i+j]? =D (a.cells c)/\cz H ok es c:=by
 subst k;have d:ks.length≠0:=by intro h;have:=List.length_eq_zero_iff.1 h;subst this;simp at e
 rcases h with⟨_,aq⟩|⟨l,i,cap,ro,els,rfl,_,bu,cq⟩|⟨_,_,_,_,aq⟩
 ·exact absurd aq d
 ·obtain⟨cs,bb,m⟩:=cq.get e;obtain⟨c,o,p⟩:=iO.1 m;cases o;exact⟨l,i,cap,ro,els,c,rfl,bu,by rw[List.getElem?_drop]at bb;exact bb,p⟩
 ·exact absurd aq d
def di(x:aC)(l:List bK):flat (bw x::l)=x++flat l:=rfl
def iA(x:aC)(l:List bK):flat (wd x::l)=x++flat l:=rfl
def kz(x:aC)(l:List bK):flat (cC x::l)=x++flat l:=rfl
def e3(l:List bK):flat (b9::l)=[32]++flat l:=rfl
def dk{t:TypeId}{c:Bool}{a b:aC}(h:a.length+b.length<=9223372036854775807):au P .add t c (Z a) (Z b)=D (Z (a++b)):=lx t c a b h
def xU(e:aE):Prop:=∀(d m:Nat),cA d m e->c9 e<=1000000000->∀(a:bU) (ks:List aE),e= .mk a ks->∀(H:af) (ok:Nat->Prop) (kv:aa),cz H ok ks kv->W (aI P aB 17 [.agg (a.cells kv)] H) λr H'=>r= Z (flat (aY e))/\aU H H'
def Vo{H:af}{a:bU}{ks:List aE}{kv:aa}{m:Nat}(n:kv.one=X)(s:∀H',aU H H'->W (aI P aB 17 [.agg (a.cells kv)] H') λr p=>r= Z (flat (aY (.mk a ks)))/\aU H' p)(u:(flat (aY (.mk a ks))).length<=1000000000):
  W (aI P aB 49 [.agg (a.cells kv),I J m] H) λr H'=>r= Z (flat (b_ m (.mk a ks)))/\aU H H':=by
 refine cO (λ_=>Rv 0) ?_;have k:∀l,dR l (.agg (a.cells kv))=D (.ptr l 0 0,.row U 11 [a.cells kv]):=λl=>hn l _ (by simp only[bU.cells,List.all_cons,List.all_nil,hs,hS,n,Bool.and_self])
 have pp:=aU.push H (.row U 11 [a.cells kv]);have dI:=af.bY H (.row U 11 [a.cells kv]);have o:=λH'=>GK (H:=H') (a:=a) n
 have i:=λH' (h:aU H H')=>s H' h
 simp only[bU.cells]at k pp dI o i ⊢;unfold w6;simp-implicitDefEqProofs(disch:=try exact ak)only[bg,bG,Nat.reduceAdd,Nat.reduceLeDiff,reduceIte,aa.cells,c8,eu,ao,c2,eF,ed,k];refine aW (o _) ?_;rintro _ j ⟨rfl,c⟩;refine⟨c.1,?_⟩;have g2:=c.get dI;by_cases hm:((cG a.kind:Nat):Int)<(m:Int)
 ·have e:(aE.mk a ks).cc<m:=by unfold aE.cc aE.kind;simp only;omega
  simp-implicitDefEqProofs(disch:=try exact ak)only[bg,bG,c3,Nat.reduceAdd,Nat.reduceLeDiff,reduceIte,aa.cells,c8,eu,ao,c2,g2,hm,decide_true];refine aW (i j (pp.trans c)) ?_;rintro _ q ⟨rfl,d⟩;refine⟨d.1,?_⟩;have aq:au P .add 9 X (Z [40]) (Z (flat (aY (.mk a ks))))=D (Z (40::flat (aY (.mk a ks)))):=lx _ _ _ _ (by simp only[List.length_cons,List.length_nil];omega);have aH:au P .add 9 X (Z (40::flat (aY (.mk a ks)))) (Z [41])=D (Z (40::flat (aY (.mk a ks))++[41])):=lx _ _ _ _ (by simp only[List.length_cons,List.length_nil];omega);simp only[aq,aH,eC];exact a_.2 ⟨by rw[qq e,di,dw];rfl,(pp.trans c).trans d⟩
 ·have e:¬(aE.mk a ks).cc<m:=by unfold aE.cc aE.kind;simp only;omega
  simp-implicitDefEqProofs(disch:=try exact ak)only[bg,bG,c3,Nat.reduceAdd,Nat.reduceLeDiff,reduceIte,aa.cells,c8,eu,ao,c2,g2,hm,decide_false];refine aW (i j (pp.trans c)) ?_;rintro _ q ⟨rfl,d⟩;refine⟨d.1,?_⟩;exact a_.2 ⟨by rw[mr e],(pp.trans c).trans d⟩
def sR(j:Nat):List aE->aC
 |[]=>[]
 |_=>bif j==0 then[]else[44,32]
def B2{N:Nat}{H0:af}{r L i:Nat}{a:bU}{cap:Option Nat}{ro:Bool}{els:List (List aa)}{ks:List aE}(n:H0.get r=D (.row U 11 [a.cells (.aG L i ks.length 11 cap)]))(s:H0.get L=D (.row ro 11 els)){ok:Nat->Prop}(aF:∀e∈ks,xU e)(hw:∀e∈ks,cA 0 0 e\/∃d,cA d 0 e)(R:ks.length<=1000000000)(ar:cr ks<=1000000000):
  ∀(es:List aE) (j k:Nat) (acc:aC) (H:af),ks.drop j=es->dz H0 ok es (els.drop (i+j))->acc.length+cr es<=2000000000/\cr es<=1000000000->j+es.length=ks.length->es.length<k->aU H0 H->
  W (lM (aI P aB) N k (.ptr r 0 0) (Z acc) (I J j) H) λv H'=>v= Z (acc++(sR j es++flat (en (cD es))++[41]))/\aU H0 H'
 |_,_,0,_,_,_,_,_,_,x,_=>ae
 |[],j,k+1,acc,H,q,he,y,u,x,pp=>by
  have m:¬((j:Int)<(ks.length:Int)):=by simp at u;omega
  have g1:=pp.get n;simp only[bU.cells]at g1;have aq:au P .add 9 X (Z acc) (Z [41])=D (Z (acc++[41])):=lx _ _ _ _ (by simp only[List.length_cons,List.length_nil];omega);simp-implicitDefEqProofs(disch:=try exact ak)only[lM,qA,nM,reduceAdd,reduceLeDiff,reduceIte,az,g1,m,decide_false,aq];exact a_.2 ⟨by simp[sR,cD,en,flat],pp⟩
 | .mk b c::es,j,k+1,acc,H,q,he,y,u,x,pp=>by
  simp only[List.length_cons]at u x;have m:(j:Int)<(ks.length:Int):=ae;have A:aE.mk b c∈ks:=by
   have:aE.mk b c∈ks.drop j:=by rw[q];simp
   exact List.mem_of_mem_drop this
  obtain⟨d,B⟩:∃d,cA d 0 (.mk b c):=by
   rcases hw _ A with h|h
   ·exact⟨0,h⟩
   ·exact h
  rw[cr]at y;have ap:=r6 B;obtain⟨cs,bb,ad,ag⟩:=he.cons;obtain⟨V,ah,ai⟩:=iO.1 ad;cases ah;have g1:=pp.get n;have g2:=pp.get s;have T:((j:Int)).toNat=j:=ae;have am:(0:Int)<=(j:Int):=ae;have aj:IntKind.i64.wrap ((j:Int)+1)=((j+1:Nat):Int):=by rw[wrap_i64 ae ae];omega
  have hle:c9 (.mk b c)<=1000000000:=ae;have E:=λH' (p:aU H0 H')=>aF _ A d 0 B hle b c rfl H' ok V (ai.aR p)
  have O:ks.drop (j+1)=es:=by
   have:(ks.drop j).drop 1=es:=by rw[q];rfl
   rwa[List.drop_drop]at this
  have S:flat (en (cD (.mk b c::es)))=flat (aY (.mk b c))++(sR 1 es++flat (en (cD es))):=by
   cases es with
   |nil=>rw[qu];simp[en,cD,flat,sR]
   |cons f r=>
    rw[cD,cD,en,dw,di,e3]
    ·simp only[List.append_assoc];rfl
    ·intro a;cases a
  have fin:∀(l:aC) (H':af),l=acc++(bif j==0 then[]else[44,32])->aU H0 H'->W (qC (aI P aB) N (lM (aI P aB) N k) (.ptr r 0 0) (Z l) (I J j) H') λv K=>v= Z (acc++((bif j==0 then[]else[44,32])++flat (en (cD (.mk b c::es)))++[41]))/\aU H0 K:=by
   intro l H' z o;have an:l.length<=acc.length+2:=by
    rw[z];cases j==0<;>simp
   have g1:=o.get n;have g2:=o.get s;simp only[bU.cells]at g1 bb E;simp-implicitDefEqProofs(disch:=try exact ak)only[qC,reduceAdd,reduceLeDiff,reduceIte,az,g1,g2,T,bb];refine aW (E H' o) ?_;rintro _ M ⟨rfl,G⟩;refine⟨G.1,?_⟩;have aH:au P .add 9 U (Z l) (Z (flat (aY (.mk b c))))=D (Z (l++flat (aY (.mk b c)))):=lx _ _ _ _ ae;simp-implicitDefEqProofs(disch:=try exact ak)only[qB,bg,bG,c3,aH,aj];refine(B2 n s aF hw R ar es (j+1) k _ M O (by rw[show i+(j+1)=i+j+1 by omega];exact ag) ⟨by simp only[List.length_append];omega,ae⟩ ae ae (o.trans G)).mono ?_;rintro v al ⟨rfl,ab⟩;refine⟨?_,ab⟩
   rw[S,z];have ao:(j+1==0)=false:=by simp
   cases es<;>simp[sR]
  by_cases F:j=0
  ·subst F;have w:¬((0:Int)<((0:Nat):Int)):=ae;simp only[bU.cells]at g1;simp-implicitDefEqProofs(disch:=try exact ak)only[lM,qA,reduceAdd,reduceLeDiff,reduceIte,az,g1,m,w,decide_true,decide_false];exact fin acc H (by simp) pp
  ·have w:(0:Int)<(j:Int):=ae;have aq:au P .add 9 X (Z acc) (Z [44,32])=D (Z (acc++[44,32])):=lx _ _ _ _ (by simp only[List.length_cons,List.length_nil];omega);simp only[bU.cells]at g1;simp-implicitDefEqProofs(disch:=try exact ak)only[lM,qA,reduceAdd,reduceLeDiff,reduceIte,az,g1,m,w,decide_true,aq];have Q:(j==0)=false:=by simpa using F
   exact fin _ H (by rw[Q];rfl) pp
