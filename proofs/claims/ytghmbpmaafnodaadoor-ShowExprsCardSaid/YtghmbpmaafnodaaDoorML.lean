/-
  Texts of one proof, laid together: Y8 ShCa E1 ShR Wa ShRa Wb.
-/
import Derived.Test.YtghmbpmaafnodaaDoorMK
set_option linter.unusedVariables false
set_option linter.unusedSimpArgs false
set_option linter.defProp false
open Option renaming some→D,none→C
open Bool renaming true→X,false→U
open Go.bs.aa renaming int→I,str→Z
open Go.IntKind renaming i64→J
namespace Go.Proofs.YtghmbpmaafnodaaDoor
open Go.bs
open Nat (reduceAdd reduceLeDiff)
def Jq{n:Nat}(R:qC n){H0 H:ad}{r:Nat}{T:List Tok}{ao:aa}{s:au}(c:bQ H0 r T ao s)(x:aO H0 H)(B:H.get H0.next=D (.row U 11 [[I J 0,I J 0,Z [],Z [],I J 0,.ar,I J 0,I J 0,I J 0,I J 0,I J 0]])){b:Nat}(ab:H0.next<b)(F:H.get b=D (.row U 4 [[I J (al T s.at_).kind,Z (al T s.at_).text,I J (al T s.at_).n,I J (al T s.at_).pos]])){z:aA}{s':au}(h:(bif aY T (bA T s).2 [40]then(e2 T n (bA T s).2).bind λp=>D (.mk {kind:=7,name:=(bA T s).1,pos:=(al T s.at_).pos} p.1,p.2)else D (.mk {kind:=4,name:=(bA T s).1,pos:=(al T s.at_).pos} [],(bA T s).2))=D (z,s')):
  W (k_ (aD P ay) (.ptr r 0 0) (.ptr H0.next 0 0) (.ptr b 0 0) H) (dM H0 r T ao z s'):=by
 have ae:=c.rd.lt;have ap:=c.bJ.one;have Q:=c.aM x;have hle:=x.1;have ak:=ad.aS F;have ag:=ad.aS B;rw[k_];refine aP (mM Q) ?_;rintro _ H1 ⟨rfl,m1,u⟩;refine⟨m1.1,?_⟩;have M:=m1.get B af;have N:=m1.get F af;simp-implicitDefEqProofs(disch:=try exact aj)only[gv,gw,gx,gy,gz,gf,fL,gg,fM,gi,fN,gj,fO,gk,fP,gl,fQ,fR,gm,fS,gn,fT,fU,fs,ft,fu,fv,fw,gp,gq,gr,gu,fK,reduceAdd,reduceLeDiff,reduceIte,aw];refine aP (du u.rd u.bJ [40] (by simp)) ?_;rintro _ y ⟨rfl,e⟩;refine⟨e.1,?_⟩;have j:=e.get M;have d:=e.get N;have ah:=ad.aS j;have am:=ad.aS d;have G:=u.aM e;have w:=((x.mut (· =r)).trans m1).trans (e.mut _);cases E:aY T (bA T s).2 [40]with
 |false=>
  simp only[E,aR,aV,b4]at h;obtain⟨rfl,rfl⟩:=h;simp-implicitDefEqProofs(disch:=try exact aj)only[gv,gw,gx,gy,gz,gf,fL,gg,fM,gi,fN,gj,fO,gk,fP,gl,fQ,fR,gm,fS,gn,fT,fU,fs,ft,fu,fv,fw,gp,gq,gr,gu,fK,reduceAdd,reduceLeDiff,reduceIte,aw,Bool.not_false,j,d];exact ba.2 (dM.box (a:={kind:=4,name:=(bA T s).1,pos:=(al T s.at_).pos}) (kv:= .ar) (lo:=H0.next+1) c w G.rd (bj _) (Nat.lt_succ_self _) (cg.nil _ _) _)
 |true=>
  simp only[E,aW,cZ]at h;obtain⟨⟨S,s1⟩,L,A⟩:=h;simp only[aV,b4]at A;obtain⟨rfl,rfl⟩:=A;simp-implicitDefEqProofs(disch:=try exact aj)only[gv,gw,gx,gy,gz,gf,fL,gg,fM,gi,fN,gj,fO,gk,fP,gl,fQ,fR,gm,fS,gn,fT,fU,fs,ft,fu,fv,fw,gp,gq,gr,gu,fK,reduceAdd,reduceLeDiff,reduceIte,aw,Bool.not_true];refine aP (R G S s1 L) ?_;rintro v V ⟨m3,K,o⟩;refine⟨m3.1,?_⟩;have m:=m3.get j af;have q:=m3.get d af;have ai:=ad.aS m;have an:=ad.aS q;have O:v= .ar\/∃l i n cap,v= .aB l i n 11 cap:=by
   rcases o with⟨h,_⟩|⟨l,i,cap,ro,els,h,_⟩|⟨l,i,cap,h,_⟩
   ·exact .inl h
   ·exact .inr ⟨_,_,_,_,h⟩
   ·exact .inr ⟨_,_,_,_,h⟩
  rcases O with rfl|⟨l,i,k,cap,rfl⟩
  ·simp-implicitDefEqProofs(disch:=try exact aj)only[gv,gw,gx,gy,gz,gf,fL,gg,fM,gi,fN,gj,fO,gk,fP,gl,fQ,fR,gm,fS,gn,fT,fU,fs,ft,fu,fv,fw,gp,gq,gr,gu,fK,reduceAdd,reduceLeDiff,reduceIte,aw,m,q,d];exact ba.2 (dM.box (a:={kind:=7,name:=(bA T s).1,pos:=(al T s.at_).pos}) (kv:= .ar) (lo:=y.next) c (w.trans m3) K.rd (bj _) af o _)
  ·simp-implicitDefEqProofs(disch:=try exact aj)only[gv,gw,gx,gy,gz,gf,fL,gg,fM,gi,fN,gj,fO,gk,fP,gl,fQ,fR,gm,fS,gn,fT,fU,fs,ft,fu,fv,fw,gp,gq,gr,gu,fK,reduceAdd,reduceLeDiff,reduceIte,aw,m,q,d];exact ba.2 (dM.box (a:={kind:=7,name:=(bA T s).1,pos:=(al T s.at_).pos}) (kv:= .aB l i k 11 cap) (lo:=y.next) c (w.trans m3) K.rd (bj _) af o _)
def Jt{H0 H:ad}{r:Nat}{T:List Tok}{ao:aa}{s:au}(c:bQ H0 r T ao s)(j:aO H0 H)(d:H.get H0.next=D (.row U 11 [[I J 0,I J 0,Z [],Z [],I J 0,.ar,I J 0,I J 0,I J 0,I J 0,I J 0]])){b:Nat}(v:H0.next<b)(e:H.get b=D (.row U 4 [[I J (al T s.at_).kind,Z (al T s.at_).text,I J (al T s.at_).n,I J (al T s.at_).pos]])){k:aA}{s':au}(h:D (aA.mk {kind:=1,n:=(al T s.at_).n,pos:=(al T s.at_).pos} [],aF s)=D (k,s')):
  W (gv (.ptr r 0 0) H (.ptr b 0 0) (.ptr H0.next 0 0)) (dM H0 r T ao k s'):=by
 have w:=c.rd.lt;have p:=c.bJ.one;have q:=c.aM j;have hle:=j.1;have y:=ad.aS e;have x:=ad.aS d;have i:=q.rd;have m:=i;unfold bH at m;have z:=i.lt;obtain⟨m1,l⟩:=e7 i (aF s);have o:=(j.mut (· =r)).trans m1;have B:=c.mut o l;have u:=m1.get d af;have A:=m1.get e af;simp only[aV,b4]at h;obtain⟨rfl,rfl⟩:=h;simp-implicitDefEqProofs(disch:=try exact aj)only[gv,gw,gx,gy,gz,gf,fL,gg,fM,gi,fN,gj,fO,gk,fP,gl,fQ,fR,gm,fS,gn,fT,fU,fs,ft,fu,fv,fw,gp,gq,gr,gu,fK,reduceAdd,reduceLeDiff,reduceIte,aw,m,p,d,e];exact ba.2 (dM.box (a:={kind:=1,n:=(al T s.at_).n,pos:=(al T s.at_).pos}) (kv:= .ar) (lo:=H0.next+1) c o l (bj _) (Nat.lt_succ_self _) (cg.nil _ _) _)
def Bi{H0 H:ad}{r:Nat}{T:List Tok}{ao:aa}{s:au}(c:bQ H0 r T ao s)(m:aO H0 H)(d:H.get H0.next=D (.row U 11 [[I J 0,I J 0,Z [],Z [],I J 0,.ar,I J 0,I J 0,I J 0,I J 0,I J 0]])){b:Nat}(w:H0.next<b)(e:H.get b=D (.row U 4 [[I J (al T s.at_).kind,Z (al T s.at_).text,I J (al T s.at_).n,I J (al T s.at_).pos]])){o:aA}{s':au}(h:D (aA.mk {kind:=2,n:=bif (al T s.at_).text==[116,114,117,101]then 1 else 0,pos:=(al T s.at_).pos} [],aF s)=D (o,s')):
  W (gw (aD P ay) (.ptr r 0 0) H (.ptr b 0 0) (.ptr H0.next 0 0)) (dM H0 r T ao o s'):=by
 have x:=c.rd.lt;have p:=c.bJ.one;have u:=c.aM m;have hle:=m.1;have z:=ad.aS e;have y:=ad.aS d;have j:=u.rd;have k:=j;unfold bH at k;have A:=j.lt;obtain⟨m1,i⟩:=e7 j (aF s);have l:=(m.mut (· =r)).trans m1;have E:=c.mut l i;have v:=m1.get d af;have B:=m1.get e af;simp only[aV,b4]at h;obtain⟨rfl,rfl⟩:=h;cases q:(al T s.at_).text==[116,114,117,101]with
 |true=>
  simp-implicitDefEqProofs(disch:=try exact aj)only[gv,oP,gw,gx,gy,gz,gf,fL,gg,fM,gi,fN,gj,fO,gk,fP,gl,fQ,fR,gm,fS,gn,fT,fU,fs,ft,fu,fv,fw,gp,gq,gr,gu,fK,reduceAdd,reduceLeDiff,reduceIte,aw,k,p,d,e,q];exact ba.2 (dM.box (a:={kind:=2,n:=1,pos:=(al T s.at_).pos}) (kv:= .ar) (lo:=H0.next+1) c l i (bj _) (Nat.lt_succ_self _) (cg.nil _ _) _)
 |false=>
  simp-implicitDefEqProofs(disch:=try exact aj)only[gv,oP,gw,gx,gy,gz,gf,fL,gg,fM,gi,fN,gj,fO,gk,fP,gl,fQ,fR,gm,fS,gn,fT,fU,fs,ft,fu,fv,fw,gp,gq,gr,gu,fK,reduceAdd,reduceLeDiff,reduceIte,aw,k,p,d,e,q];exact ba.2 (dM.box (a:={kind:=2,n:=0,pos:=(al T s.at_).pos}) (kv:= .ar) (lo:=H0.next+1) c l i (bj _) (Nat.lt_succ_self _) (cg.nil _ _) _)
def Js{H0 H:ad}{r:Nat}{T:List Tok}{ao:aa}{s:au}(c:bQ H0 r T ao s)(i:aO H0 H)(k:H.get H0.next=D (.row U 11 [[I J 0,I J 0,Z [],Z [],I J 0,.ar,I J 0,I J 0,I J 0,I J 0,I J 0]])){b:Nat}(B:H0.next<b)(d:H.get b=D (.row U 4 [[I J (al T s.at_).kind,Z (al T s.at_).text,I J (al T s.at_).n,I J (al T s.at_).pos]])){j:aA}{s':au}(h:D (aA.mk {kind:=3,cf:=(cI T (aF s)).1.1,cS:=(cI T (aF s)).1.2,pos:=(al T s.at_).pos} [],(cI T (aF s)).2)=D (j,s')):
  W (gx (aD P ay) (.ptr r 0 0) H (.ptr b 0 0) (.ptr H0.next 0 0)) (dM H0 r T ao j s'):=by
 have E:=c.rd.lt;have v:=c.bJ.one;have x:=c.aM i;have hle:=i.1;have K:=ad.aS d;have F:=ad.aS k;have e:=x.rd;have o:=e;unfold bH at o;have M:=e.lt;obtain⟨m1,u⟩:=e7 e (aF s);have p:=(i.mut (· =r)).trans m1;have y:=c.mut p u;have q:=m1.get k af;have w:=m1.get d af;simp only[aV,b4]at h;obtain⟨rfl,rfl⟩:=h;simp-implicitDefEqProofs(disch:=try exact aj)only[gv,gw,gx,gy,gz,gf,fL,gg,fM,gi,fN,gj,fO,gk,fP,gl,fQ,fR,gm,fS,gn,fT,fU,fs,ft,fu,fv,fw,gp,gq,gr,gu,fK,reduceAdd,reduceLeDiff,reduceIte,aw,o,v];refine aP (rY y) ?_;rintro _ A ⟨rfl,m2,z⟩;refine⟨m2.1,?_⟩;have l:=m2.get q af;have m:=m2.get w af;have G:=ad.aS l
 have L:=ad.aS m;simp-implicitDefEqProofs(disch:=try exact aj)only[gv,gw,gx,gy,gz,gf,fL,gg,fM,gi,fN,gj,fO,gk,fP,gl,fQ,fR,gm,fS,gn,fT,fU,fs,ft,fu,fv,fw,gp,gq,gr,gu,fK,reduceAdd,reduceLeDiff,reduceIte,aw,l,m,d];exact ba.2 (dM.box (a:={kind:=3,cf:=(cI T (aF s)).1.1,cS:=(cI T (aF s)).1.2,pos:=(al T s.at_).pos}) (kv:= .ar) (lo:=H0.next+1) c (p.trans m2) z.rd (bj _) (Nat.lt_succ_self _) (cg.nil _ _) _)
def Jr{n:Nat}(B:qG n){H0 H:ad}{r:Nat}{T:List Tok}{ao:aa}{s:au}(a:bQ H0 r T ao s)(i:aO H0 H)(j:H.get H0.next=D (.row U 11 [[I J 0,I J 0,Z [],Z [],I J 0,.ar,I J 0,I J 0,I J 0,I J 0,I J 0]])){b:Nat}(F:H0.next<b)(d:H.get b=D (.row U 4 [[I J (al T s.at_).kind,Z (al T s.at_).text,I J (al T s.at_).n,I J (al T s.at_).pos]])){c:aA}{s':au}(h:fj T n (al T s.at_).pos (aF s)=D (c,s')):
  W (gy (aD P ay) (.ptr r 0 0) H (.ptr b 0 0) (.ptr H0.next 0 0)) (dM H0 r T ao c s'):=by
 have G:=a.rd.lt;have u:=a.bJ.one;have y:=a.aM i;have hle:=i.1;have M:=ad.aS d;have K:=ad.aS j;have e:=y.rd;have m:=e;unfold bH at m;have N:=e.lt;obtain⟨m1,q⟩:=e7 e (aF s);have o:=(i.mut (· =r)).trans m1;have z:=a.mut o q;have p:=m1.get j af;have Q:=m1.get d af;simp-implicitDefEqProofs(disch:=try exact aj)only[gv,gw,gx,gy,gz,gf,fL,gg,fM,gi,fN,gj,fO,gk,fP,gl,fQ,fR,gm,fS,gn,fT,fU,fs,ft,fu,fv,fw,gp,gq,gr,gu,fK,reduceAdd,reduceLeDiff,reduceIte,aw,m,u,d];refine aP (B z _ c s' h) ?_;rintro v E ⟨m2,A,l⟩;refine⟨m2.1,?_⟩;have k:=m2.get p af;have L:=ad.aS k;have O:=m1.1;obtain⟨cs,rfl,hlen,w⟩:=l.cells;have x:List.take 11 cs=cs:=List.take_of_length_le af
 simp-implicitDefEqProofs(disch:=try exact aj)only[gv,gw,gx,gy,gz,gf,fL,gg,fM,gi,fN,gj,fO,gk,fP,gl,fQ,fR,gm,fS,gn,fT,fU,fs,ft,fu,fv,fw,gp,gq,gr,gu,fK,reduceAdd,reduceLeDiff,reduceIte,aw,k,hlen,w,List.append_nil,x];exact ba.2 (dM.ret a (o.trans m2) A.rd (bj _) l af _)
def first_par{n:Nat}(u:nx n){H0 H:ad}{r:Nat}{T:List Tok}{ao:aa}{s:au}(a:bQ H0 r T ao s)(d:aO H0 H)(e:H.get H0.next=D (.row U 11 [[I J 0,I J 0,Z [],Z [],I J 0,.ar,I J 0,I J 0,I J 0,I J 0,I J 0]])){b:Nat}(y:H0.next<b)(m:H.get b=D (.row U 4 [[I J (al T s.at_).kind,Z (al T s.at_).text,I J (al T s.at_).n,I J (al T s.at_).pos]])){c:aA}{s':au}(h:ep T n s=D (c,s')):
  W (fL (aD P ay) H (.ptr r 0 0) (.ptr H0.next 0 0)) (dM H0 r T ao c s'):=by
 have z:=a.rd.lt;have G:=a.bJ.one;have p:=a.aM d;have hle:=d.1;have E:=ad.aS m;have A:=ad.aS e;have w:=d.mut (· =r);have m1:=c0.refl (· =r) H;have k:=e;rw[fL];refine aP (u p c s' h) ?_;rintro v x ⟨m2,q,j⟩;refine⟨m2.1,?_⟩;have i:=m2.get k af;have B:=ad.aS i;have F:=m1.1;obtain⟨cs,rfl,hlen,l⟩:=j.cells;have o:List.take 11 cs=cs:=List.take_of_length_le af;simp-implicitDefEqProofs(disch:=try exact aj)only[gv,gw,gx,gy,gz,gf,fL,gg,fM,gi,fN,gj,fO,gk,fP,gl,fQ,fR,gm,fS,gn,fT,fU,fs,ft,fu,fv,fw,gp,gq,gr,gu,fK,reduceAdd,reduceLeDiff,reduceIte,aw,i,hlen,l,List.append_nil,o];exact ba.2 (dM.ret a (w.trans m2) q.rd (bj _) j af _)
def Ju{H0 H:ad}{r:Nat}{T:List Tok}{ao:aa}{s:au}(c:bQ H0 r T ao s)(e:aO H0 H)(j:H.get H0.next=D (.row U 11 [[I J 0,I J 0,Z [],Z [],I J 0,.ar,I J 0,I J 0,I J 0,I J 0,I J 0]])){b:Nat}(F:H0.next<b)(l:H.get b=D (.row U 4 [[I J (al T s.at_).kind,Z (al T s.at_).text,I J (al T s.at_).n,I J (al T s.at_).pos]])){i:aA}{s':au}(h:D (aA.mk {kind:=11,pos:=(al T s.at_).pos} [],dc T [41] (cJ T [40] (aF s)))=D (i,s')):
  W (gf (aD P ay) (.ptr r 0 0) H (.ptr b 0 0) (.ptr H0.next 0 0)) (dM H0 r T ao i s'):=by
 have G:=c.rd.lt;have v:=c.bJ.one;have x:=c.aM e;have hle:=e.1;have M:=ad.aS l;have K:=ad.aS j;have d:=x.rd;have o:=d;unfold bH at o;have O:=d.lt;obtain⟨m1,u⟩:=e7 d (aF s);have p:=(e.mut (· =r)).trans m1;have y:=c.mut p u;have q:=m1.get j af;have w:=m1.get l af;simp only[aV,b4]at h;obtain⟨rfl,rfl⟩:=h;simp-implicitDefEqProofs(disch:=try exact aj)only[gv,gw,gx,gy,gz,gf,fL,gg,fM,gi,fN,gj,fO,gk,fP,gl,fQ,fR,gm,fS,gn,fT,fU,fs,ft,fu,fv,fw,gp,gq,gr,gu,fK,reduceAdd,reduceLeDiff,reduceIte,aw,o,v];refine aP (pY y [40] (by simp)) ?_;rintro _ B ⟨rfl,m2,z⟩;refine⟨m2.1,?_⟩;simp-implicitDefEqProofs(disch:=try exact aj)only[gv,gw,gx,gy,gz,gf,fL,gg,fM,gi,fN,gj,fO,gk,fP,gl,fQ,fR,gm,fS,gn,fT,fU,fs,ft,fu,fv,fw,gp,gq,gr,gu,fK,reduceAdd,reduceLeDiff,reduceIte,aw]
 refine aP (pV z [41] (by simp)) ?_;rintro _ E ⟨rfl,m3,A⟩;refine⟨m3.1,?_⟩;have k:=m3.get (m2.get q af) af;have m:=m3.get (m2.get w af) af;have L:=ad.aS k;have N:=ad.aS m;simp-implicitDefEqProofs(disch:=try exact aj)only[gv,gw,gx,gy,gz,gf,fL,gg,fM,gi,fN,gj,fO,gk,fP,gl,fQ,fR,gm,fS,gn,fT,fU,fs,ft,fu,fv,fw,gp,gq,gr,gu,fK,reduceAdd,reduceLeDiff,reduceIte,aw,k,m];exact ba.2 (dM.box (a:={kind:=11,pos:=(al T s.at_).pos}) (kv:= .ar) (lo:=H0.next+1) c ((p.trans m2).trans m3) A.rd (bj _) (Nat.lt_succ_self _) (cg.nil _ _) _)
def Jp{n:Nat}(O:nx n){H0 H:ad}{r:Nat}{T:List Tok}{ao:aa}{s:au}(d:bQ H0 r T ao s)(i:aO H0 H)(m:H.get H0.next=D (.row U 11 [[I J 0,I J 0,Z [],Z [],I J 0,.ar,I J 0,I J 0,I J 0,I J 0,I J 0]])){b:Nat}(R:H0.next<b)(e:H.get b=D (.row U 4 [[I J (al T s.at_).kind,Z (al T s.at_).text,I J (al T s.at_).n,I J (al T s.at_).pos]])){j:aA}{s':au}(h:((ep T n (aF s)).bind λp=>D (aA.mk {kind:=10,pos:=(al T s.at_).pos} [p.1],p.2))=D (j,s')):
  W (gz (aD P ay) (.ptr r 0 0) H (.ptr b 0 0) (.ptr H0.next 0 0)) (dM H0 r T ao j s'):=by
 have V:=d.rd.lt;have F:=d.bJ.one;have L:=d.aM i;have hle:=i.1;have ag:=ad.aS e;have ab:=ad.aS m;have c:=L.rd;have w:=c;unfold bH at w;have ai:=c.lt;obtain⟨m1,E⟩:=e7 c (aF s);have y:=(i.mut (· =r)).trans m1;have M:=d.mut y E;have B:=m1.get m af;have K:=m1.get e af;simp only[cZ]at h;obtain⟨⟨an,s1⟩,A,k⟩:=h;simp only[aV,b4]at k;obtain⟨rfl,rfl⟩:=k;simp-implicitDefEqProofs(disch:=try exact aj)only[gv,gw,gx,gy,gz,gf,fL,gg,fM,gi,fN,gj,fO,gk,fP,gl,fQ,fR,gm,fS,gn,fT,fU,fs,ft,fu,fv,fw,gp,gq,gr,gu,fK,reduceAdd,reduceLeDiff,reduceIte,aw,w,F];refine aP (O M an s1 A) ?_;rintro v z ⟨m2,N,q⟩;refine⟨m2.1,?_⟩;have o:=m2.get B af
 have u:=m2.get K af;have ae:=ad.aS o;have ah:=ad.aS u;have ak:=m1.1;have am:=m2.1;obtain⟨cs,rfl,hlen,G⟩:=q.cells;have ap:List.take 11 cs=cs:=List.take_of_length_le af;have ax:∀l,b5 P l 41 1 [(0,.agg cs)]=D (.aB l 0 1 11 (D 1),.row U 11 [cs]):=λl=>jM l cs hlen G
 have Q:=y.trans m2;have x:=N.rd;unfold bH at x;have c:=x;simp-implicitDefEqProofs(disch:=try exact aj)only[gv,gw,gx,gy,gz,gf,fL,gg,fM,gi,fN,gj,fO,gk,fP,gl,fQ,fR,gm,fS,gn,fT,fU,fs,ft,fu,fv,fw,gp,gq,gr,gu,fK,reduceAdd,reduceLeDiff,reduceIte,aw,ax,o,u,e];refine ba.2 ?_;refine kz.fin (ok:=bk H0.next) (a:={kind:=10,pos:=(al T s.at_).pos}) (kv:= .aB z.next 0 1 11 (D 1)) (s':=s1) d ?_ ?_ (cg.n5 (ro:=false) ?_ (by unfold bk;omega) (q.new ?_ λl h=>by unfold bk;omega))
 ·(repeat (first|exact Q|refine c0.bE ?_ _|refine c0.cE (S:=(· =r)) ?_ (.inl rfl) _|refine c0.cE ?_ (.inr (by(first|omega|(simp only[ad.bX,ad.ds];omega)))) _))
 ·(unfold bH;simp-implicitDefEqProofs(disch:=try exact aj)only[dE,c,aF,eh,eN])
 ·simp-implicitDefEqProofs(disch:=try exact aj)only[dE]
 ·exact c0.cE (S:=λl=>l<_) ((c0.refl _ _).bE _) (.inl af) _
def Jv{n:Nat}(ab:qG n)(O:nx n)(V:qC n){H0 H:ad}{r:Nat}{T:List Tok}{ao:aa}{s:au}(a:bQ H0 r T ao s)(d:aO H0 H)(R:H.get H0.next=D (.row U 11 [[I J 0,I J 0,Z [],Z [],I J 0,.ar,I J 0,I J 0,I J 0,I J 0,I J 0]])){b:Nat}(c:H0.next<b)(S:H.get b=D (.row U 4 [[I J (al T s.at_).kind,Z (al T s.at_).text,I J (al T s.at_).n,I J (al T s.at_).pos]])){q:aA}{s':au}(h:(bif aY T s [110,117,108,108]then D (.mk {kind:=3,cf:=(cI T (aF s)).1.1,cS:=(cI T (aF s)).1.2,pos:=(al T s.at_).pos} [],(cI T (aF s)).2)else(bif aY T s [110,101,119]then fj T n (al T s.at_).pos (aF s)else(bif aY T s [108,101,110]then(ep T n (aF s)).bind λp=>D (.mk {kind:=10,pos:=(al T s.at_).pos} [p.1],p.2)else(bif aY T s [114,101,97,100]then D (.mk {kind:=11,pos:=(al T s.at_).pos} [],dc T [41] (cJ T [40] (aF s)))else(bif aY T s [40]then ep T n s else(bif aY T (bA T s).2 [40]then(e2 T n (bA T s).2).bind λp=>D (.mk {kind:=7,name:=(bA T s).1,pos:=(al T s.at_).pos} p.1,p.2)else D (.mk {kind:=4,name:=(bA T s).1,pos:=(al T s.at_).pos} [],(bA T s).2)))))))=D (q,s')):
  W (fR (aD P ay) H (.ptr r 0 0) (.ptr b 0 0) (.ptr H0.next 0 0)) (dM H0 r T ao q s'):=by
 have ak:=a.aM d;rw[fR];refine aP (du (a.rd.aM d) (a.bJ.aM d) [110,117,108,108] (by simp)) ?_;rintro _ ae ⟨rfl,gH⟩;refine⟨gH.1,?_⟩;have e:=d.trans gH;have z:=gH.get R;have G:=gH.get S;cases u:aY T s [110,117,108,108]with
 |true=>
  simp only[u,aW]at h;simp-implicitDefEqProofs(disch:=try exact aj)only[fQ,eH,aW];exact Js a e z c G h
 |false=>
  simp only[u,aR]at h;simp-implicitDefEqProofs(disch:=try exact aj)only[fQ,eH,aR];rw[gl];refine aP (du (a.rd.aM e) (a.bJ.aM e) [110,101,119] (by simp)) ?_;rintro _ af ⟨rfl,a6⟩;refine⟨a6.1,?_⟩;have i:=e.trans a6;have A:=a6.get z;have K:=a6.get G;cases v:aY T s [110,101,119]with
  |true=>
   simp only[v,aW]at h;simp-implicitDefEqProofs(disch:=try exact aj)only[fP,eH,aW];exact Jr ab a i A c K h
  |false=>
   simp only[v,aR]at h;simp-implicitDefEqProofs(disch:=try exact aj)only[fP,eH,aR];rw[gk];refine aP (du (a.rd.aM i) (a.bJ.aM i) [108,101,110] (by simp)) ?_;rintro _ ag ⟨rfl,l⟩;refine⟨l.1,?_⟩;have j:=i.trans l;have B:=l.get A;have L:=l.get K;cases w:aY T s [108,101,110]with
   |true=>
    simp only[w,aW]at h;simp-implicitDefEqProofs(disch:=try exact aj)only[fO,eH,aW];exact Jp O a j B c L h
   |false=>
    simp only[w,aR]at h;simp-implicitDefEqProofs(disch:=try exact aj)only[fO,eH,aR];rw[gj];refine aP (du (a.rd.aM j) (a.bJ.aM j) [114,101,97,100] (by simp)) ?_;rintro _ ah ⟨rfl,m⟩;refine⟨m.1,?_⟩;have k:=j.trans m;have E:=m.get B;have M:=m.get L;cases x:aY T s [114,101,97,100]with
    |true=>
     simp only[x,aW]at h;simp-implicitDefEqProofs(disch:=try exact aj)only[fN,eH,aW];exact Ju a k E c M h
    |false=>
     simp only[x,aR]at h;simp-implicitDefEqProofs(disch:=try exact aj)only[fN,eH,aR];rw[gi];refine aP (du (a.rd.aM k) (a.bJ.aM k) [40] (by simp)) ?_;rintro _ ai ⟨rfl,o⟩;refine⟨o.1,?_⟩;have Q:=k.trans o;have F:=o.get E;have N:=o.get M;cases y:aY T s [40]with
     |true=>
      simp only[y,aW]at h;simp-implicitDefEqProofs(disch:=try exact aj)only[fM,eH,aW];exact first_par O a Q F c N h
     |false=>
      simp only[y,aR]at h;simp-implicitDefEqProofs(disch:=try exact aj)only[fM,eH,aR];rw[gg];exact Jq V a Q F c N h
def Jw{n:Nat}(M:qG n)(N:nx n)(L:qC n):uU (n+1):=by
 intro H r T ao s a e s' h;refine cF (λ_=>MR 0) ?_;have S:=a.rd.lt;simp only[dy]at h;have o:=aO.push H (.row U 11 [[I J 0,I J 0,Z [],Z [],I J 0,.ar,I J 0,I J 0,I J 0,I J 0,I J 0]]);simp-implicitDefEqProofs(disch:=try exact aj)only[fK,gu,reduceAdd,reduceLeDiff,reduceIte,aw];refine aP (hY (a.rd.aM o) (a.bJ.aM o)) ?_;rintro _ l ⟨rfl,p⟩;refine⟨p.1,?_⟩;have G:=p.get (ad.bI H _);have V:=ad.aS G;simp-implicitDefEqProofs(disch:=try exact aj)only[gr,gq,reduceAdd,reduceLeDiff,reduceIte,aw,Tok.v];have F:=p.bE (.row U 4 [[I J (al T s.at_).kind,Z (al T s.at_).text,I J (al T s.at_).n,I J (al T s.at_).pos]])
 have z:=ad.bI l (.row U 4 [[I J (al T s.at_).kind,Z (al T s.at_).text,I J (al T s.at_).n,I J (al T s.at_).pos]]);have w:=F.get (ad.bI H _);have c:=o.trans F;rw[gp];refine aP (kf (a.rd.aM c)) ?_;rintro _ O ⟨rfl,rfl⟩;refine⟨bj _,?_⟩;have rest:(s.aG==0&&(al T s.at_).kind==2)=U->W (fU (aD P ay) (l.push (.row U 4 [[I J (al T s.at_).kind,Z (al T s.at_).text,I J (al T s.at_).n,I J (al T s.at_).pos]])) (.ptr r 0 0) (.ptr H.next 0 0) (.ptr l.next 0 0)) (dM H r T ao e s'):=by
  intro K;simp only[K,aR]at h;rw[fU];refine aP (du (a.rd.aM c) (a.bJ.aM c) [116,114,117,101] (by simp)) ?_;rintro _ Q ⟨rfl,j⟩;refine⟨j.1,?_⟩;have i:=c.trans j;have x:=j.get w;have A:=j.get z;cases q:aY T s [116,114,117,101]with
  |true=>
   simp only[q,Bool.true_or,aW]at h;simp-implicitDefEqProofs(disch:=try exact aj)only[fT,gm,ni,eH,aW];exact Bi a i x af A h
  |false=>
   simp only[q,Bool.false_or]at h;simp-implicitDefEqProofs(disch:=try exact aj)only[fT,gn,eH,aR];refine aP (du (a.rd.aM i) (a.bJ.aM i) [102,97,108,115,101] (by simp)) ?_;rintro _ R ⟨rfl,k⟩;refine⟨k.1,?_⟩;have E:=i.trans k;have y:=k.get x;have B:=k.get A;cases u:aY T s [102,97,108,115,101]with
   |true=>
    simp only[u,aW]at h;simp-implicitDefEqProofs(disch:=try exact aj)only[fS,ni,eH,aW];exact Bi a E y af B h
   |false=>
    simp only[u,aR]at h;simp-implicitDefEqProofs(disch:=try exact aj)only[fS,ni,eH,aR];exact Jv M N L a E y af B h
 cases m:s.aG==0 with
 |false=>
  simp-implicitDefEqProofs(disch:=try exact aj)only[fw,fv,fu,ft,fs,reduceAdd,reduceLeDiff,reduceIte,aw];exact rest (by simp[m])
 |true=>
  cases d:(al T s.at_).kind==2 with
  |true=>
   simp only[m,d,Bool.and_self,aW]at h;simp-implicitDefEqProofs(disch:=try exact aj)only[fw,fv,fu,ft,fs,reduceAdd,reduceLeDiff,reduceIte,aw,d];exact Jt a c w af z h
  |false=>
   simp-implicitDefEqProofs(disch:=try exact aj)only[fw,fv,fu,ft,fs,reduceAdd,reduceLeDiff,reduceIte,aw,d];exact rest (by simp[m,d])
def vd:∀n,n<=900000000->∀k,k<=n->Hj k
 |0,_,k,a=>by
  have:k=0:=af;subst this;exact⟨λ_ _ _ _ _ h=>by simp[dd]at h,λ_ _ _ h=>by simp[fl]at h,λ_ _ _ _ _ _ h=>by simp[eg]at h,λ_ _ _ h=>by simp[ep]at h,λ_ _ _ h=>by simp[dy]at h,
   λ_ _ _ _ h=>by simp[fj]at h,λ_ _ _ h=>by simp[e2]at h⟩
 |n+1,d,k,a=>by
  have c:=vd n af;have i:=c n (bj _);rcases Nat.lt_or_ge k (n+1)with h|h
  ·exact c k af
  ·have:k=n+1:=af;subst this;exact⟨I_ (λk a=>(c k a).expr) i.unary,PL (λk a=>(c k a).expr) i.first i.behind,Iy λk a=>(c k a).expr,J7 i.expr,Jw i.fresh i.inner i.args,JH i.inner,Il af λk a=>(c k a).expr⟩
section
set_option maxRecDepth 100000
noncomputable section
def ki(G:az)(ag av:aa)(H:ad):O:=bZ H (dO (H).next ag) λa n=>bZ n (dO (n).next av) λc l=>j (aH P 45 a 0) λaX=>j (ak P l 3 aX) λbq=>j (aH P 45 c 0) λa0=>j (ak P l 3 a0) λa1=>j (aq P .eql 3 U bq a1) λk=>aN k X l (bu (aH P 45 a 1)) λal z=>aN k X z (qr (ak P z 3 al)) λam af=>aN k X af (bu (aH P 45 c 1)) λan B=>aN k X B (qr (ak P B 3 an)) λao ah=>aN k X ah (bu (aq P .eql 3 U am ao)) λap ai=>j (cu k (D ap) (D (.bool U))) λbC=>aN bC X ai (bu (aH P 45 a 2)) λau E=>aN bC X E (qr (ak P E 9 au)) λaw aj=>aN bC X aj (bu (aH P 45 c 2)) λax o=>aN bC X o (qr (ak P o 9 ax)) λay F=>aN bC X F (bu (aq P .eql 9 U aw ay)) λaA K=>j (cu bC (D aA) (D (.bool U))) λd=>aN d X K (bu (aH P 45 a 3)) λaC p=>aN d X p (qr (ak P p 40 aC)) λaD L=>aN d X L (bu (aH P 45 c 3)) λaE s=>aN d X s (qr (ak P s 40 aE)) λaF M=>aN d X M (bu (aq P .eql 40 U aD aF)) λaG N=>j (cu d (D aG) (D (.bool U))) λe=>aN e X N (bu (aH P 45 a 6)) λaI u=>aN e X u (qr (ak P u 43 aI)) λaJ Q=>aN e X Q (bu (aH P 45 c 6)) λaK v=>aN e X v (qr (ak P v 43 aK)) λaL R=>aN e X R (bu (aq P .eql 43 U aJ aL)) λaM S=>j (cu e (D aM) (D (.bool U))) λh=>aN h X S (bu (aH P 45 a 7)) λaO w=>aN h X w (qr (ak P w 3 aO)) λaP T=>aN h X T (bu (aH P 45 c 7)) λaQ x=>aN h X x (qr (ak P x 3 aQ)) λaR V=>aN h X V (bu (aq P .eql 3 U aP aR)) λaS W=>j (cu h (D aS) (D (.bool U))) λi=>aN i X W (bu (aH P 45 a 4)) λaT y=>aN i X y (qr (ak P y 41 aT)) λaU ab=>aN i X ab (bu (aH P 45 c 4)) λaV A=>aN i X A (qr (ak P A 41 aV)) λaW m=>aN i X m (λq=>eI m (G 52 [aU,aW] m) q) λaY ae=>j (cu i (D aY) (D (.bool U))) λaZ=>D (aZ,ae)
def L8(N:Nat){ag av:aa}{H:ad}{r:aa×ad}(h:ki (aD P ay) ag av H=D r):aD P ay 18 [ag,av] H=D r:=cV N (S:=λG=>ki G ag av H) Tryd.func18 (λ_=>by delta ki;kernel_rfl) h
def jF(G:az)(N:Nat)(H:ad):O:=some ((.bool X),H)
def N1(G:az)(N:Nat):∀ae H,br P G N (o (o (o (bD Tryd.f52)))) (bm Tryd.f52) [] (bm Tryd.f52) ae H=jF G N H:=by
 refine bS (aL _) λae H=> ?_
 delta jF;kernel_rfl
def lU(G:az)(N:Nat)(d:aa->aa->aa->ad->O)(ag av a:aa)(H:ad):O:=bh P .len [41] [ag] H λe=>j (aq P .lss 3 U a e) λh=>aX (D h) (j (cM P 41 ag a) λi=>j (ak P H 45 i) λk=>j (cM P 41 av a) λl=>j (ak P H 45 l) λm=>aJ H (G 18 [k,m] H) λn c=>j (fq .not n) λo=>aX (D o) (D ((.bool U),c)) (j (aq P .add 3 X a (I J 1)) λbC=>d ag av bC c)) (jF G N H)
def lV(G:az)(N:Nat):Nat->aa->aa->aa->ad->O
 |0,_,_,_,_=>C
 |n+1,ag,av,a,H=>lU G N (lV G N n) ag av a H
def N0(G:az)(N:Nat)(c:aa->aa->aa->ad->O):∀ae H,br P G N (a7 (a7 (o (a7 (o (o (bD Tryd.f52))))))) (λae H=>c (ae 0) (ae 1) (ae 5) H) [(0,(λae H=>jF G N H))] (bm Tryd.f52) ae H=lU G N c (ae 0) (ae 1) (ae 5) H:=by
 refine bS (aL _) λae H=> ?_
 delta lU;generalize jF G N=a;revert a;refine id ?_;intro a;kernel_rfl
def k1(G:az)(N:Nat)(ag av:aa)(H:ad):O:=bh P .len [41] [ag] H λc=>bh P .len [41] [av] H λd=>j (aq P .neq 3 U c d) λa=>aX (D a) (D ((.bool U),H)) (lV G N N ag av (I J 0) H)
def Mv(N:Nat){ag av:aa}{H:ad}{r:aa×ad}(h:k1 (aD P ay) N ag av H=D r):aD P ay 52 [ag,av] H=D r:=cV N (S:=λG=>k1 G N ag av H) Tryd.func52 (λG=>dY ((aQ ah ((aQ ah ((aQ ah (N1 G N) ((aQ ah ((dm ah ((eB (k:=λm ae H=>lV G N m (ae 0) (ae 1) (ae 5) H) ah (λae H=>ah) (λm=>N0 G N (lV G N m)))))) (aL _))))) (aL _))) (aL _))) (by delta k1;generalize lV G N N=a;revert a;refine id ?_;intro a;kernel_rfl)) h
end
end
def KS(x y:Bool):Option.map aa.bool (bif x then(bif y then D X else D U)else D U)=D (.bool (x&&y)):=by cases x<;>cases y<;>rfl
def KT(x y z:Bool):Option.map aa.bool (bif x then(bif y then(bif z then D X else D U)else D U)else D U)=D (.bool (x&&(y&&z))):=by cases x<;>cases y<;>cases z<;>rfl
def nL{c:Bool}(a a':List UInt8)(b cl:Int):aq P .eql 40 c (.agg [Z a,I J b]) (.agg [Z a',I J cl])=D (.bool (a==a'&&b==cl)):=
 Eq.trans ah (KS (a==a') (b==cl))
def nM{c:Bool}(a a':Int)(b cl:Int)(d e:Int):aq P .eql 43 c (.agg [I J a,I J b,I J d]) (.agg [I J a',I J cl,I J e])=D (.bool (a==a'&&(b==cl&&d==e))):=
 Eq.trans ah (KT (a==a') (b==cl) (d==e))
def n_(a b c:Int):bl (D (.agg [I J a,I J b,I J c])) (.agg [I J a,I J b,I J c])=true:=by simp[bl,aa.beq,fV.beq]
mutual
def jL:aA->aA->Bool
 | .mk a ks,.mk b ls=>a.kind==b.kind&&(a.n==b.n&&(a.name==b.name&&((a.cf==b.cf&&a.cS==b.cS)&&((a.nq==b.nq&&(a.qp==b.qp&&a.ld==b.ld))&&(a.ref==b.ref&&gM ks ls)))))
def gM:List aA->List aA->Bool
 |[],[]=>X
 |[],_::_=>U
 |_::_,[]=>U
 |e::es,f::a=>jL e f&&gM es a
end
mutual
def gQ(B:Nat):aA->Prop
 | .mk _ ks=>ks.length<=B/\eR B ks
def eR(B:Nat):List aA->Prop
 |[]=>True
 |e::es=>gQ B e/\eR B es
end
def Fg:∀(es a:List aA),es.length≠a.length->gM es a=U
 |[],[],h=>absurd rfl h
 |[],_::_,_=>by rw[gM]
 |_::_,[],_=>by rw[gM]
 |e::es,f::a,h=>by rw[gM,Fg es a (by simpa using h),Bool.and_false]
def cg.ej{H:ad}{ok:Nat->Prop}{ks:List aA}{kv:aa}(h:cg H ok ks kv):kv.one=true:=by
 rcases h with⟨rfl,_⟩|⟨l,i,cap,ro,els,rfl,_⟩|⟨l,i,cap,rfl,_⟩<;>rfl
def cg.aM{H H':ad}{ok:Nat->Prop}{ks:List aA}{kv:aa}(h:cg H ok ks kv)(p:aO H H'):cg H' ok ks kv:=h.a1 (c9.aM p λ_ h=>h)
def cw.aM{H H':ad}{ok:Nat->Prop}{e:aA}{v:aa}(h:cw H ok e v)(p:aO H H'):cw H' ok e v:=cw.a1 (c9.aM p λ_ h=>h) e v h
def df.cons{H:ad}{ok:Nat->Prop}{e:aA}{es:List aA}{els:List (List aa)}{k:Nat}(h:df H ok (e::es) (els.drop k)):∃cs,els[k]? =D cs/\cw H ok e (.agg cs)/\df H ok es (els.drop (k+1)):=by
 cases a:els.drop k with
 |nil=>rw[a,df]at h;exact h.elim
 |cons cs css=>
  rw[a,df]at h;have c:els[k]? =D cs:=by
   have:=List.getElem?_drop (xs:=els) (i:=k) (j:=0);rw[a]at this;simpa using this.symm
  have d:els.drop (k+1)=css:=by
   have:(els.drop k).drop 1=css:=by rw[a];rfl
   rwa[List.drop_drop]at this
  exact⟨cs,c,h.1,by rw[d];exact h.2⟩
def OK{H:ad}{a b:bG}{ks ls:List aA}{kv b0:aa}(s:kv.one=X)(u:b0.one=X)
  (v:∀H',aO H H'->W (aD P ay 52 [kv,b0] H') λr q=>r= .bool (gM ks ls)/\aO H' q):
  W (aD P ay 18 [.agg (a.cells kv),.agg (b.cells b0)] H) λr H'=>r= .bool (jL (.mk a ks) (.mk b ls))/\aO H H':=by
 refine cF (λ_=>L8 0) ?_;have d:∀l,dO l (.agg (a.cells kv))=D (.ptr l 0 0,.row U 11 [a.cells kv]):=λl=>hk l _ (by simp only[bG.cells,List.all_cons,List.all_nil,gF,hp,s,Bool.and_self])
 have e:∀l,dO l (.agg (b.cells b0))=D (.ptr l 0 0,.row U 11 [b.cells b0]):=λl=>hk l _ (by simp only[bG.cells,List.all_cons,List.all_nil,gF,hp,u,Bool.and_self])
 have c:=(aO.push H (.row U 11 [a.cells kv])).bE (.row U 11 [b.cells b0]);rw[jL];simp only[bG.cells]at d e c ⊢;cases h:a.kind==b.kind with
 |false=>
  simp-implicitDefEqProofs(disch:=try exact aj)only[ki,reduceAdd,reduceLeDiff,reduceIte,aw,d,e,nL,nM,n_,h];exact ba.2 ⟨by simp only[Bool.false_and,Bool.and_false],c⟩
 |true=>
  cases i:a.n==b.n with
  |false=>
   simp-implicitDefEqProofs(disch:=try exact aj)only[ki,reduceAdd,reduceLeDiff,reduceIte,aw,d,e,nL,nM,n_,h,i];exact ba.2 ⟨by simp only[Bool.false_and,Bool.and_false],c⟩
  |true=>
   cases j:a.name==b.name with
   |false=>
    simp-implicitDefEqProofs(disch:=try exact aj)only[ki,reduceAdd,reduceLeDiff,reduceIte,aw,d,e,nL,nM,n_,h,i,j];exact ba.2 ⟨by simp only[Bool.false_and,Bool.and_false],c⟩
   |true=>
    cases k:(a.cf==b.cf&&a.cS==b.cS)with
    |false=>
     simp-implicitDefEqProofs(disch:=try exact aj)only[ki,reduceAdd,reduceLeDiff,reduceIte,aw,d,e,nL,nM,n_,h,i,j,k];exact ba.2 ⟨by simp only[Bool.false_and,Bool.and_false],c⟩
    |true=>
     cases m:(a.nq==b.nq&&(a.qp==b.qp&&a.ld==b.ld))with
     |false=>
      simp-implicitDefEqProofs(disch:=try exact aj)only[ki,reduceAdd,reduceLeDiff,reduceIte,aw,d,e,nL,nM,n_,h,i,j,k,m];exact ba.2 ⟨by simp only[Bool.false_and,Bool.and_false],c⟩
     |true=>
      cases o:a.ref==b.ref with
      |false=>
       simp-implicitDefEqProofs(disch:=try exact aj)only[ki,reduceAdd,reduceLeDiff,reduceIte,aw,d,e,nL,nM,n_,h,i,j,k,m,o];exact ba.2 ⟨by simp only[Bool.false_and,Bool.and_false],c⟩
      |true=>
       simp-implicitDefEqProofs(disch:=try exact aj)only[ki,reduceAdd,reduceLeDiff,reduceIte,aw,d,e,nL,nM,n_,h,i,j,k,m,o];refine iA (v _ c) ?_;rintro _ w ⟨rfl,p⟩;refine⟨p.1,?_⟩;simp-implicitDefEqProofs(disch:=try exact aj)only[ki,bh,bx];exact ba.2 ⟨by simp only[Bool.true_and],c.trans p⟩
section
set_option maxRecDepth 100000
noncomputable section
def mX(G:az)(N:Nat)(ag a:aa)(H:ad):O:=j (aq P .lss 3 X ag (I J 0)) λc=>aX (D c) (j (aq P .add 9 X (Z [45]) a) λd=>D (d,H)) (D (a,H))
def NS(G:az)(N:Nat):∀ae H,br P G N (o (o (o (o (bD Tryd.f48))))) (bm Tryd.f48) [] (bm Tryd.f48) ae H=mX G N (ae 0) (ae 3) H:=by
 refine bS (aL _) λae H=> ?_
 delta mX;kernel_rfl
def oD(G:az)(N:Nat)(a:aa->aa->aa->ad->O)(ag d e:aa)(H:ad):O:=j (aq P .quo 3 X e (I J 10)) λc=>a ag d c H
def NT(G:az)(N:Nat)(a:aa->aa->aa->ad->O):∀ae H,br P G N (o (o (a7 (a7 (o (a7 (o (o (o (bD Tryd.f48)))))))))) (λae H=>a (ae 0) (ae 3) (ae 4) H) [(0,(λae H=>mX G N (ae 0) (ae 3) H))] (bm Tryd.f48) ae H=oD G N a (ae 0) (ae 3) (ae 4) H:=by
 refine bS (aL _) λae H=> ?_
 delta oD;kernel_rfl
def qd(G:az)(N:Nat)(c:aa->aa->aa->ad->O)(ag l:aa)(m n:aa)(H:ad):O:=j (aq P .add 3 X (I J 48) n) λd=>qz P 3 5 d H λe=>bZ H (b5 P (H).next 77 1 [(0,e)]) λh a=>qz P 77 9 h a λi=>j (aq P .add 9 U i l) λk=>oD G N c ag k m a
def NU(G:az)(N:Nat)(a:aa->aa->aa->ad->O):∀ae H,br P G N (o (o (a7 (a7 (o (a7 (a7 (o (a7 (o (o (o (bD Tryd.f48))))))))))))) (λae H=>oD G N a (ae 0) (ae 3) (ae 4) H) [(1,(λae H=>oD G N a (ae 0) (ae 3) (ae 4) H)),(0,(λae H=>mX G N (ae 0) (ae 3) H))] (bm Tryd.f48) ae H=qd G N a (ae 0) (ae 3) (ae 4) (ae 5) H:=by
 refine bS (aL _) λae H=> ?_
 delta qd;generalize oD G N a=c;revert c;refine id ?_;intro c;kernel_rfl
def r4(G:az)(N:Nat)(e:aa->aa->aa->ad->O)(ag d a:aa)(H:ad):O:=j (aq P .neq 3 X a (I J 0)) λh=>aX (D h) (j (aq P .rem 3 X a (I J 10)) λc=>j (aq P .lss 3 X c (I J 0)) λbC=>aX (D bC) (j (aq P .sub 3 X (I J 0) c) λi=>qd G N e ag d a i H) (qd G N e ag d a c H)) (mX G N ag d H)
def mY(G:az)(N:Nat):Nat->aa->aa->aa->ad->O
 |0,_,_,_,_=>C
 |n+1,ag,a,c,H=>r4 G N (mY G N n) ag a c H
def NR(G:az)(N:Nat)(a:aa->aa->aa->ad->O):∀ae H,br P G N (a7 (a7 (o (a7 (o (o (o (bD Tryd.f48)))))))) (λae H=>a (ae 0) (ae 3) (ae 4) H) [(0,(λae H=>mX G N (ae 0) (ae 3) H))] (bm Tryd.f48) ae H=r4 G N a (ae 0) (ae 3) (ae 4) H:=by
 refine bS ((aQ ah ((aQ ah (NT G N a) ((dm ah ((aQ ah ((aQ ah (NU G N a) (aL _))) (aL _))))))) (aL _))) λae H=> ?_
 delta r4;generalize mX G N=c;generalize qd G N a=d;revert c d;refine id ?_;intro c d;kernel_rfl
def ud(G:az)(N:Nat)(ag:aa)(H:ad):O:=j (aq P .eql 3 X ag (I J 0)) λa=>aX (D a) (D ((Z [48]),H)) (mY G N N ag (Z []) ag H)
def Mr(N:Nat){ag:aa}{H:ad}{r:aa×ad}(h:ud (aD P ay) N ag H=D r):aD P ay 48 [ag] H=D r:=cV N (S:=λG=>ud G N ag H) Tryd.func48 (λG=>dY ((aQ ah ((aQ ah ((aQ ah ((aQ ah (NS G N) ((aQ ah ((dm ah ((eB (k:=λm ae H=>mY G N m (ae 0) (ae 3) (ae 4) H) ah (λae H=>ah) (λm=>NR G N (mY G N m)))))) (aL _))))) (aL _))) (aL _))) (aL _))) (by delta ud;generalize mY G N N=a;revert a;refine id ?_;intro a;kernel_rfl)) h
def jj(G:az)(H:ad):O:=some ((I J 7),H)
def NV(G:az)(N:Nat):∀ae H,br P G N (o (o (bD Tryd.f50))) (bm Tryd.f50) [] (bm Tryd.f50) ae H=jj G H:=by
 refine bS (aL _) λae H=> ?_
 delta jj;kernel_rfl
def qf(G:az)(a:aa)(H:ad):O:=aX (D a) (D ((I J 6),H)) (jj G H)
def NZ(G:az)(N:Nat):∀ae H,br P G N (o (o (o (o (o (o (o (o (o (o (o (a7 (o (a7 (o (bD Tryd.f50)))))))))))))))) (λae H=>jj G H) [(0,(λae H=>jj G H))] (bm Tryd.f50) ae H=qf G (ae 21) H:=by
 refine bS (aL _) λae H=> ?_
 delta qf;generalize jj G=a;revert a;refine id ?_;intro a;kernel_rfl
def oE(G:az)(c d:aa)(H:ad):O:=aX (D d) (D ((I J 5),H)) (j (aq P .eql 3 X c (I J 12)) λa=>aX (D a) (qf G a H) (j (aq P .eql 3 X c (I J 13)) λe=>qf G e H))
def NY(G:az)(N:Nat):∀ae H,br P G N (o (o (o (o (o (o (o (o (o (a7 (o (a7 (o (bD Tryd.f50)))))))))))))) (λae H=>jj G H) [(0,(λae H=>jj G H))] (bm Tryd.f50) ae H=oE G (ae 4) (ae 17) H:=by
 refine bS ((dB ah (aL _) ((aQ ah (NZ G N) (aL _))))) λae H=> ?_
 delta oE;generalize qf G=a;revert a;refine id ?_;intro a;kernel_rfl
def qe(G:az)(a e:aa)(H:ad):O:=aX (D e) (D ((I J 4),H)) (j (aq P .eql 3 X a (I J 16)) λc=>aX (D c) (oE G a c H) (j (aq P .eql 3 X a (I J 17)) λd=>aX (D d) (oE G a d H) (j (aq P .eql 3 X a (I J 18)) λh=>oE G a h H)))
def NX(G:az)(N:Nat):∀ae H,br P G N (o (o (o (o (o (o (o (a7 (o (a7 (o (bD Tryd.f50)))))))))))) (λae H=>jj G H) [(0,(λae H=>jj G H))] (bm Tryd.f50) ae H=qe G (ae 4) (ae 14) H:=by
 refine bS ((dB ah (aL _) ((aQ ah (NY G N) (aL _))))) λae H=> ?_
 delta qe;generalize oE G=a;revert a;refine id ?_;intro a;kernel_rfl
def mZ(G:az)(a d:aa)(H:ad):O:=aX (D d) (D ((I J 3),H)) (j (aq P .eql 3 X a (I J 14)) λc=>aX (D c) (qe G a c H) (j (aq P .eql 3 X a (I J 15)) λbC=>qe G a bC H))
def NW(G:az)(N:Nat):∀ae H,br P G N (o (o (o (o (o (a7 (o (a7 (o (bD Tryd.f50)))))))))) (λae H=>jj G H) [(0,(λae H=>jj G H))] (bm Tryd.f50) ae H=mZ G (ae 4) (ae 9) H:=by
 refine bS ((dB ah (aL _) ((aQ ah (NX G N) (aL _))))) λae H=> ?_
 delta mZ;generalize qe G=a;revert a;refine id ?_;intro a;kernel_rfl
def uf(G:az)(ag:aa)(H:ad):O:=bZ H (dO (H).next ag) λav c=>j (aH P 45 av 0) λk=>j (ak P c 3 k) λa=>j (aq P .eql 3 X a (I J 24)) λbq=>aX (D bq) (D ((I J 1),c)) (j (aq P .eql 3 X a (I J 23)) λl=>aX (D l) (D ((I J 2),c)) (j (aq P .eql 3 X a (I J 19)) λd=>aX (D d) (mZ G a d c) (j (aq P .eql 3 X a (I J 20)) λe=>aX (D e) (mZ G a e c) (j (aq P .eql 3 X a (I J 21)) λh=>aX (D h) (mZ G a h c) (j (aq P .eql 3 X a (I J 22)) λi=>mZ G a i c)))))
def Mt(N:Nat){ag:aa}{H:ad}{r:aa×ad}(h:uf (aD P ay) ag H=D r):aD P ay 50 [ag] H=D r:=cV N (S:=λG=>uf G ag H) Tryd.func50 (λG=>dY ((aQ ah ((aQ ah (NV G N) ((aQ ah ((dm ah ((aQ ah ((dB ah (aL _) ((aQ ah ((dB ah (aL _) ((aQ ah (NW G N) (aL _))))) (aL _))))) (aL _))))) (aL _))))) (aL _))) (by delta uf;generalize mZ G=a;revert a;refine id ?_;intro a;kernel_rfl)) h
def ug(G:az)(ag:aa)(H:ad):O:=bZ H (D (.aB (H).next 0 11 1 (D 11),.row U 1 [[Z [43]],[Z [45]],[Z [42]],[Z [47]],[Z [37]],[Z [60]],[Z [60,61]],[Z [61,61]],[Z [33,61]],[Z [38,38]],[Z [124,124]]])) λc a=>j (aq P .sub 3 X ag (I J 14)) λd=>j (cM P 50 c d) λe=>j (ak P a 9 e) λh=>D (h,a)
def Mu(N:Nat){ag:aa}{H:ad}{r:aa×ad}(h:ug (aD P ay) ag H=D r):aD P ay 51 [ag] H=D r:=cV N (S:=λG=>ug G ag H) Tryd.func51 (λ_=>by delta ug;kernel_rfl) h
def p7(G:az)(N:Nat)(a:aa)(H:ad):O:=some (a,H)
def NA(G:az)(N:Nat):∀ae H,br P G N (o (o (o (bD Tryd.f34)))) (bm Tryd.f34) [] (bm Tryd.f34) ae H=p7 G N (ae 3) H:=by
 refine bS (aL _) λae H=> ?_
 delta p7;kernel_rfl
def r1(G:az)(N:Nat)(d:aa->aa->aa->ad->O)(av a c:aa)(H:ad):O:=j (aH P 40 av 1) λl=>j (ak P H 3 l) λm=>j (aq P .lss 3 U c m) λe=>aX (D e) (j (aq P .add 9 X (Z [91]) a) λi=>j (aq P .add 9 X i (Z [93])) λk=>j (aq P .add 3 X c (I J 1)) λh=>d av k h H) (p7 G N a H)
def mV(G:az)(N:Nat):Nat->aa->aa->aa->ad->O
 |0,_,_,_,_=>C
 |n+1,av,a,c,H=>r1 G N (mV G N n) av a c H
def Nz(G:az)(N:Nat)(c:aa->aa->aa->ad->O):∀ae H,br P G N (a7 (a7 (o (a7 (o (o (bD Tryd.f34))))))) (λae H=>c (ae 1) (ae 3) (ae 4) H) [(0,(λae H=>p7 G N (ae 3) H))] (bm Tryd.f34) ae H=r1 G N c (ae 1) (ae 3) (ae 4) H:=by
 refine bS (aL _) λae H=> ?_
 delta r1;generalize p7 G N=a;revert a;refine id ?_;intro a;kernel_rfl
def t_(G:az)(N:Nat)(ag:aa)(H:ad):O:=bZ H (dO (H).next ag) λav a=>j (aH P 40 av 0) λc=>j (ak P a 9 c) λbq=>mV G N N av bq (I J 0) a
def Mk(N:Nat){ag:aa}{H:ad}{r:aa×ad}(h:t_ (aD P ay) N ag H=D r):aD P ay 34 [ag] H=D r:=cV N (S:=λG=>t_ G N ag H) Tryd.func34 (λG=>dY ((aQ ah ((aQ ah ((aQ ah (NA G N) ((aQ ah ((dm ah ((eB (k:=λm ae H=>mV G N m (ae 1) (ae 3) (ae 4) H) ah (λae H=>ah) (λm=>Nz G N (mV G N m)))))) (aL _))))) (aL _))) (aL _))) (by delta t_;generalize mV G N N=a;revert a;refine id ?_;intro a;kernel_rfl)) h
end
end
def IW(n:Int):mg P 3 5 (I J n)=D (I .u8 (IntKind.u8.wrap n)):=ah
def IX(l i n e:Nat)(c:Option Nat):mg P 77 9 (.aB l i n e c)=none:=ah
def O7(l:Nat)(k:Int):b5 P l 77 1 [(0,I .u8 k)]=D (.aB l 0 1 1 (D 1),.row U 1 [[I .u8 k]]):=ah
def PG:P.underlying 77=D (.slice 5):=ah
def PF:P.underlying 5=D (.int .u8):=ah
def PH:P.underlying 9=D .string:=ah
def IF{H:ad}{L:Nat}{k:Int}{cap:Option Nat}{ro:Bool}(a:H.get L=D (.row ro 1 [[I .u8 k]])):nA P H 77 9 (.aB L 0 1 1 cap)=D (Z [UInt8.ofNat k.toNat]):=by
 simp[nA,PG,PF,PH,eK,a,bytesOf,Go.bs.byteOf]
def Lz(m:Nat):aq P .quo 3 X (I J (m:Int)) (I J 10)=D (I J (IntKind.i64.wrap ((m:Int).tdiv 10))):=by simp[aq,hR]
def LN(m:Nat):aq P .rem 3 X (I J (m:Int)) (I J 10)=D (I J ((m:Int).tmod 10)):=by simp[aq,hR]
def Gc{N:Nat}{n:Int}(l:0<=n){H0:ad}:∀(f m k:Nat) (acc:aC) (H:ad),m≠0->m<10^f->m<=9223372036854775807->acc.length+f<=100->f<k->aO H0 H->
  W (mY (aD P ay) N k (I J n) (Z acc) (I J m) H) λv H'=>v= Z (fY f m acc)/\aO H0 H'
 |0,m,_,_,_,i,c,_,_,_,_=>by simp at c;omega
 |_,_,0,_,_,_,_,_,_,h,_=>af
 |f+1,m,k+1,acc,H,i,c,w,x,y,pp=>by
  have e:((m:Int) != 0)=true:=by simp;omega
  have q:(m:Int).tmod 10=((m%10:Nat):Int):=rfl;have a6:(m:Int).tdiv 10=((m/10:Nat):Int):=rfl;have w0:IntKind.i64.wrap ((m/10:Nat):Int)=((m/10:Nat):Int):=wrap_i64 af af;have s:IntKind.i64.wrap ((48:Int)+((m%10:Nat):Int))=((48+m%10:Nat):Int):=by rw[wrap_i64 af af];omega
  have u:IntKind.u8.wrap ((48+m%10:Nat):Int)=((48+m%10:Nat):Int):=by show((48+m%10:Nat):Int)%256=_;omega
  have d0:¬(((m%10:Nat):Int)<0):=af;have j:=ad.bI H (.row U 1 [[I .u8 ((48+m%10:Nat):Int)]]);have d:=IF (cap:=some 1) j;rw[Int.toNat_natCast]at d;have bn:aq P .add 9 U (Z [UInt8.ofNat (48+m%10)]) (Z acc)=D (Z (UInt8.ofNat (48+m%10)::acc)):=j3 _ _ _ _ (by simp only[List.length_cons,List.length_nil];omega);simp-implicitDefEqProofs(disch:=try exact aj)only[mY,r4,qd,oD,bh,bx,da,e,LN,Lz,q,a6,w0,s,u,d0,decide_false,qz,IW,O7,IX,d,bn];rw[fY];by_cases a:m/10=0
  ·rw[if_pos a,a];have p:(((0:Nat):Int) != 0)=false:=rfl;have o:¬n<0:=af;cases k with
   |zero=>omega
   |succ k=>
    simp-implicitDefEqProofs(disch:=try exact aj)only[mY,r4,mX,bh,bx,da,p,o,decide_false];exact ba.2 ⟨rfl,pp.bE _⟩
  ·rw[if_neg a];exact Gc l f (m/10) k _ _ a (by rw[Nat.pow_succ]at c;omega) af (by simp only[List.length_cons];omega) af (pp.bE _)
def Pr{H:ad}{n:Int}(c:0<=n)(e:n<=9223372036854775807):W (aD P ay 48 [I J n] H) λv H'=>v= Z (fY 20 n.toNat [])/\aO H H':=by
 refine cF (λ_=>Mr 30) ?_;rw[ud];by_cases a:n=0
 ·subst a;simp-implicitDefEqProofs(disch:=try exact aj)only[reduceAdd,reduceLeDiff,reduceIte,aw,beq_self_eq_true];exact ba.2 ⟨rfl,.refl _⟩
 ·have d:(n==0)=false:=by simpa using a
  simp-implicitDefEqProofs(disch:=try exact aj)only[reduceAdd,reduceLeDiff,reduceIte,aw,d];have:=Gc (N:=30) c (H0:=H) 20 n.toNat 30 [] H af (by have:=rQ;omega) af (by simp) af (.refl _);rw[show((n.toNat:Nat):Int)=n by omega]at this;exact this
def Cd(x:aC)(n:Nat)(l:List bF):flat (rep n (bB x)++l)=(List.replicate n x).flatten++flat l:=by
 induction n with
 |zero=>rfl
 |succ n a=>unfold rep at a ⊢;rw[List.replicate_succ,List.cons_append,flat,a,List.replicate_succ,List.flatten_cons,List.append_assoc];rfl
def ht(x:aC)(n:Nat):aC:=(List.replicate n [91]).flatten++(x++(List.replicate n [93]).flatten)
def JB(x:aC)(l:List bF):flat (oX x::l)=x++flat l:=by
 unfold oX;cases fm x<;>rfl
def c5:flat []=[]:=rfl
def vL(x:aC)(z:Int):flat (cj x z)=ht x z.toNat:=by
 unfold cj ht;rw[Cd,JB];have:=Cd [93] z.toNat [];rw[List.append_nil,c5,List.append_nil]at this;rw[this]
def PE(x:aC)(n:Nat):ht x (n+1)=[91]++ht x n++[93]:=by
 have e:∀n,(List.replicate (n+1) ([93]:aC)).flatten=(List.replicate n ([93]:aC)).flatten++[93]:=by
  intro n;rw[List.replicate_succ'];simp
 unfold ht;rw[e,List.replicate_succ,List.flatten_cons];simp only[List.append_assoc]
def PD(x:aC)(n:Nat):(ht x n).length=2*n+x.length:=by
 unfold ht;simp;omega
def GN{N:Nat}{H:ad}{l:Nat}{x:aC}{z:Int}(d:H.get l=D (.row U 2 [[Z x,I J z]]))(i:x.length<=100)(m:z<=100):∀(c j k:Nat),((j+c:Nat):Int)=z->c<k->
  W (mV (aD P ay) N k (.ptr l 0 0) (Z (ht x j)) (I J j) H) λv H'=>v= Z (ht x z.toNat)/\H'=H
 |_,_,0,_,h=>af
 |0,j,k+1,e,_=>by
  have a:¬((j:Int)<z):=af;simp-implicitDefEqProofs(disch:=try exact aj)only[mV,r1,p7,reduceAdd,reduceLeDiff,reduceIte,aw,d,a,decide_false];exact ba.2 ⟨by rw[show z.toNat=j by omega],rfl⟩
 |c+1,j,k+1,e,o=>by
  have a:(j:Int)<z:=af;have p:=PD x j;have an:aq P .add 9 X (Z [91]) (Z (ht x j))=D (Z (91::ht x j)):=j3 _ _ _ _ (by simp only[List.length_cons,List.length_nil];omega);have aE:aq P .add 9 X (Z (91::ht x j)) (Z [93])=D (Z (ht x (j+1))):=by
   rw[PE];exact j3 _ _ (91::ht x j) [93] (by simp only[List.length_append,List.length_cons,List.length_nil];omega)
  have n:IntKind.i64.wrap ((j:Int)+1)=((j+1:Nat):Int):=by rw[wrap_i64 af af];omega
  simp-implicitDefEqProofs(disch:=try exact aj)only[mV,r1,bh,bx,da,ec,ak,cO,Nat.reduceAdd,Nat.reduceLeDiff,reduceIte,aa.cells,cW,dL,d,a,decide_true,an,aE,n];exact GN d i m c (j+1) k af af
def GM{H:ad}{x:aC}{z:Int}(i:0<=z)(a:z<=100)(d:x.length<=100):W (aD P ay 34 [.agg [Z x,I J z]] H) λv H'=>v= Z (flat (cj x z))/\aO H H':=by
 refine cF (λ_=>Mk 200) ?_;have c:∀l,dO l (.agg [Z x,I J z])=D (.ptr l 0 0,.row U 2 [[Z x,I J z]]):=λl=>hk l _ rfl
 rw[t_,vL];simp-implicitDefEqProofs(disch:=try exact aj)only[reduceAdd,reduceLeDiff,reduceIte,aw,c];have h:=GN (N:=200) (ad.bI H (.row U 2 [[Z x,I J z]])) d a z.toNat 0 200 af af;have e:ht x 0=x:=by simp[ht]
 rw[e]at h;refine h.mono ?_;rintro v _ ⟨rfl,rfl⟩;exact⟨rfl,aO.push _ _⟩
def Ds{H:ad}{a:bG}{kv:aa}(q:kv.one=X):W (aD P ay 50 [.agg (a.cells kv)] H) λv H'=>v= I J (cm a.kind)/\aO H H':=by
 refine cF (λ_=>Mt 0) ?_;have e:∀l,dO l (.agg (a.cells kv))=D (.ptr l 0 0,.row U 11 [a.cells kv]):=λl=>hk l _ (by simp only[bG.cells,List.all_cons,List.all_nil,gF,hp,q,Bool.and_self])
 have pp:=aO.push H (.row U 11 [a.cells kv]);simp only[bG.cells]at e pp ⊢;generalize a.kind=k at e pp ⊢;unfold uf mZ qe oE qf jj;simp-implicitDefEqProofs(disch:=try exact aj)only[reduceAdd,reduceLeDiff,reduceIte,aw,e];unfold cm;have n:∀m:Int,k=m->(k==m)=true:=λm h=>by simpa using h
 have cC:∀m:Int,k≠m->(k==m)=false:=λm h=>by simpa using h
 by_cases c:k=24
 ·simp-implicitDefEqProofs(disch:=try exact aj)only[bh,bx,da,n _ c];refine⟨_,_,rfl,?_,pp⟩;rw[if_pos c];rfl
 by_cases d:k=23
 ·simp-implicitDefEqProofs(disch:=try exact aj)only[bh,bx,da,cC _ c,n _ d];refine⟨_,_,rfl,?_,pp⟩;rw[if_neg c,if_pos d];rfl
 by_cases p:19<=k/\k<=22
 ·have:k=19\/k=20\/k=21\/k=22:=af;rcases this with rfl|rfl|rfl|rfl<;>exact⟨_,_,rfl,rfl,pp⟩
 by_cases j:k=14\/k=15
 ·rcases j with rfl|rfl<;>exact⟨_,_,rfl,rfl,pp⟩
 by_cases o:16<=k/\k<=18
 ·have:k=16\/k=17\/k=18:=af;rcases this with rfl|rfl|rfl<;>exact⟨_,_,rfl,rfl,pp⟩
 by_cases i:k=12\/k=13
 ·rcases i with rfl|rfl<;>exact⟨_,_,rfl,rfl,pp⟩
 ·simp-implicitDefEqProofs(disch:=try exact aj)only[bh,bx,da,cC 24 af,cC 23 af,cC 19 af,cC 20 af,cC 21 af,cC 22 af,cC 14 af,cC 15 af,cC 16 af,cC 17 af,cC 18 af,cC 12 af,cC 13 af];refine⟨_,_,rfl,?_,pp⟩;rw[if_neg c,if_neg d,if_neg p,if_neg j,if_neg o,if_neg i];rfl
def OW{H:ad}{k:Int}(h:14<=k)(aZ:k<=24):W (aD P ay 51 [I J k] H) λv H'=>v= Z (ez k)/\aO H H':=by
 refine cF (λ_=>Mu 0) ?_;have c:k=14\/k=15\/k=16\/k=17\/k=18\/k=19\/k=20\/k=21\/k=22\/k=23\/k=24:=af;rcases c with rfl|rfl|rfl|rfl|rfl|rfl|rfl|rfl|rfl|rfl|rfl<;>
 ·unfold ug;have w:∀a b:Int,0<=a-b->a-b<=100->IntKind.i64.wrap (a-b)=a-b:=λa b x y=>wrap_i64 x af
  simp-implicitDefEqProofs(disch:=try exact aj)only[reduceAdd,reduceLeDiff,reduceIte,aw,w];exact ba.2 ⟨rfl,aO.push _ _⟩
section
set_option maxRecDepth 100000
noncomputable section
def ue(G:az)(ag av:aa)(H:ad):O:=bZ H (dO (H).next ag) λe c=>j (ak P c 45 e) λn=>aJ c (G 50 [n] c) λbq a=>j (aq P .lss 3 U bq av) λo=>aX (D o) (j (ak P a 45 e) λp=>aJ a (G 17 [p] a) λh d=>j (aq P .add 9 X (Z [40]) h) λi=>j (aq P .add 9 X i (Z [41])) λk=>D (k,d)) (j (ak P a 45 e) λl=>aJ a (G 17 [l] a) λm d=>D (m,d))
def Ms(N:Nat){ag av:aa}{H:ad}{r:aa×ad}(h:ue (aD P ay) ag av H=D r):aD P ay 49 [ag,av] H=D r:=cV N (S:=λG=>ue G ag av H) Tryd.func49 (λ_=>by delta ue;kernel_rfl) h
def kX(G:az)(N:Nat)(av:aa)(H:ad):O:=j (ak P H 45 av) λp=>aJ H (G 50 [p] H) λn a=>j (aH P 45 av 4) λq=>j (ak P a 41 q) λs=>j (cM P 41 s (I J 0)) λu=>j (ak P a 45 u) λv=>aJ a (G 49 [v,n] a) λw c=>j (aH P 45 av 0) λl=>j (ak P c 3 l) λm=>aJ c (G 51 [m] c) λy d=>j (aH P 45 av 4) λe=>j (ak P d 41 e) λh=>j (cM P 41 h (I J 1)) λi=>j (ak P d 45 i) λk=>j (aq P .add 3 X n (I J 1)) λB=>aJ d (G 49 [k,B] d) λE o=>j (aq P .add 9 X w (Z [32])) λx=>j (aq P .add 9 U x y) λz=>j (aq P .add 9 X z (Z [32])) λA=>j (aq P .add 9 U A E) λF=>bif ((bl (ak P a 3 l) m&&(bl (ak P c 3 l) m&&X))&&((bl (ak P a 41 e) h&&(bl (ak P c 41 e) h&&(bl (ak P d 41 e) h&&X)))&&((bl (ak P a 45 i) k&&(bl (ak P c 45 i) k&&(bl (ak P d 45 i) k&&X)))&&X)))then(D (F,o))else C
def Ni(G:az)(N:Nat):∀ae H,br P G N (o (o (bD Tryd.f17))) (bm Tryd.f17) [] (bm Tryd.f17) ae H=kX G N (ae 1) H:=by
 refine bS (aL _) λae H=> ?_
 delta kX;kernel_rfl
def lO(G:az)(N:Nat)(a:aa)(H:ad):O:=j (aq P .add 9 X a (Z [41])) λc=>D (c,H)
def Nj(G:az)(N:Nat):∀ae H,br P G N (o (o (a7 (o (o (o (o (o (o (o (o (o (o (o (o (o (a7 (o (a7 (o (bD Tryd.f17))))))))))))))))))))) (λae H=>kX G N (ae 1) H) [(0,(λae H=>kX G N (ae 1) H))] (bm Tryd.f17) ae H=lO G N (ae 3) H:=by
 refine bS (aL _) λae H=> ?_
 delta lO;kernel_rfl
def oj(G:az)(N:Nat)(a:aa->aa->aa->ad->O)(av c d:aa)(H:ad):O:=j (aq P .add 3 X d (I J 1)) λe=>a av c e H
def Nk(G:az)(N:Nat)(a:aa->aa->aa->ad->O):∀ae H,br P G N (o (o (a7 (a7 (o (a7 (o (a7 (o (o (o (o (o (o (o (o (o (o (o (o (o (a7 (o (a7 (o (bD Tryd.f17)))))))))))))))))))))))))) (λae H=>a (ae 1) (ae 3) (ae 4) H) [(1,(λae H=>lO G N (ae 3) H)),(0,(λae H=>kX G N (ae 1) H))] (bm Tryd.f17) ae H=oj G N a (ae 1) (ae 3) (ae 4) H:=by
 refine bS (aL _) λae H=> ?_
 delta oj;kernel_rfl
def om(G:az)(N:Nat)(c:aa->aa->aa->ad->O)(av e a:aa)(H:ad):O:=j (aH P 45 av 4) λh=>j (ak P H 41 h) λi=>j (cM P 41 i a) λk=>j (ak P H 45 k) λl=>aJ H (G 17 [l] H) λm d=>j (aq P .add 9 U e m) λn=>oj G N c av n a d
def Nl(G:az)(N:Nat)(a:aa->aa->aa->ad->O):∀ae H,br P G N (o (a7 (a7 (o (a7 (a7 (o (a7 (o (a7 (o (o (o (o (o (o (o (o (o (o (o (o (o (a7 (o (a7 (o (bD Tryd.f17)))))))))))))))))))))))))))) (λae H=>oj G N a (ae 1) (ae 3) (ae 4) H) [(2,(λae H=>oj G N a (ae 1) (ae 3) (ae 4) H)),(1,(λae H=>lO G N (ae 3) H)),(0,(λae H=>kX G N (ae 1) H))] (bm Tryd.f17) ae H=om G N a (ae 1) (ae 3) (ae 4) H:=by
 refine bS (aL _) λae H=> ?_
 delta om;generalize oj G N a=c;revert c;refine id ?_;intro c;kernel_rfl
def oi(G:az)(N:Nat)(d:aa->aa->aa->ad->O)(av c a:aa)(H:ad):O:=j (aH P 45 av 4) λe=>j (ak P H 41 e) λh=>bh P .len [41] [h] H λi=>j (aq P .lss 3 U a i) λk=>aX (D k) (j (aq P .gtr 3 X a (I J 0)) λl=>aX (D l) (j (aq P .add 9 X c (Z [44,32])) λm=>om G N d av m a H) (om G N d av c a H)) (lO G N c H)
def kh(G:az)(N:Nat):Nat->aa->aa->aa->ad->O
 |0,_,_,_,_=>C
 |n+1,av,a,c,H=>oi G N (kh G N n) av a c H
def Nh(G:az)(N:Nat)(a:aa->aa->aa->ad->O):∀ae H,br P G N (a7 (a7 (o (a7 (o (a7 (o (o (o (o (o (o (o (o (o (o (o (o (o (a7 (o (a7 (o (bD Tryd.f17)))))))))))))))))))))))) (λae H=>a (ae 1) (ae 3) (ae 4) H) [(1,(λae H=>lO G N (ae 3) H)),(0,(λae H=>kX G N (ae 1) H))] (bm Tryd.f17) ae H=oi G N a (ae 1) (ae 3) (ae 4) H:=by
 refine bS ((aQ ah ((aQ ah (Nk G N a) ((dm ah ((aQ ah (Nl G N a) (aL _))))))) (aL _))) λae H=> ?_
 delta oi;generalize lO G N=c;generalize om G N a=d;revert c d;refine id ?_;intro c d;kernel_rfl
def tP(G:az)(N:Nat)(ag:aa)(H:ad):O:=bZ H (dO (H).next ag) λav a=>j (aH P 45 av 0) λbq=>j (ak P a 3 bq) λd=>j (aq P .eql 3 X d (I J 1)) λba=>aX (D ba) (j (aH P 45 av 1) λu=>j (ak P a 3 u) λF=>aJ a (G 48 [F] a) λW c=>D (W,c)) (j (aq P .eql 3 X d (I J 2)) λam=>aX (D am) (j (aH P 45 av 1) λan=>j (ak P a 3 an) λbC=>j (aq P .eql 3 X bC (I J 1)) λao=>aX (D ao) (D ((Z [116,114,117,101]),a)) (D ((Z [102,97,108,115,101]),a))) (j (aq P .eql 3 X d (I J 3)) λap=>aX (D ap) (j (aH P 45 av 3) λau=>j (ak P a 40 au) λaw=>aJ a (G 34 [aw] a) λax c=>j (aq P .add 9 X (Z [110,117,108,108,32]) ax) λay=>D (ay,c)) (j (aq P .eql 3 X d (I J 4)) λaA=>aX (D aA) (j (aH P 45 av 2) λaC=>j (ak P a 9 aC) λaD=>D (aD,a)) (j (aq P .eql 3 X d (I J 5)) λaE=>aX (D aE) (j (aH P 45 av 4) λaF=>j (ak P a 41 aF) λaG=>j (cM P 41 aG (I J 0)) λaI=>j (ak P a 45 aI) λaK=>aJ a (G 49 [aK,I J 7] a) λaL c=>j (aq P .add 9 X aL (Z [46])) λaM=>j (aH P 45 av 2) λh=>j (ak P c 9 h) λi=>j (aq P .add 9 U aM i) λaN=>bif ((bl (ak P a 9 h) i&&bl (ak P c 9 h) i)&&X)then(D (aN,c))else C) (j (aq P .eql 3 X d (I J 6)) λaO=>aX (D aO) (j (aH P 45 av 4) λaP=>j (ak P a 41 aP) λaQ=>j (cM P 41 aQ (I J 0)) λaR=>j (ak P a 45 aR) λaS=>aJ a (G 49 [aS,I J 7] a) λaT c=>j (aH P 45 av 4) λk=>j (ak P c 41 k) λl=>j (cM P 41 l (I J 1)) λm=>j (ak P c 45 m) λn=>aJ c (G 17 [n] c) λaV e=>j (aq P .add 9 X aT (Z [91])) λaU=>j (aq P .add 9 U aU aV) λaW=>j (aq P .add 9 X aW (Z [93])) λaY=>bif ((bl (ak P a 41 k) l&&(bl (ak P c 41 k) l&&X))&&((bl (ak P a 45 m) n&&(bl (ak P c 45 m) n&&X))&&X))then(D (aY,e))else C) (j (aq P .eql 3 X d (I J 7)) λaZ=>aX (D aZ) (j (aH P 45 av 2) λa0=>j (ak P a 9 a0) λa1=>j (aq P .add 9 X a1 (Z [40])) λa2=>kh G N N av a2 (I J 0) a) (j (aq P .eql 3 X d (I J 8)) λa3=>aX (D a3) (j (aH P 45 av 3) λa4=>j (aH P 40 a4 0) λa5=>j (ak P a 9 a5) λa6=>j (aq P .add 9 X (Z [110,101,119,32]) a6) λa7=>D (a7,a)) (j (aq P .eql 3 X d (I J 9)) λa8=>aX (D a8) (j (aH P 45 av 3) λa9=>j (ak P a 40 a9) λa_=>aJ a (G 34 [a_] a) λbb c=>j (aH P 45 av 4) λo=>j (ak P c 41 o) λp=>j (cM P 41 p (I J 0)) λq=>j (ak P c 45 q) λs=>aJ c (G 17 [s] c) λbe e=>j (aq P .add 9 X (Z [110,101,119,32,91]) bb) λbc=>j (aq P .add 9 X bc (Z [93,40])) λbd=>j (aq P .add 9 U bd be) λbf=>j (aq P .add 9 X bf (Z [41])) λbg=>bif ((bl (ak P a 41 o) p&&(bl (ak P c 41 o) p&&X))&&((bl (ak P a 45 q) s&&(bl (ak P c 45 q) s&&X))&&X))then(D (bg,e))else C) (j (aq P .eql 3 X d (I J 10)) λv=>aX (D v) (j (aH P 45 av 4) λw=>j (ak P a 41 w) λx=>j (cM P 41 x (I J 0)) λy=>j (ak P a 45 y) λz=>aJ a (G 17 [z] a) λA c=>j (aq P .add 9 X (Z [108,101,110,40]) A) λB=>j (aq P .add 9 X B (Z [41])) λE=>D (E,c)) (j (aq P .eql 3 X d (I J 11)) λK=>aX (D K) (D ((Z [114,101,97,100,40,41]),a)) (j (aq P .eql 3 X d (I J 12)) λL=>aX (D L) (j (aH P 45 av 4) λM=>j (ak P a 41 M) λQ=>j (cM P 41 Q (I J 0)) λR=>j (ak P a 45 R) λS=>aJ a (G 49 [S,I J 6] a) λT c=>j (aq P .add 9 X (Z [45]) T) λV=>D (V,c)) (j (aq P .eql 3 X d (I J 13)) λab=>aX (D ab) (j (aH P 45 av 4) λae=>j (ak P a 41 ae) λaf=>j (cM P 41 af (I J 0)) λah=>j (ak P a 45 ah) λai=>aJ a (G 49 [ai,I J 6] a) λaj c=>j (aq P .add 9 X (Z [33]) aj) λal=>D (al,c)) (kX G N av a)))))))))))))
def L7(N:Nat){ag:aa}{H:ad}{r:aa×ad}(h:tP (aD P ay) N ag H=D r):aD P ay 17 [ag] H=D r:=cV N (S:=λG=>tP G N ag H) Tryd.func17 (λG=>dY ((aQ ah ((aQ ah (Ni G N) ((aQ ah ((dm ah ((aQ ah ((dB ah (aL _) ((aQ ah ((dB ah (aL _) ((aQ ah ((dB ah (aL _) ((aQ ah ((dB ah (aL _) ((aQ ah ((dB ah (aL _) ((aQ ah ((dB ah (aL _) ((aQ ah ((dB ah ((aQ ah ((aQ ah (Nj G N) ((aQ ah ((dm ah ((eB (k:=λm ae H=>kh G N m (ae 1) (ae 3) (ae 4) H) ah (λae H=>ah) (λm=>Nh G N (kh G N m)))))) (aL _))))) (aL _))) (aL _))) (aL _))))) (aL _))))) (aL _))))) (aL _))))) (aL _))))) (aL _))))) (aL _))))) (aL _))))) (aL _))) (by delta tP;generalize kX G N=a;generalize kh G N N=c;revert a c;refine id ?_;intro a c;kernel_rfl)) h
end
end
def cg.beq{H:ad}{ok:Nat->Prop}{ks:List aA}{kv:aa}(h:cg H ok ks kv):aa.beq kv kv=true:=by
 rcases h with⟨rfl,_⟩|⟨l,i,cap,ro,els,rfl,_⟩|⟨l,i,cap,rfl,_⟩<;>simp[aa.beq]
def rT{a:bG}{kv:aa}(h:aa.beq kv kv=X):bl (D (.agg (a.cells kv))) (.agg (a.cells kv))=true:=by
 simp[bl,aa.beq,fV.beq,bG.cells,h]
def df.get{H:ad}{ok:Nat->Prop}:∀{ks:List aA} {css:List (List aa)} {j:Nat} {e:aA},df H ok ks css->ks[j]? =D e->∃cs,css[j]? =D cs/\cw H ok e (.agg cs)
 |[],_,_,_,_,h=>by simp at h
 |_::_,[],_,_,h,_=>by rw[df]at h;exact h.elim
 |k::ks,cs::css,0,e,h,a=>by rw[df]at h;simp at a;subst a;exact⟨cs,rfl,h.1⟩
 |k::ks,cs::css,j+1,e,h,a=>by
  rw[df]at h;obtain⟨c,a6,d⟩:=df.get (ks:=ks) (css:=css) (j:=j) h.2 (by simpa using a);exact⟨c,by simpa using a6,d⟩
def cg.jA{H:ad}{ok:Nat->Prop}{ks:List aA}{kv:aa}(h:cg H ok ks kv){n:Nat}(k:ks.length=n){j:Nat}{a:bG}{es:List aA}(e:ks[j]? =D (.mk a es)):∃l i cap ro els c,kv= .aB l i n 11 cap/\H.get l=D (.row ro 11 els)/\els[i+j]? =D (a.cells c)/\cg H ok es c:=by
 subst k;have d:ks.length≠0:=by intro h;have:=List.length_eq_zero_iff.1 h;subst this;simp at e
 rcases h with⟨_,an⟩|⟨l,i,cap,ro,els,rfl,_,bn,b8⟩|⟨_,_,_,_,an⟩
 ·exact absurd an d
 ·obtain⟨cs,a6,m⟩:=b8.get e;obtain⟨c,o,p⟩:=hc.1 m;cases o;exact⟨l,i,cap,ro,els,c,rfl,bn,by rw[List.getElem?_drop]at a6;exact a6,p⟩
 ·exact absurd an d
def c2(x:aC)(l:List bF):flat (bB x::l)=x++flat l:=rfl
def hl(x:aC)(l:List bF):flat (wd x::l)=x++flat l:=rfl
def ja(x:aC)(l:List bF):flat (cp x::l)=x++flat l:=rfl
def eo(l:List bF):flat (cA::l)=[32]++flat l:=rfl
def c4{t:TypeId}{c:Bool}{a b:aC}(h:a.length+b.length<=9223372036854775807):aq P .add t c (Z a) (Z b)=D (Z (a++b)):=j3 t c a b h
def u0(e:aA):Prop:=∀(d m:Nat),ct d m e->cK e<=1000000000->∀(a:bG) (ks:List aA),e= .mk a ks->∀(H:ad) (ok:Nat->Prop) (kv:aa),cg H ok ks kv->W (aD P ay 17 [.agg (a.cells kv)] H) λr H'=>r= Z (flat (bd e))/\aO H H'
def P0{H:ad}{a:bG}{ks:List aA}{kv:aa}{m:Nat}(n:kv.one=X)(s:∀H',aO H H'->W (aD P ay 17 [.agg (a.cells kv)] H') λr p=>r= Z (flat (bd (.mk a ks)))/\aO H' p)(u:(flat (bd (.mk a ks))).length<=1000000000):
  W (aD P ay 49 [.agg (a.cells kv),I J m] H) λr H'=>r= Z (flat (bV m (.mk a ks)))/\aO H H':=by
 refine cF (λ_=>Ms 0) ?_;have k:∀l,dO l (.agg (a.cells kv))=D (.ptr l 0 0,.row U 11 [a.cells kv]):=λl=>hk l _ (by simp only[bG.cells,List.all_cons,List.all_nil,gF,hp,n,Bool.and_self])
 have pp:=aO.push H (.row U 11 [a.cells kv]);have dr:=ad.bI H (.row U 11 [a.cells kv]);have o:=λH'=>Ds (H:=H') (a:=a) n
 have i:=λH' (h:aO H H')=>s H' h
 simp only[bG.cells]at k pp dr o i ⊢;unfold ue;simp-implicitDefEqProofs(disch:=try exact aj)only[bh,bx,Nat.reduceAdd,Nat.reduceLeDiff,reduceIte,aa.cells,cW,dL,ak,cO,ec,dE,k];refine aP (o _) ?_;rintro _ j ⟨rfl,c⟩;refine⟨c.1,?_⟩;have g2:=c.get dr;by_cases hm:((cm a.kind:Nat):Int)<(m:Int)
 ·have e:(aA.mk a ks).b0<m:=by unfold aA.b0 aA.kind;simp only;omega
  simp-implicitDefEqProofs(disch:=try exact aj)only[bh,bx,da,Nat.reduceAdd,Nat.reduceLeDiff,reduceIte,aa.cells,cW,dL,ak,cO,g2,hm,decide_true];refine aP (i j (pp.trans c)) ?_;rintro _ q ⟨rfl,d⟩;refine⟨d.1,?_⟩;have an:aq P .add 9 X (Z [40]) (Z (flat (bd (.mk a ks))))=D (Z (40::flat (bd (.mk a ks)))):=j3 _ _ _ _ (by simp only[List.length_cons,List.length_nil];omega);have aE:aq P .add 9 X (Z (40::flat (bd (.mk a ks)))) (Z [41])=D (Z (40::flat (bd (.mk a ks))++[41])):=j3 _ _ _ _ (by simp only[List.length_cons,List.length_nil];omega);simp only[an,aE,dT];exact ba.2 ⟨by rw[n6 e,c2,db];rfl,(pp.trans c).trans d⟩
 ·have e:¬(aA.mk a ks).b0<m:=by unfold aA.b0 aA.kind;simp only;omega
  simp-implicitDefEqProofs(disch:=try exact aj)only[bh,bx,da,Nat.reduceAdd,Nat.reduceLeDiff,reduceIte,aa.cells,cW,dL,ak,cO,g2,hm,decide_false];refine aP (i j (pp.trans c)) ?_;rintro _ q ⟨rfl,d⟩;refine⟨d.1,?_⟩;exact ba.2 ⟨by rw[kN e],(pp.trans c).trans d⟩
def ql(j:Nat):List aA->aC
 |[]=>[]
 |_=>bif j==0 then[]else[44,32]
def yR{N:Nat}{H0:ad}{r L i:Nat}{a:bG}{cap:Option Nat}{ro:Bool}{els:List (List aa)}{ks:List aA}(n:H0.get r=D (.row U 11 [a.cells (.aB L i ks.length 11 cap)]))(s:H0.get L=D (.row ro 11 els)){ok:Nat->Prop}(aI:∀e∈ks,u0 e)(hw:∀e∈ks,ct 0 0 e\/∃d,ct d 0 e)(R:ks.length<=1000000000)(ax:b7 ks<=1000000000):
  ∀(es:List aA) (j k:Nat) (acc:aC) (H:ad),ks.drop j=es->df H0 ok es (els.drop (i+j))->acc.length+b7 es<=2000000000/\b7 es<=1000000000->j+es.length=ks.length->es.length<k->aO H0 H->
  W (kh (aD P ay) N k (.ptr r 0 0) (Z acc) (I J j) H) λv H'=>v= Z (acc++(ql j es++flat (dI (cq es))++[41]))/\aO H0 H'
 |_,_,0,_,_,_,_,_,_,x,_=>af
 |[],j,k+1,acc,H,q,he,y,u,x,pp=>by
  have m:¬((j:Int)<(ks.length:Int)):=by simp at u;omega
  have g1:=pp.get n;simp only[bG.cells]at g1;have an:aq P .add 9 X (Z acc) (Z [41])=D (Z (acc++[41])):=j3 _ _ _ _ (by simp only[List.length_cons,List.length_nil];omega);simp-implicitDefEqProofs(disch:=try exact aj)only[kh,oi,lO,reduceAdd,reduceLeDiff,reduceIte,aw,g1,m,decide_false,an];exact ba.2 ⟨by simp[ql,cq,dI,flat],pp⟩
 | .mk b c::es,j,k+1,acc,H,q,he,y,u,x,pp=>by
  simp only[List.length_cons]at u x;have m:(j:Int)<(ks.length:Int):=af;have A:aA.mk b c∈ks:=by
   have:aA.mk b c∈ks.drop j:=by rw[q];simp
   exact List.mem_of_mem_drop this
  obtain⟨d,B⟩:∃d,ct d 0 (.mk b c):=by
   rcases hw _ A with h|h
   ·exact⟨0,h⟩
   ·exact h
  rw[b7]at y;have au:=pE B;obtain⟨cs,a6,ae,ag⟩:=he.cons;obtain⟨V,ah,ai⟩:=hc.1 ae;cases ah;have g1:=pp.get n;have g2:=pp.get s;have T:((j:Int)).toNat=j:=af;have am:(0:Int)<=(j:Int):=af;have ak:IntKind.i64.wrap ((j:Int)+1)=((j+1:Nat):Int):=by rw[wrap_i64 af af];omega
  have hle:cK (.mk b c)<=1000000000:=af;have E:=λH' (p:aO H0 H')=>aI _ A d 0 B hle b c rfl H' ok V (ai.aM p)
  have O:ks.drop (j+1)=es:=by
   have:(ks.drop j).drop 1=es:=by rw[q];rfl
   rwa[List.drop_drop]at this
  have S:flat (dI (cq (.mk b c::es)))=flat (bd (.mk b c))++(ql 1 es++flat (dI (cq es))):=by
   cases es with
   |nil=>rw[n7];simp[dI,cq,flat,ql]
   |cons f r=>
    rw[cq,cq,dI,db,c2,eo]
    ·simp only[List.append_assoc];rfl
    ·intro a;cases a
  have fin:∀(l:aC) (H':ad),l=acc++(bif j==0 then[]else[44,32])->aO H0 H'->W (om (aD P ay) N (kh (aD P ay) N k) (.ptr r 0 0) (Z l) (I J j) H') λv K=>v= Z (acc++((bif j==0 then[]else[44,32])++flat (dI (cq (.mk b c::es)))++[41]))/\aO H0 K:=by
   intro l H' z o;have ao:l.length<=acc.length+2:=by
    rw[z];cases j==0<;>simp
   have g1:=o.get n;have g2:=o.get s;simp only[bG.cells]at g1 a6 E;simp-implicitDefEqProofs(disch:=try exact aj)only[om,reduceAdd,reduceLeDiff,reduceIte,aw,g1,g2,T,a6];refine aP (E H' o) ?_;rintro _ M ⟨rfl,G⟩;refine⟨G.1,?_⟩;have aE:aq P .add 9 U (Z l) (Z (flat (bd (.mk b c))))=D (Z (l++flat (bd (.mk b c)))):=j3 _ _ _ _ af;simp-implicitDefEqProofs(disch:=try exact aj)only[oj,bh,bx,da,aE,ak];refine(yR n s aI hw R ax es (j+1) k _ M O (by rw[show i+(j+1)=i+j+1 by omega];exact ag) ⟨by simp only[List.length_append];omega,af⟩ af af (o.trans G)).mono ?_;rintro v al ⟨rfl,ab⟩;refine⟨?_,ab⟩
   rw[S,z];have ap:(j+1==0)=false:=by simp
   cases es<;>simp[ql]
  by_cases F:j=0
  ·subst F;have w:¬((0:Int)<((0:Nat):Int)):=af;simp only[bG.cells]at g1;simp-implicitDefEqProofs(disch:=try exact aj)only[kh,oi,reduceAdd,reduceLeDiff,reduceIte,aw,g1,m,w,decide_true,decide_false];exact fin acc H (by simp) pp
  ·have w:(0:Int)<(j:Int):=af;have an:aq P .add 9 X (Z acc) (Z [44,32])=D (Z (acc++[44,32])):=j3 _ _ _ _ (by simp only[List.length_cons,List.length_nil];omega);simp only[bG.cells]at g1;simp-implicitDefEqProofs(disch:=try exact aj)only[kh,oi,reduceAdd,reduceLeDiff,reduceIte,aw,g1,m,w,decide_true,an];have Q:(j==0)=false:=by simpa using F
   exact fin _ H (by rw[Q];rfl) pp
