/-
  Texts of one proof, laid together: Y8 ShCa E1 ShR Wa ShRa Wb.
-/
import Derived.Test.YtghmbpmaafnodaaDoorMK
set_option linter.unusedVariables false
set_option linter.unusedSimpArgs false
set_option linter.defProp false
open Option renaming some→D,none→Z
open Bool renaming true→X,false→U
open Go.cn.ad renaming int→I,str→Y
open Go.IntKind renaming i64→J
namespace Go.Proofs.YtghmbpmaafnodaaDoor
open Go.cn
open Nat (reduceAdd reduceLeDiff)
def JC{n:Nat}(R:qZ n){H0 H:ae}{r:Nat}{T:List Tok}{au:ad}{s:an}(c:bQ H0 r T au s)(x:aP H0 H)(B:H.get H0.next=D (.row U 11 [[I J 0,I J 0,Y [],Y [],I J 0,.az,I J 0,I J 0,I J 0,I J 0,I J 0]])){b:Nat}(aa:H0.next<b)(F:H.get b=D (.row U 4 [[I J (al T s.at_).kind,Y (al T s.at_).text,I J (al T s.at_).n,I J (al T s.at_).pos]])){z:aJ}{s':an}(h:(bif aZ T (bq T s).2 [40]then(iH T n (bq T s).2).bind λp=>D (.mk {kind:=7,name:=(bq T s).1,pos:=(al T s.at_).pos} p.1,p.2)else D (.mk {kind:=4,name:=(bq T s).1,pos:=(al T s.at_).pos} [],(bq T s).2))=D (z,s')):
  W (lz (aE P aA) (.ptr r 0 0) (.ptr H0.next 0 0) (.ptr b 0 0) H) (dS H0 r T au z s'):=by
 have ab:=c.rd.lt;have ap:=c.bL.one;have Q:=c.aL x;have hle:=x.1;have ak:=ae.aV F;have ag:=ae.aV B;rw[lz];refine aO (nh Q) ?_;rintro _ H1 ⟨rfl,m1,u⟩;refine⟨m1.1,?_⟩;have M:=m1.get B af;have N:=m1.get F af;simp-implicitDefEqProofs(disch:=try exact aj)only[gv,gw,gx,gy,gz,gf,fM,gg,fN,gi,fO,gj,fP,gk,fQ,gl,fR,fS,gm,fT,gn,fU,fV,fq,fr,fs,ft,fu,gp,gq,gr,gu,fL,reduceAdd,reduceLeDiff,reduceIte,ax];refine aO (dA u.rd u.bL [40] (by simp)) ?_;rintro _ y ⟨rfl,e⟩;refine⟨e.1,?_⟩;have j:=e.get M;have d:=e.get N;have ah:=ae.aV j;have am:=ae.aV d;have G:=u.aL e;have w:=((x.mut (· =r)).trans m1).trans (e.mut _);cases E:aZ T (bq T s).2 [40]with
 |false=>
  simp only[E,aK,aS,b5]at h;obtain⟨rfl,rfl⟩:=h;simp-implicitDefEqProofs(disch:=try exact aj)only[gv,gw,gx,gy,gz,gf,fM,gg,fN,gi,fO,gj,fP,gk,fQ,gl,fR,fS,gm,fT,gn,fU,fV,fq,fr,fs,ft,fu,gp,gq,gr,gu,fL,reduceAdd,reduceLeDiff,reduceIte,ax,Bool.not_false,j,d];exact bb.2 (dS.box (a:={kind:=4,name:=(bq T s).1,pos:=(al T s.at_).pos}) (kv:= .az) (lo:=H0.next+1) c w G.rd (bm _) (Nat.lt_succ_self _) (ck.nil _ _) _)
 |true=>
  simp only[E,aR,c1]at h;obtain⟨⟨S,s1⟩,L,A⟩:=h;simp only[aS,b5]at A;obtain⟨rfl,rfl⟩:=A;simp-implicitDefEqProofs(disch:=try exact aj)only[gv,gw,gx,gy,gz,gf,fM,gg,fN,gi,fO,gj,fP,gk,fQ,gl,fR,fS,gm,fT,gn,fU,fV,fq,fr,fs,ft,fu,gp,gq,gr,gu,fL,reduceAdd,reduceLeDiff,reduceIte,ax,Bool.not_true];refine aO (R G S s1 L) ?_;rintro v V ⟨m3,K,o⟩;refine⟨m3.1,?_⟩;have m:=m3.get j af;have q:=m3.get d af;have ai:=ae.aV m;have ao:=ae.aV q;have O:v= .az\/∃l i n cap,v= .aD l i n 11 cap:=by
   rcases o with⟨h,_⟩|⟨l,i,cap,ro,els,h,_⟩|⟨l,i,cap,h,_⟩
   ·exact .inl h
   ·exact .inr ⟨_,_,_,_,h⟩
   ·exact .inr ⟨_,_,_,_,h⟩
  rcases O with rfl|⟨l,i,k,cap,rfl⟩
  ·simp-implicitDefEqProofs(disch:=try exact aj)only[gv,gw,gx,gy,gz,gf,fM,gg,fN,gi,fO,gj,fP,gk,fQ,gl,fR,fS,gm,fT,gn,fU,fV,fq,fr,fs,ft,fu,gp,gq,gr,gu,fL,reduceAdd,reduceLeDiff,reduceIte,ax,m,q,d];exact bb.2 (dS.box (a:={kind:=7,name:=(bq T s).1,pos:=(al T s.at_).pos}) (kv:= .az) (lo:=y.next) c (w.trans m3) K.rd (bm _) af o _)
  ·simp-implicitDefEqProofs(disch:=try exact aj)only[gv,gw,gx,gy,gz,gf,fM,gg,fN,gi,fO,gj,fP,gk,fQ,gl,fR,fS,gm,fT,gn,fU,fV,fq,fr,fs,ft,fu,gp,gq,gr,gu,fL,reduceAdd,reduceLeDiff,reduceIte,ax,m,q,d];exact bb.2 (dS.box (a:={kind:=7,name:=(bq T s).1,pos:=(al T s.at_).pos}) (kv:= .aD l i k 11 cap) (lo:=y.next) c (w.trans m3) K.rd (bm _) af o _)
def JF{H0 H:ae}{r:Nat}{T:List Tok}{au:ad}{s:an}(c:bQ H0 r T au s)(j:aP H0 H)(d:H.get H0.next=D (.row U 11 [[I J 0,I J 0,Y [],Y [],I J 0,.az,I J 0,I J 0,I J 0,I J 0,I J 0]])){b:Nat}(v:H0.next<b)(e:H.get b=D (.row U 4 [[I J (al T s.at_).kind,Y (al T s.at_).text,I J (al T s.at_).n,I J (al T s.at_).pos]])){k:aJ}{s':an}(h:D (aJ.mk {kind:=1,n:=(al T s.at_).n,pos:=(al T s.at_).pos} [],av s)=D (k,s')):
  W (gv (.ptr r 0 0) H (.ptr b 0 0) (.ptr H0.next 0 0)) (dS H0 r T au k s'):=by
 have w:=c.rd.lt;have p:=c.bL.one;have q:=c.aL j;have hle:=j.1;have y:=ae.aV e;have x:=ae.aV d;have i:=q.rd;have m:=i;unfold bJ at m;have z:=i.lt;obtain⟨m1,l⟩:=e6 i (av s);have o:=(j.mut (· =r)).trans m1;have B:=c.mut o l;have u:=m1.get d af;have A:=m1.get e af;simp only[aS,b5]at h;obtain⟨rfl,rfl⟩:=h;simp-implicitDefEqProofs(disch:=try exact aj)only[gv,gw,gx,gy,gz,gf,fM,gg,fN,gi,fO,gj,fP,gk,fQ,gl,fR,fS,gm,fT,gn,fU,fV,fq,fr,fs,ft,fu,gp,gq,gr,gu,fL,reduceAdd,reduceLeDiff,reduceIte,ax,m,p,d,e];exact bb.2 (dS.box (a:={kind:=1,n:=(al T s.at_).n,pos:=(al T s.at_).pos}) (kv:= .az) (lo:=H0.next+1) c o l (bm _) (Nat.lt_succ_self _) (ck.nil _ _) _)
def Bx{H0 H:ae}{r:Nat}{T:List Tok}{au:ad}{s:an}(c:bQ H0 r T au s)(m:aP H0 H)(d:H.get H0.next=D (.row U 11 [[I J 0,I J 0,Y [],Y [],I J 0,.az,I J 0,I J 0,I J 0,I J 0,I J 0]])){b:Nat}(w:H0.next<b)(e:H.get b=D (.row U 4 [[I J (al T s.at_).kind,Y (al T s.at_).text,I J (al T s.at_).n,I J (al T s.at_).pos]])){o:aJ}{s':an}(h:D (aJ.mk {kind:=2,n:=bif (al T s.at_).text==[116,114,117,101]then 1 else 0,pos:=(al T s.at_).pos} [],av s)=D (o,s')):
  W (gw (aE P aA) (.ptr r 0 0) H (.ptr b 0 0) (.ptr H0.next 0 0)) (dS H0 r T au o s'):=by
 have x:=c.rd.lt;have p:=c.bL.one;have u:=c.aL m;have hle:=m.1;have z:=ae.aV e;have y:=ae.aV d;have j:=u.rd;have k:=j;unfold bJ at k;have A:=j.lt;obtain⟨m1,i⟩:=e6 j (av s);have l:=(m.mut (· =r)).trans m1;have E:=c.mut l i;have v:=m1.get d af;have B:=m1.get e af;simp only[aS,b5]at h;obtain⟨rfl,rfl⟩:=h;cases q:(al T s.at_).text==[116,114,117,101]with
 |true=>
  simp-implicitDefEqProofs(disch:=try exact aj)only[gv,pg,gw,gx,gy,gz,gf,fM,gg,fN,gi,fO,gj,fP,gk,fQ,gl,fR,fS,gm,fT,gn,fU,fV,fq,fr,fs,ft,fu,gp,gq,gr,gu,fL,reduceAdd,reduceLeDiff,reduceIte,ax,k,p,d,e,q];exact bb.2 (dS.box (a:={kind:=2,n:=1,pos:=(al T s.at_).pos}) (kv:= .az) (lo:=H0.next+1) c l i (bm _) (Nat.lt_succ_self _) (ck.nil _ _) _)
 |false=>
  simp-implicitDefEqProofs(disch:=try exact aj)only[gv,pg,gw,gx,gy,gz,gf,fM,gg,fN,gi,fO,gj,fP,gk,fQ,gl,fR,fS,gm,fT,gn,fU,fV,fq,fr,fs,ft,fu,gp,gq,gr,gu,fL,reduceAdd,reduceLeDiff,reduceIte,ax,k,p,d,e,q];exact bb.2 (dS.box (a:={kind:=2,n:=0,pos:=(al T s.at_).pos}) (kv:= .az) (lo:=H0.next+1) c l i (bm _) (Nat.lt_succ_self _) (ck.nil _ _) _)
def JE{H0 H:ae}{r:Nat}{T:List Tok}{au:ad}{s:an}(c:bQ H0 r T au s)(i:aP H0 H)(k:H.get H0.next=D (.row U 11 [[I J 0,I J 0,Y [],Y [],I J 0,.az,I J 0,I J 0,I J 0,I J 0,I J 0]])){b:Nat}(B:H0.next<b)(d:H.get b=D (.row U 4 [[I J (al T s.at_).kind,Y (al T s.at_).text,I J (al T s.at_).n,I J (al T s.at_).pos]])){j:aJ}{s':an}(h:D (aJ.mk {kind:=3,cp:=(cO T (av s)).1.1,c2:=(cO T (av s)).1.2,pos:=(al T s.at_).pos} [],(cO T (av s)).2)=D (j,s')):
  W (gx (aE P aA) (.ptr r 0 0) H (.ptr b 0 0) (.ptr H0.next 0 0)) (dS H0 r T au j s'):=by
 have E:=c.rd.lt;have v:=c.bL.one;have x:=c.aL i;have hle:=i.1;have K:=ae.aV d;have F:=ae.aV k;have e:=x.rd;have o:=e;unfold bJ at o;have M:=e.lt;obtain⟨m1,u⟩:=e6 e (av s);have p:=(i.mut (· =r)).trans m1;have y:=c.mut p u;have q:=m1.get k af;have w:=m1.get d af;simp only[aS,b5]at h;obtain⟨rfl,rfl⟩:=h;simp-implicitDefEqProofs(disch:=try exact aj)only[gv,gw,gx,gy,gz,gf,fM,gg,fN,gi,fO,gj,fP,gk,fQ,gl,fR,fS,gm,fT,gn,fU,fV,fq,fr,fs,ft,fu,gp,gq,gr,gu,fL,reduceAdd,reduceLeDiff,reduceIte,ax,o,v];refine aO (si y) ?_;rintro _ A ⟨rfl,m2,z⟩;refine⟨m2.1,?_⟩;have l:=m2.get q af;have m:=m2.get w af;have G:=ae.aV l
 have L:=ae.aV m;simp-implicitDefEqProofs(disch:=try exact aj)only[gv,gw,gx,gy,gz,gf,fM,gg,fN,gi,fO,gj,fP,gk,fQ,gl,fR,fS,gm,fT,gn,fU,fV,fq,fr,fs,ft,fu,gp,gq,gr,gu,fL,reduceAdd,reduceLeDiff,reduceIte,ax,l,m,d];exact bb.2 (dS.box (a:={kind:=3,cp:=(cO T (av s)).1.1,c2:=(cO T (av s)).1.2,pos:=(al T s.at_).pos}) (kv:= .az) (lo:=H0.next+1) c (p.trans m2) z.rd (bm _) (Nat.lt_succ_self _) (ck.nil _ _) _)
def JD{n:Nat}(B:q3 n){H0 H:ae}{r:Nat}{T:List Tok}{au:ad}{s:an}(a:bQ H0 r T au s)(i:aP H0 H)(j:H.get H0.next=D (.row U 11 [[I J 0,I J 0,Y [],Y [],I J 0,.az,I J 0,I J 0,I J 0,I J 0,I J 0]])){b:Nat}(F:H0.next<b)(d:H.get b=D (.row U 4 [[I J (al T s.at_).kind,Y (al T s.at_).text,I J (al T s.at_).n,I J (al T s.at_).pos]])){c:aJ}{s':an}(h:kY T n (al T s.at_).pos (av s)=D (c,s')):
  W (gy (aE P aA) (.ptr r 0 0) H (.ptr b 0 0) (.ptr H0.next 0 0)) (dS H0 r T au c s'):=by
 have G:=a.rd.lt;have u:=a.bL.one;have y:=a.aL i;have hle:=i.1;have M:=ae.aV d;have K:=ae.aV j;have e:=y.rd;have m:=e;unfold bJ at m;have N:=e.lt;obtain⟨m1,q⟩:=e6 e (av s);have o:=(i.mut (· =r)).trans m1;have z:=a.mut o q;have p:=m1.get j af;have Q:=m1.get d af;simp-implicitDefEqProofs(disch:=try exact aj)only[gv,gw,gx,gy,gz,gf,fM,gg,fN,gi,fO,gj,fP,gk,fQ,gl,fR,fS,gm,fT,gn,fU,fV,fq,fr,fs,ft,fu,gp,gq,gr,gu,fL,reduceAdd,reduceLeDiff,reduceIte,ax,m,u,d];refine aO (B z _ c s' h) ?_;rintro v E ⟨m2,A,l⟩;refine⟨m2.1,?_⟩;have k:=m2.get p af;have L:=ae.aV k;have O:=m1.1;obtain⟨cs,rfl,hlen,w⟩:=l.cells;have x:List.take 11 cs=cs:=List.take_of_length_le af
 simp-implicitDefEqProofs(disch:=try exact aj)only[gv,gw,gx,gy,gz,gf,fM,gg,fN,gi,fO,gj,fP,gk,fQ,gl,fR,fS,gm,fT,gn,fU,fV,fq,fr,fs,ft,fu,gp,gq,gr,gu,fL,reduceAdd,reduceLeDiff,reduceIte,ax,k,hlen,w,List.append_nil,x];exact bb.2 (dS.ret a (o.trans m2) A.rd (bm _) l af _)
def first_par{n:Nat}(u:nZ n){H0 H:ae}{r:Nat}{T:List Tok}{au:ad}{s:an}(a:bQ H0 r T au s)(d:aP H0 H)(e:H.get H0.next=D (.row U 11 [[I J 0,I J 0,Y [],Y [],I J 0,.az,I J 0,I J 0,I J 0,I J 0,I J 0]])){b:Nat}(y:H0.next<b)(m:H.get b=D (.row U 4 [[I J (al T s.at_).kind,Y (al T s.at_).text,I J (al T s.at_).n,I J (al T s.at_).pos]])){c:aJ}{s':an}(h:hC T n s=D (c,s')):
  W (fM (aE P aA) H (.ptr r 0 0) (.ptr H0.next 0 0)) (dS H0 r T au c s'):=by
 have z:=a.rd.lt;have G:=a.bL.one;have p:=a.aL d;have hle:=d.1;have E:=ae.aV m;have A:=ae.aV e;have w:=d.mut (· =r);have m1:=c7.refl (· =r) H;have k:=e;rw[fM];refine aO (u p c s' h) ?_;rintro v x ⟨m2,q,j⟩;refine⟨m2.1,?_⟩;have i:=m2.get k af;have B:=ae.aV i;have F:=m1.1;obtain⟨cs,rfl,hlen,l⟩:=j.cells;have o:List.take 11 cs=cs:=List.take_of_length_le af;simp-implicitDefEqProofs(disch:=try exact aj)only[gv,gw,gx,gy,gz,gf,fM,gg,fN,gi,fO,gj,fP,gk,fQ,gl,fR,fS,gm,fT,gn,fU,fV,fq,fr,fs,ft,fu,gp,gq,gr,gu,fL,reduceAdd,reduceLeDiff,reduceIte,ax,i,hlen,l,List.append_nil,o];exact bb.2 (dS.ret a (w.trans m2) q.rd (bm _) j af _)
def JG{H0 H:ae}{r:Nat}{T:List Tok}{au:ad}{s:an}(c:bQ H0 r T au s)(e:aP H0 H)(j:H.get H0.next=D (.row U 11 [[I J 0,I J 0,Y [],Y [],I J 0,.az,I J 0,I J 0,I J 0,I J 0,I J 0]])){b:Nat}(F:H0.next<b)(l:H.get b=D (.row U 4 [[I J (al T s.at_).kind,Y (al T s.at_).text,I J (al T s.at_).n,I J (al T s.at_).pos]])){i:aJ}{s':an}(h:D (aJ.mk {kind:=11,pos:=(al T s.at_).pos} [],dm T [41] (ct T [40] (av s)))=D (i,s')):
  W (gf (aE P aA) (.ptr r 0 0) H (.ptr b 0 0) (.ptr H0.next 0 0)) (dS H0 r T au i s'):=by
 have G:=c.rd.lt;have v:=c.bL.one;have x:=c.aL e;have hle:=e.1;have M:=ae.aV l;have K:=ae.aV j;have d:=x.rd;have o:=d;unfold bJ at o;have O:=d.lt;obtain⟨m1,u⟩:=e6 d (av s);have p:=(e.mut (· =r)).trans m1;have y:=c.mut p u;have q:=m1.get j af;have w:=m1.get l af;simp only[aS,b5]at h;obtain⟨rfl,rfl⟩:=h;simp-implicitDefEqProofs(disch:=try exact aj)only[gv,gw,gx,gy,gz,gf,fM,gg,fN,gi,fO,gj,fP,gk,fQ,gl,fR,fS,gm,fT,gn,fU,fV,fq,fr,fs,ft,fu,gp,gq,gr,gu,fL,reduceAdd,reduceLeDiff,reduceIte,ax,o,v];refine aO (qi y [40] (by simp)) ?_;rintro _ B ⟨rfl,m2,z⟩;refine⟨m2.1,?_⟩;simp-implicitDefEqProofs(disch:=try exact aj)only[gv,gw,gx,gy,gz,gf,fM,gg,fN,gi,fO,gj,fP,gk,fQ,gl,fR,fS,gm,fT,gn,fU,fV,fq,fr,fs,ft,fu,gp,gq,gr,gu,fL,reduceAdd,reduceLeDiff,reduceIte,ax]
 refine aO (qe z [41] (by simp)) ?_;rintro _ E ⟨rfl,m3,A⟩;refine⟨m3.1,?_⟩;have k:=m3.get (m2.get q af) af;have m:=m3.get (m2.get w af) af;have L:=ae.aV k;have N:=ae.aV m;simp-implicitDefEqProofs(disch:=try exact aj)only[gv,gw,gx,gy,gz,gf,fM,gg,fN,gi,fO,gj,fP,gk,fQ,gl,fR,fS,gm,fT,gn,fU,fV,fq,fr,fs,ft,fu,gp,gq,gr,gu,fL,reduceAdd,reduceLeDiff,reduceIte,ax,k,m];exact bb.2 (dS.box (a:={kind:=11,pos:=(al T s.at_).pos}) (kv:= .az) (lo:=H0.next+1) c ((p.trans m2).trans m3) A.rd (bm _) (Nat.lt_succ_self _) (ck.nil _ _) _)
def JB{n:Nat}(Q:nZ n){H0 H:ae}{r:Nat}{T:List Tok}{au:ad}{s:an}(d:bQ H0 r T au s)(i:aP H0 H)(m:H.get H0.next=D (.row U 11 [[I J 0,I J 0,Y [],Y [],I J 0,.az,I J 0,I J 0,I J 0,I J 0,I J 0]])){b:Nat}(V:H0.next<b)(e:H.get b=D (.row U 4 [[I J (al T s.at_).kind,Y (al T s.at_).text,I J (al T s.at_).n,I J (al T s.at_).pos]])){j:aJ}{s':an}(h:((hC T n (av s)).bind λp=>D (aJ.mk {kind:=10,pos:=(al T s.at_).pos} [p.1],p.2))=D (j,s')):
  W (gz (aE P aA) (.ptr r 0 0) H (.ptr b 0 0) (.ptr H0.next 0 0)) (dS H0 r T au j s'):=by
 have aa:=d.rd.lt;have G:=d.bL.one;have M:=d.aL i;have hle:=i.1;have ah:=ae.aV e;have ab:=ae.aV m;have c:=M.rd;have w:=c;unfold bJ at w;have ak:=c.lt;obtain⟨m1,F⟩:=e6 c (av s);have y:=(i.mut (· =r)).trans m1;have N:=d.mut y F;have E:=m1.get m af;have L:=m1.get e af;simp only[c1]at h;obtain⟨⟨A,s1⟩,B,k⟩:=h;simp only[aS,b5]at k;obtain⟨rfl,rfl⟩:=k;simp-implicitDefEqProofs(disch:=try exact aj)only[gv,gw,gx,gy,gz,gf,fM,gg,fN,gi,fO,gj,fP,gk,fQ,gl,fR,fS,gm,fT,gn,fU,fV,fq,fr,fs,ft,fu,gp,gq,gr,gu,fL,reduceAdd,reduceLeDiff,reduceIte,ax,w,G];refine aO (Q N A s1 B) ?_;rintro v z ⟨m2,O,q⟩;refine⟨m2.1,?_⟩;have o:=m2.get E af
 have u:=m2.get L af;have ag:=ae.aV o;have ai:=ae.aV u;have am:=m1.1;have ao:=m2.1;obtain⟨cs,rfl,hlen,K⟩:=q.cells;have ap:List.take 11 cs=cs:=List.take_of_length_le af;have aB:∀l,b6 P l 41 1 [(0,.agg cs)]=D (.aD l 0 1 11 (D 1),.row U 11 [cs]):=λl=>j1 l cs hlen K
 have R:=y.trans m2;have x:=O.rd;unfold bJ at x;have c:=x;simp-implicitDefEqProofs(disch:=try exact aj)only[gv,gw,gx,gy,gz,gf,fM,gg,fN,gi,fO,gj,fP,gk,fQ,gl,fR,fS,gm,fT,gn,fU,fV,fq,fr,fs,ft,fu,gp,gq,gr,gu,fL,reduceAdd,reduceLeDiff,reduceIte,ax,aB,o,u,e];refine bb.2 ?_;refine kP.fin (ok:=bn H0.next) (a:={kind:=10,pos:=(al T s.at_).pos}) (kv:= .aD z.next 0 1 11 (D 1)) (s':=s1) d ?_ ?_ (ck.oH (ro:=false) ?_ (by unfold bn;omega) (q.new ?_ λl h=>by unfold bn;omega))
 ·(repeat (first|exact R|refine c7.bI ?_ _|refine c7.cW (S:=(· =r)) ?_ (.inl rfl) _|refine c7.cW ?_ (.inr (by(first|omega|(simp only[ae.b8,ae.dz];omega)))) _))
 ·(unfold bJ;simp-implicitDefEqProofs(disch:=try exact aj)only[dO,c,av,dQ,eB])
 ·simp-implicitDefEqProofs(disch:=try exact aj)only[dO]
 ·exact c7.cW (S:=λl=>l<_) ((c7.refl _ _).bI _) (.inl af) _
def JH{n:Nat}(aa:q3 n)(O:nZ n)(V:qZ n){H0 H:ae}{r:Nat}{T:List Tok}{au:ad}{s:an}(a:bQ H0 r T au s)(d:aP H0 H)(R:H.get H0.next=D (.row U 11 [[I J 0,I J 0,Y [],Y [],I J 0,.az,I J 0,I J 0,I J 0,I J 0,I J 0]])){b:Nat}(c:H0.next<b)(S:H.get b=D (.row U 4 [[I J (al T s.at_).kind,Y (al T s.at_).text,I J (al T s.at_).n,I J (al T s.at_).pos]])){q:aJ}{s':an}(h:(bif aZ T s [110,117,108,108]then D (.mk {kind:=3,cp:=(cO T (av s)).1.1,c2:=(cO T (av s)).1.2,pos:=(al T s.at_).pos} [],(cO T (av s)).2)else(bif aZ T s [110,101,119]then kY T n (al T s.at_).pos (av s)else(bif aZ T s [108,101,110]then(hC T n (av s)).bind λp=>D (.mk {kind:=10,pos:=(al T s.at_).pos} [p.1],p.2)else(bif aZ T s [114,101,97,100]then D (.mk {kind:=11,pos:=(al T s.at_).pos} [],dm T [41] (ct T [40] (av s)))else(bif aZ T s [40]then hC T n s else(bif aZ T (bq T s).2 [40]then(iH T n (bq T s).2).bind λp=>D (.mk {kind:=7,name:=(bq T s).1,pos:=(al T s.at_).pos} p.1,p.2)else D (.mk {kind:=4,name:=(bq T s).1,pos:=(al T s.at_).pos} [],(bq T s).2)))))))=D (q,s')):
  W (fS (aE P aA) H (.ptr r 0 0) (.ptr b 0 0) (.ptr H0.next 0 0)) (dS H0 r T au q s'):=by
 have ak:=a.aL d;rw[fS];refine aO (dA (a.rd.aL d) (a.bL.aL d) [110,117,108,108] (by simp)) ?_;rintro _ ab ⟨rfl,gI⟩;refine⟨gI.1,?_⟩;have e:=d.trans gI;have z:=gI.get R;have G:=gI.get S;cases u:aZ T s [110,117,108,108]with
 |true=>
  simp only[u,aR]at h;simp-implicitDefEqProofs(disch:=try exact aj)only[fR,eE,aR];exact JE a e z c G h
 |false=>
  simp only[u,aK]at h;simp-implicitDefEqProofs(disch:=try exact aj)only[fR,eE,aK];rw[gl];refine aO (dA (a.rd.aL e) (a.bL.aL e) [110,101,119] (by simp)) ?_;rintro _ af ⟨rfl,aT⟩;refine⟨aT.1,?_⟩;have i:=e.trans aT;have A:=aT.get z;have K:=aT.get G;cases v:aZ T s [110,101,119]with
  |true=>
   simp only[v,aR]at h;simp-implicitDefEqProofs(disch:=try exact aj)only[fQ,eE,aR];exact JD aa a i A c K h
  |false=>
   simp only[v,aK]at h;simp-implicitDefEqProofs(disch:=try exact aj)only[fQ,eE,aK];rw[gk];refine aO (dA (a.rd.aL i) (a.bL.aL i) [108,101,110] (by simp)) ?_;rintro _ ag ⟨rfl,l⟩;refine⟨l.1,?_⟩;have j:=i.trans l;have B:=l.get A;have L:=l.get K;cases w:aZ T s [108,101,110]with
   |true=>
    simp only[w,aR]at h;simp-implicitDefEqProofs(disch:=try exact aj)only[fP,eE,aR];exact JB O a j B c L h
   |false=>
    simp only[w,aK]at h;simp-implicitDefEqProofs(disch:=try exact aj)only[fP,eE,aK];rw[gj];refine aO (dA (a.rd.aL j) (a.bL.aL j) [114,101,97,100] (by simp)) ?_;rintro _ ah ⟨rfl,m⟩;refine⟨m.1,?_⟩;have k:=j.trans m;have E:=m.get B;have M:=m.get L;cases x:aZ T s [114,101,97,100]with
    |true=>
     simp only[x,aR]at h;simp-implicitDefEqProofs(disch:=try exact aj)only[fO,eE,aR];exact JG a k E c M h
    |false=>
     simp only[x,aK]at h;simp-implicitDefEqProofs(disch:=try exact aj)only[fO,eE,aK];rw[gi];refine aO (dA (a.rd.aL k) (a.bL.aL k) [40] (by simp)) ?_;rintro _ ai ⟨rfl,o⟩;refine⟨o.1,?_⟩;have Q:=k.trans o;have F:=o.get E;have N:=o.get M;cases y:aZ T s [40]with
     |true=>
      simp only[y,aR]at h;simp-implicitDefEqProofs(disch:=try exact aj)only[fN,eE,aR];exact first_par O a Q F c N h
     |false=>
      simp only[y,aK]at h;simp-implicitDefEqProofs(disch:=try exact aj)only[fN,eE,aK];rw[gg];exact JC V a Q F c N h
def JI{n:Nat}(M:q3 n)(N:nZ n)(L:qZ n):vk (n+1):=by
 intro H r T au s a e s' h;refine cG (λ_=>MU 0) ?_;have S:=a.rd.lt;simp only[ih]at h;have o:=aP.push H (.row U 11 [[I J 0,I J 0,Y [],Y [],I J 0,.az,I J 0,I J 0,I J 0,I J 0,I J 0]]);simp-implicitDefEqProofs(disch:=try exact aj)only[fL,gu,reduceAdd,reduceLeDiff,reduceIte,ax];refine aO (h3 (a.rd.aL o) (a.bL.aL o)) ?_;rintro _ l ⟨rfl,p⟩;refine⟨p.1,?_⟩;have G:=p.get (ae.bM H _);have V:=ae.aV G;simp-implicitDefEqProofs(disch:=try exact aj)only[gr,gq,reduceAdd,reduceLeDiff,reduceIte,ax,Tok.v];have F:=p.bI (.row U 4 [[I J (al T s.at_).kind,Y (al T s.at_).text,I J (al T s.at_).n,I J (al T s.at_).pos]])
 have z:=ae.bM l (.row U 4 [[I J (al T s.at_).kind,Y (al T s.at_).text,I J (al T s.at_).n,I J (al T s.at_).pos]]);have w:=F.get (ae.bM H _);have c:=o.trans F;rw[gp];refine aO (k9 (a.rd.aL c)) ?_;rintro _ O ⟨rfl,rfl⟩;refine⟨bm _,?_⟩;have rest:(s.ak==0&&(al T s.at_).kind==2)=U->W (fV (aE P aA) (l.push (.row U 4 [[I J (al T s.at_).kind,Y (al T s.at_).text,I J (al T s.at_).n,I J (al T s.at_).pos]])) (.ptr r 0 0) (.ptr H.next 0 0) (.ptr l.next 0 0)) (dS H r T au e s'):=by
  intro K;simp only[K,aK]at h;rw[fV];refine aO (dA (a.rd.aL c) (a.bL.aL c) [116,114,117,101] (by simp)) ?_;rintro _ Q ⟨rfl,j⟩;refine⟨j.1,?_⟩;have i:=c.trans j;have x:=j.get w;have A:=j.get z;cases q:aZ T s [116,114,117,101]with
  |true=>
   simp only[q,Bool.true_or,aR]at h;simp-implicitDefEqProofs(disch:=try exact aj)only[fU,gm,nL,eE,aR];exact Bx a i x af A h
  |false=>
   simp only[q,Bool.false_or]at h;simp-implicitDefEqProofs(disch:=try exact aj)only[fU,gn,eE,aK];refine aO (dA (a.rd.aL i) (a.bL.aL i) [102,97,108,115,101] (by simp)) ?_;rintro _ R ⟨rfl,k⟩;refine⟨k.1,?_⟩;have E:=i.trans k;have y:=k.get x;have B:=k.get A;cases u:aZ T s [102,97,108,115,101]with
   |true=>
    simp only[u,aR]at h;simp-implicitDefEqProofs(disch:=try exact aj)only[fT,nL,eE,aR];exact Bx a E y af B h
   |false=>
    simp only[u,aK]at h;simp-implicitDefEqProofs(disch:=try exact aj)only[fT,nL,eE,aK];exact JH M N L a E y af B h
 cases m:s.ak==0 with
 |false=>
  simp-implicitDefEqProofs(disch:=try exact aj)only[fu,ft,fs,fr,fq,reduceAdd,reduceLeDiff,reduceIte,ax];exact rest (by simp[m])
 |true=>
  cases d:(al T s.at_).kind==2 with
  |true=>
   simp only[m,d,Bool.and_self,aR]at h;simp-implicitDefEqProofs(disch:=try exact aj)only[fu,ft,fs,fr,fq,reduceAdd,reduceLeDiff,reduceIte,ax,d];exact JF a c w af z h
  |false=>
   simp-implicitDefEqProofs(disch:=try exact aj)only[fu,ft,fs,fr,fq,reduceAdd,reduceLeDiff,reduceIte,ax,d];exact rest (by simp[m,d])
def y3:∀n,n<=900000000->∀k,k<=n->Hp k
 |0,_,k,a=>by
  have:k=0:=af;subst this;exact⟨λ_ _ _ _ _ h=>by simp[eA]at h,λ_ _ _ h=>by simp[j4]at h,λ_ _ _ _ _ _ h=>by simp[fC]at h,λ_ _ _ h=>by simp[hC]at h,λ_ _ _ h=>by simp[ih]at h,
   λ_ _ _ _ h=>by simp[kY]at h,λ_ _ _ h=>by simp[iH]at h⟩
 |n+1,d,k,a=>by
  have c:=y3 n af;have i:=c n (bm _);rcases Nat.lt_or_ge k (n+1)with h|h
  ·exact c k af
  ·have:k=n+1:=af;subst this;exact⟨Jr (λk a=>(c k a).expr) i.unary,PX (λk a=>(c k a).expr) i.first i.behind,IS λk a=>(c k a).expr,Kj i.expr,JI i.fresh i.inner i.args,JT i.inner,IE af λk a=>(c k a).expr⟩
section
set_option maxRecDepth 100000
noncomputable section
end
end
mutual
def db(B:Nat):aJ->Prop
 | .mk _ ks=>ks.length<=B/\dG B ks
def dG(B:Nat):List aJ->Prop
 |[]=>True
 |e::es=>db B e/\dG B es
end
def ck.eb{H:ae}{ok:Nat->Prop}{ks:List aJ}{kv:ad}(h:ck H ok ks kv):kv.one=true:=by
 rcases h with⟨rfl,_⟩|⟨l,i,cap,ro,els,rfl,_⟩|⟨l,i,cap,rfl,_⟩<;>rfl
def ck.aL{H H':ae}{ok:Nat->Prop}{ks:List aJ}{kv:ad}(h:ck H ok ks kv)(p:aP H H'):ck H' ok ks kv:=h.aW (dp.aL p λ_ h=>h)
def cJ.aL{H H':ae}{ok:Nat->Prop}{e:aJ}{v:ad}(h:cJ H ok e v)(p:aP H H'):cJ H' ok e v:=cJ.aW (dp.aL p λ_ h=>h) e v h
def dv.cons{H:ae}{ok:Nat->Prop}{e:aJ}{es:List aJ}{els:List (List ad)}{k:Nat}(h:dv H ok (e::es) (els.drop k)):∃cs,els[k]? =D cs/\cJ H ok e (.agg cs)/\dv H ok es (els.drop (k+1)):=by
 cases a:els.drop k with
 |nil=>rw[a,dv]at h;exact h.elim
 |cons cs css=>
  rw[a,dv]at h;have c:els[k]? =D cs:=by
   have:=List.getElem?_drop (xs:=els) (i:=k) (j:=0);rw[a]at this;simpa using this.symm
  have d:els.drop (k+1)=css:=by
   have:(els.drop k).drop 1=css:=by rw[a];rfl
   rwa[List.drop_drop]at this
  exact⟨cs,c,h.1,by rw[d];exact h.2⟩
section
set_option maxRecDepth 100000
noncomputable section
def nA(G:ay)(N:Nat)(ag a:ad)(H:ae):O:=j (ao P .lss 3 X ag (I J 0)) λc=>aU (D c) (j (ao P .add 9 X (Y [45]) a) λd=>D (d,H)) (D (a,H))
def Oh(G:ay)(N:Nat):∀aa H,bl P G N (o (o (o (o (bs Tryd.f48))))) (bf Tryd.f48) [] (bf Tryd.f48) aa H=nA G N (aa 0) (aa 3) H:=by
 refine bC (aF _) λaa H=> ?_
 delta nA;kernel_rfl
def o5(G:ay)(N:Nat)(a:ad->ad->ad->ae->O)(ag d e:ad)(H:ae):O:=j (ao P .quo 3 X e (I J 10)) λc=>a ag d c H
def Oi(G:ay)(N:Nat)(a:ad->ad->ad->ae->O):∀aa H,bl P G N (o (o (aN (aN (o (aN (o (o (o (bs Tryd.f48)))))))))) (λaa H=>a (aa 0) (aa 3) (aa 4) H) [(0,(λaa H=>nA G N (aa 0) (aa 3) H))] (bf Tryd.f48) aa H=o5 G N a (aa 0) (aa 3) (aa 4) H:=by
 refine bC (aF _) λaa H=> ?_
 delta o5;kernel_rfl
def qE(G:ay)(N:Nat)(c:ad->ad->ad->ae->O)(ag l:ad)(m n:ad)(H:ae):O:=j (ao P .add 3 X (I J 48) n) λd=>qX P 3 5 d H λe=>b1 H (b6 P (H).next 77 1 [(0,e)]) λh a=>qX P 77 9 h a λi=>j (ao P .add 9 U i l) λk=>o5 G N c ag k m a
def Oj(G:ay)(N:Nat)(a:ad->ad->ad->ae->O):∀aa H,bl P G N (o (o (aN (aN (o (aN (aN (o (aN (o (o (o (bs Tryd.f48))))))))))))) (λaa H=>o5 G N a (aa 0) (aa 3) (aa 4) H) [(1,(λaa H=>o5 G N a (aa 0) (aa 3) (aa 4) H)),(0,(λaa H=>nA G N (aa 0) (aa 3) H))] (bf Tryd.f48) aa H=qE G N a (aa 0) (aa 3) (aa 4) (aa 5) H:=by
 refine bC (aF _) λaa H=> ?_
 delta qE;generalize o5 G N a=c;revert c;refine id ?_;intro c;kernel_rfl
def sr(G:ay)(N:Nat)(e:ad->ad->ad->ae->O)(ag d a:ad)(H:ae):O:=j (ao P .neq 3 X a (I J 0)) λh=>aU (D h) (j (ao P .rem 3 X a (I J 10)) λc=>j (ao P .lss 3 X c (I J 0)) λbS=>aU (D bS) (j (ao P .sub 3 X (I J 0) c) λi=>qE G N e ag d a i H) (qE G N e ag d a c H)) (nA G N ag d H)
def nB(G:ay)(N:Nat):Nat->ad->ad->ad->ae->O
 |0,_,_,_,_=>Z
 |n+1,ag,a,c,H=>sr G N (nB G N n) ag a c H
def Og(G:ay)(N:Nat)(a:ad->ad->ad->ae->O):∀aa H,bl P G N (aN (aN (o (aN (o (o (o (bs Tryd.f48)))))))) (λaa H=>a (aa 0) (aa 3) (aa 4) H) [(0,(λaa H=>nA G N (aa 0) (aa 3) H))] (bf Tryd.f48) aa H=sr G N a (aa 0) (aa 3) (aa 4) H:=by
 refine bC ((aM ah ((aM ah (Oi G N a) ((cX ah ((aM ah ((aM ah (Oj G N a) (aF _))) (aF _))))))) (aF _))) λaa H=> ?_
 delta sr;generalize nA G N=c;generalize qE G N a=d;revert c d;refine id ?_;intro c d;kernel_rfl
def uK(G:ay)(N:Nat)(ag:ad)(H:ae):O:=j (ao P .eql 3 X ag (I J 0)) λa=>aU (D a) (D ((Y [48]),H)) (nB G N N ag (Y []) ag H)
def Mv(N:Nat){ag:ad}{H:ae}{r:ad×ae}(h:uK (aE P aA) N ag H=D r):aE P aA 48 [ag] H=D r:=cS N (S:=λG=>uK G N ag H) Tryd.func48 (λG=>dX ((aM ah ((aM ah ((aM ah ((aM ah (Oh G N) ((aM ah ((cX ah ((dW (k:=λm aa H=>nB G N m (aa 0) (aa 3) (aa 4) H) ah (λaa H=>ah) (λm=>Og G N (nB G N m)))))) (aF _))))) (aF _))) (aF _))) (aF _))) (by delta uK;generalize nB G N N=a;revert a;refine id ?_;intro a;kernel_rfl)) h
def jy(G:ay)(H:ae):O:=some ((I J 7),H)
def Ok(G:ay)(N:Nat):∀aa H,bl P G N (o (o (bs Tryd.f50))) (bf Tryd.f50) [] (bf Tryd.f50) aa H=jy G H:=by
 refine bC (aF _) λaa H=> ?_
 delta jy;kernel_rfl
def qG(G:ay)(a:ad)(H:ae):O:=aU (D a) (D ((I J 6),H)) (jy G H)
def Oo(G:ay)(N:Nat):∀aa H,bl P G N (o (o (o (o (o (o (o (o (o (o (o (aN (o (aN (o (bs Tryd.f50)))))))))))))))) (λaa H=>jy G H) [(0,(λaa H=>jy G H))] (bf Tryd.f50) aa H=qG G (aa 21) H:=by
 refine bC (aF _) λaa H=> ?_
 delta qG;generalize jy G=a;revert a;refine id ?_;intro a;kernel_rfl
def o6(G:ay)(c d:ad)(H:ae):O:=aU (D d) (D ((I J 5),H)) (j (ao P .eql 3 X c (I J 12)) λa=>aU (D a) (qG G a H) (j (ao P .eql 3 X c (I J 13)) λe=>qG G e H))
def On(G:ay)(N:Nat):∀aa H,bl P G N (o (o (o (o (o (o (o (o (o (aN (o (aN (o (bs Tryd.f50)))))))))))))) (λaa H=>jy G H) [(0,(λaa H=>jy G H))] (bf Tryd.f50) aa H=o6 G (aa 4) (aa 17) H:=by
 refine bC ((dt ah (aF _) ((aM ah (Oo G N) (aF _))))) λaa H=> ?_
 delta o6;generalize qG G=a;revert a;refine id ?_;intro a;kernel_rfl
def qF(G:ay)(a e:ad)(H:ae):O:=aU (D e) (D ((I J 4),H)) (j (ao P .eql 3 X a (I J 16)) λc=>aU (D c) (o6 G a c H) (j (ao P .eql 3 X a (I J 17)) λd=>aU (D d) (o6 G a d H) (j (ao P .eql 3 X a (I J 18)) λh=>o6 G a h H)))
def Om(G:ay)(N:Nat):∀aa H,bl P G N (o (o (o (o (o (o (o (aN (o (aN (o (bs Tryd.f50)))))))))))) (λaa H=>jy G H) [(0,(λaa H=>jy G H))] (bf Tryd.f50) aa H=qF G (aa 4) (aa 14) H:=by
 refine bC ((dt ah (aF _) ((aM ah (On G N) (aF _))))) λaa H=> ?_
 delta qF;generalize o6 G=a;revert a;refine id ?_;intro a;kernel_rfl
def nC(G:ay)(a d:ad)(H:ae):O:=aU (D d) (D ((I J 3),H)) (j (ao P .eql 3 X a (I J 14)) λc=>aU (D c) (qF G a c H) (j (ao P .eql 3 X a (I J 15)) λbS=>qF G a bS H))
def Ol(G:ay)(N:Nat):∀aa H,bl P G N (o (o (o (o (o (aN (o (aN (o (bs Tryd.f50)))))))))) (λaa H=>jy G H) [(0,(λaa H=>jy G H))] (bf Tryd.f50) aa H=nC G (aa 4) (aa 9) H:=by
 refine bC ((dt ah (aF _) ((aM ah (Om G N) (aF _))))) λaa H=> ?_
 delta nC;generalize qF G=a;revert a;refine id ?_;intro a;kernel_rfl
def uM(G:ay)(ag:ad)(H:ae):O:=b1 H (d_ (H).next ag) λar c=>j (aH P 45 ar 0) λk=>j (aq P c 3 k) λa=>j (ao P .eql 3 X a (I J 24)) λba=>aU (D ba) (D ((I J 1),c)) (j (ao P .eql 3 X a (I J 23)) λl=>aU (D l) (D ((I J 2),c)) (j (ao P .eql 3 X a (I J 19)) λd=>aU (D d) (nC G a d c) (j (ao P .eql 3 X a (I J 20)) λe=>aU (D e) (nC G a e c) (j (ao P .eql 3 X a (I J 21)) λh=>aU (D h) (nC G a h c) (j (ao P .eql 3 X a (I J 22)) λi=>nC G a i c)))))
def Mx(N:Nat){ag:ad}{H:ae}{r:ad×ae}(h:uM (aE P aA) ag H=D r):aE P aA 50 [ag] H=D r:=cS N (S:=λG=>uM G ag H) Tryd.func50 (λG=>dX ((aM ah ((aM ah (Ok G N) ((aM ah ((cX ah ((aM ah ((dt ah (aF _) ((aM ah ((dt ah (aF _) ((aM ah (Ol G N) (aF _))))) (aF _))))) (aF _))))) (aF _))))) (aF _))) (by delta uM;generalize nC G=a;revert a;refine id ?_;intro a;kernel_rfl)) h
def uN(G:ay)(ag:ad)(H:ae):O:=b1 H (D (.aD (H).next 0 11 1 (D 11),.row U 1 [[Y [43]],[Y [45]],[Y [42]],[Y [47]],[Y [37]],[Y [60]],[Y [60,61]],[Y [61,61]],[Y [33,61]],[Y [38,38]],[Y [124,124]]])) λc a=>j (ao P .sub 3 X ag (I J 14)) λd=>j (cl P 50 c d) λe=>j (aq P a 9 e) λh=>D (h,a)
def My(N:Nat){ag:ad}{H:ae}{r:ad×ae}(h:uN (aE P aA) ag H=D r):aE P aA 51 [ag] H=D r:=cS N (S:=λG=>uN G ag H) Tryd.func51 (λ_=>by delta uN;kernel_rfl) h
def qw(G:ay)(N:Nat)(a:ad)(H:ae):O:=some (a,H)
def NU(G:ay)(N:Nat):∀aa H,bl P G N (o (o (o (bs Tryd.f34)))) (bf Tryd.f34) [] (bf Tryd.f34) aa H=qw G N (aa 3) H:=by
 refine bC (aF _) λaa H=> ?_
 delta qw;kernel_rfl
def sl(G:ay)(N:Nat)(d:ad->ad->ad->ae->O)(ar a c:ad)(H:ae):O:=j (aH P 40 ar 1) λl=>j (aq P H 3 l) λm=>j (ao P .lss 3 U c m) λe=>aU (D e) (j (ao P .add 9 X (Y [91]) a) λi=>j (ao P .add 9 X i (Y [93])) λk=>j (ao P .add 3 X c (I J 1)) λh=>d ar k h H) (qw G N a H)
def nv(G:ay)(N:Nat):Nat->ad->ad->ad->ae->O
 |0,_,_,_,_=>Z
 |n+1,ar,a,c,H=>sl G N (nv G N n) ar a c H
def NT(G:ay)(N:Nat)(c:ad->ad->ad->ae->O):∀aa H,bl P G N (aN (aN (o (aN (o (o (bs Tryd.f34))))))) (λaa H=>c (aa 1) (aa 3) (aa 4) H) [(0,(λaa H=>qw G N (aa 3) H))] (bf Tryd.f34) aa H=sl G N c (aa 1) (aa 3) (aa 4) H:=by
 refine bC (aF _) λaa H=> ?_
 delta sl;generalize qw G N=a;revert a;refine id ?_;intro a;kernel_rfl
def uF(G:ay)(N:Nat)(ag:ad)(H:ae):O:=b1 H (d_ (H).next ag) λar a=>j (aH P 40 ar 0) λc=>j (aq P a 9 c) λba=>nv G N N ar ba (I J 0) a
def Mn(N:Nat){ag:ad}{H:ae}{r:ad×ae}(h:uF (aE P aA) N ag H=D r):aE P aA 34 [ag] H=D r:=cS N (S:=λG=>uF G N ag H) Tryd.func34 (λG=>dX ((aM ah ((aM ah ((aM ah (NU G N) ((aM ah ((cX ah ((dW (k:=λm aa H=>nv G N m (aa 1) (aa 3) (aa 4) H) ah (λaa H=>ah) (λm=>NT G N (nv G N m)))))) (aF _))))) (aF _))) (aF _))) (by delta uF;generalize nv G N N=a;revert a;refine id ?_;intro a;kernel_rfl)) h
def uE(G:ay)(ag:ad)(H:ae):O:=b1 H (d_ (H).next ag) λar a=>j (aH P 68 ar 1) λba=>j (aq P a 40 ba) λi=>aI a (G 34 [i] a) λk c=>j (aH P 68 ar 0) λd=>j (aq P c 9 d) λe=>j (ao P .add 9 X e (Y [58,32])) λh=>j (ao P .add 9 U h k) λl=>bif ((bh (aq P a 9 d) e&&bh (aq P c 9 d) e)&&X)then(D (l,c))else Z
def Mm(N:Nat){ag:ad}{H:ae}{r:ad×ae}(h:uE (aE P aA) ag H=D r):aE P aA 33 [ag] H=D r:=cS N (S:=λG=>uE G ag H) Tryd.func33 (λ_=>by delta uE;kernel_rfl) h
end
end
def Jg(n:Int):mG P 3 5 (I J n)=D (I .u8 (IntKind.u8.wrap n)):=ah
def Jh(l i n e:Nat)(c:Option Nat):mG P 77 9 (.aD l i n e c)=none:=ah
def Pn(l:Nat)(k:Int):b6 P l 77 1 [(0,I .u8 k)]=D (.aD l 0 1 1 (D 1),.row U 1 [[I .u8 k]]):=ah
def PS:P.underlying 77=D (.slice 5):=ah
def PR:P.underlying 5=D (.int .u8):=ah
def PT:P.underlying 9=D .string:=ah
def I2{H:ae}{L:Nat}{k:Int}{cap:Option Nat}{ro:Bool}(a:H.get L=D (.row ro 1 [[I .u8 k]])):n7 P H 77 9 (.aD L 0 1 1 cap)=D (Y [UInt8.ofNat k.toNat]):=by
 simp[n7,PS,PR,PT,eJ,a,bytesOf,Go.cn.byteOf]
def LB(m:Nat):ao P .quo 3 X (I J (m:Int)) (I J 10)=D (I J (IntKind.i64.wrap ((m:Int).tdiv 10))):=by simp[ao,hT]
def LQ(m:Nat):ao P .rem 3 X (I J (m:Int)) (I J 10)=D (I J ((m:Int).tmod 10)):=by simp[ao,hT]
def Gk{N:Nat}{n:Int}(o:0<=n){H0:ae}:∀(f m k:Nat) (acc:aG) (H:ae),m≠0->m<10^f->m<=9223372036854775807->acc.length+f<=100->f<k->aP H0 H->
  W (nB (aE P aA) N k (I J n) (Y acc) (I J m) H) λv H'=>v= Y (jG f m acc)/\aP H0 H'
 |0,m,_,_,_,j,c,_,_,_,_=>by simp at c;omega
 |_,_,0,_,_,_,_,_,_,h,_=>af
 |f+1,m,k+1,acc,H,j,c,x,y,z,pp=>by
  have e:((m:Int) != 0)=true:=by simp;omega
  have s:(m:Int).tmod 10=((m%10:Nat):Int):=rfl;have aT:(m:Int).tdiv 10=((m/10:Nat):Int):=rfl;have w0:IntKind.i64.wrap ((m/10:Nat):Int)=((m/10:Nat):Int):=wrap_i64 af af;have u:IntKind.i64.wrap ((48:Int)+((m%10:Nat):Int))=((48+m%10:Nat):Int):=by rw[wrap_i64 af af];omega
  have w:IntKind.u8.wrap ((48+m%10:Nat):Int)=((48+m%10:Nat):Int):=by show((48+m%10:Nat):Int)%256=_;omega
  have d0:¬(((m%10:Nat):Int)<0):=af;have l:=ae.bM H (.row U 1 [[I .u8 ((48+m%10:Nat):Int)]]);have d:=I2 (cap:=some 1) l;rw[Int.toNat_natCast]at d;have i:ao P .add 9 U (Y [UInt8.ofNat (48+m%10)]) (Y acc)=D (Y (UInt8.ofNat (48+m%10)::acc)):=kh _ _ _ _ (by simp only[List.length_cons,List.length_nil];omega);simp-implicitDefEqProofs(disch:=try exact aj)only[nB,sr,qE,o5,bg,bx,cZ,e,LQ,LB,s,aT,w0,u,w,d0,decide_false,qX,Jg,Pn,Jh,d,i];rw[jG];by_cases a:m/10=0
  ·rw[if_pos a,a];have q:(((0:Nat):Int) != 0)=false:=rfl;have p:¬n<0:=af;cases k with
   |zero=>omega
   |succ k=>
    simp-implicitDefEqProofs(disch:=try exact aj)only[nB,sr,nA,bg,bx,cZ,q,p,decide_false];exact bb.2 ⟨rfl,pp.bI _⟩
  ·rw[if_neg a];exact Gk o f (m/10) k _ _ a (by rw[Nat.pow_succ]at c;omega) af (by simp only[List.length_cons];omega) af (pp.bI _)
def PG{H:ae}{n:Int}(c:0<=n)(e:n<=9223372036854775807):W (aE P aA 48 [I J n] H) λv H'=>v= Y (jG 20 n.toNat [])/\aP H H':=by
 refine cG (λ_=>Mv 30) ?_;rw[uK];by_cases a:n=0
 ·subst a;simp-implicitDefEqProofs(disch:=try exact aj)only[reduceAdd,reduceLeDiff,reduceIte,ax,beq_self_eq_true];exact bb.2 ⟨rfl,.refl _⟩
 ·have d:(n==0)=false:=by simpa using a
  simp-implicitDefEqProofs(disch:=try exact aj)only[reduceAdd,reduceLeDiff,reduceIte,ax,d];have:=Gk (N:=30) c (H0:=H) 20 n.toNat 30 [] H af (by have:=Eu;omega) af (by simp) af (.refl _);rw[show((n.toNat:Nat):Int)=n by omega]at this;exact this
def Cs(x:aG)(n:Nat)(l:List bT):flat (rep n (bO x)++l)=(List.replicate n x).flatten++flat l:=by
 induction n with
 |zero=>rfl
 |succ n a=>unfold rep at a ⊢;rw[List.replicate_succ,List.cons_append,flat,a,List.replicate_succ,List.flatten_cons,List.append_assoc];rfl
def hs(x:aG)(n:Nat):aG:=(List.replicate n [91]).flatten++(x++(List.replicate n [93]).flatten)
def JL(x:aG)(l:List bT):flat (sI x::l)=x++flat l:=by
 unfold sI;cases j7 x<;>rfl
def ch:flat []=[]:=rfl
def wo(x:aG)(z:Int):flat (c5 x z)=hs x z.toNat:=by
 unfold c5 hs;rw[Cs,JL];have:=Cs [93] z.toNat [];rw[List.append_nil,ch,List.append_nil]at this;rw[this]
def PN(x:aG)(n:Nat):hs x (n+1)=[91]++hs x n++[93]:=by
 have e:∀n,(List.replicate (n+1) ([93]:aG)).flatten=(List.replicate n ([93]:aG)).flatten++[93]:=by
  intro n;rw[List.replicate_succ'];simp
 unfold hs;rw[e,List.replicate_succ,List.flatten_cons];simp only[List.append_assoc]
def PM(x:aG)(n:Nat):(hs x n).length=2*n+x.length:=by
 unfold hs;simp;omega
def GS{N:Nat}{H:ae}{l:Nat}{x:aG}{z:Int}(d:H.get l=D (.row U 2 [[Y x,I J z]]))(n:x.length<=100)(o:z<=100):∀(c j k:Nat),((j+c:Nat):Int)=z->c<k->
  W (nv (aE P aA) N k (.ptr l 0 0) (Y (hs x j)) (I J j) H) λv H'=>v= Y (hs x z.toNat)/\H'=H
 |_,_,0,_,h=>af
 |0,j,k+1,m,_=>by
  have a:¬((j:Int)<z):=af;simp-implicitDefEqProofs(disch:=try exact aj)only[nv,sl,qw,reduceAdd,reduceLeDiff,reduceIte,ax,d,a,decide_false];exact bb.2 ⟨by rw[show z.toNat=j by omega],rfl⟩
 |c+1,j,k+1,m,q=>by
  have a:(j:Int)<z:=af;have s:=PM x j;have e:ao P .add 9 X (Y [91]) (Y (hs x j))=D (Y (91::hs x j)):=kh _ _ _ _ (by simp only[List.length_cons,List.length_nil];omega);have i:ao P .add 9 X (Y (91::hs x j)) (Y [93])=D (Y (hs x (j+1))):=by
   rw[PN];exact kh _ _ (91::hs x j) [93] (by simp only[List.length_append,List.length_cons,List.length_nil];omega)
  have p:IntKind.i64.wrap ((j:Int)+1)=((j+1:Nat):Int):=by rw[wrap_i64 af af];omega
  simp-implicitDefEqProofs(disch:=try exact aj)only[nv,sl,bg,bx,cZ,eg,aq,cL,Nat.reduceAdd,Nat.reduceLeDiff,reduceIte,ad.cells,cQ,dN,d,a,decide_true,e,i,p];exact GS d n o c (j+1) k af af
def qQ{H:ae}{x:aG}{z:Int}(i:0<=z)(a:z<=100)(d:x.length<=100):W (aE P aA 34 [.agg [Y x,I J z]] H) λv H'=>v= Y (flat (c5 x z))/\aP H H':=by
 refine cG (λ_=>Mn 200) ?_;have c:∀l,d_ l (.agg [Y x,I J z])=D (.ptr l 0 0,.row U 2 [[Y x,I J z]]):=λl=>hA l _ rfl
 rw[uF,wo];simp-implicitDefEqProofs(disch:=try exact aj)only[reduceAdd,reduceLeDiff,reduceIte,ax,c];have h:=GS (N:=200) (ae.bM H (.row U 2 [[Y x,I J z]])) d a z.toNat 0 200 af af;have e:hs x 0=x:=by simp[hs]
 rw[e]at h;refine h.mono ?_;rintro v _ ⟨rfl,rfl⟩;exact⟨rfl,aP.push _ _⟩
def DN{H:ae}{a:bK}{kv:ad}(q:kv.one=X):W (aE P aA 50 [.agg (a.cells kv)] H) λv H'=>v= I J (dh a.kind)/\aP H H':=by
 refine cG (λ_=>Mx 0) ?_;have e:∀l,d_ l (.agg (a.cells kv))=D (.ptr l 0 0,.row U 11 [a.cells kv]):=λl=>hA l _ (by simp only[bK.cells,List.all_cons,List.all_nil,hF,h0,q,Bool.and_self])
 have pp:=aP.push H (.row U 11 [a.cells kv]);simp only[bK.cells]at e pp ⊢;generalize a.kind=k at e pp ⊢;unfold uM nC qF o6 qG jy;simp-implicitDefEqProofs(disch:=try exact aj)only[reduceAdd,reduceLeDiff,reduceIte,ax,e];unfold dh;have n:∀m:Int,k=m->(k==m)=true:=λm h=>by simpa using h
 have cz:∀m:Int,k≠m->(k==m)=false:=λm h=>by simpa using h
 by_cases c:k=24
 ·simp-implicitDefEqProofs(disch:=try exact aj)only[bg,bx,cZ,n _ c];refine⟨_,_,rfl,?_,pp⟩;rw[if_pos c];rfl
 by_cases d:k=23
 ·simp-implicitDefEqProofs(disch:=try exact aj)only[bg,bx,cZ,cz _ c,n _ d];refine⟨_,_,rfl,?_,pp⟩;rw[if_neg c,if_pos d];rfl
 by_cases p:19<=k/\k<=22
 ·have:k=19\/k=20\/k=21\/k=22:=af;rcases this with rfl|rfl|rfl|rfl<;>exact⟨_,_,rfl,rfl,pp⟩
 by_cases j:k=14\/k=15
 ·rcases j with rfl|rfl<;>exact⟨_,_,rfl,rfl,pp⟩
 by_cases o:16<=k/\k<=18
 ·have:k=16\/k=17\/k=18:=af;rcases this with rfl|rfl|rfl<;>exact⟨_,_,rfl,rfl,pp⟩
 by_cases i:k=12\/k=13
 ·rcases i with rfl|rfl<;>exact⟨_,_,rfl,rfl,pp⟩
 ·simp-implicitDefEqProofs(disch:=try exact aj)only[bg,bx,cZ,cz 24 af,cz 23 af,cz 19 af,cz 20 af,cz 21 af,cz 22 af,cz 14 af,cz 15 af,cz 16 af,cz 17 af,cz 18 af,cz 12 af,cz 13 af];refine⟨_,_,rfl,?_,pp⟩;rw[if_neg c,if_neg d,if_neg p,if_neg j,if_neg o,if_neg i];rfl
def Pd{H:ae}{k:Int}(h:14<=k)(a1:k<=24):W (aE P aA 51 [I J k] H) λv H'=>v= Y (gZ k)/\aP H H':=by
 refine cG (λ_=>My 0) ?_;have c:k=14\/k=15\/k=16\/k=17\/k=18\/k=19\/k=20\/k=21\/k=22\/k=23\/k=24:=af;rcases c with rfl|rfl|rfl|rfl|rfl|rfl|rfl|rfl|rfl|rfl|rfl<;>
 ·unfold uN;have w:∀a b:Int,0<=a-b->a-b<=100->IntKind.i64.wrap (a-b)=a-b:=λa b x y=>wrap_i64 x af
  simp-implicitDefEqProofs(disch:=try exact aj)only[reduceAdd,reduceLeDiff,reduceIte,ax,w];exact bb.2 ⟨rfl,aP.push _ _⟩
section
set_option maxRecDepth 100000
noncomputable section
def uL(G:ay)(ag ar:ad)(H:ae):O:=b1 H (d_ (H).next ag) λe c=>j (aq P c 45 e) λn=>aI c (G 50 [n] c) λba a=>j (ao P .lss 3 U ba ar) λo=>aU (D o) (j (aq P a 45 e) λp=>aI a (G 17 [p] a) λh d=>j (ao P .add 9 X (Y [40]) h) λi=>j (ao P .add 9 X i (Y [41])) λk=>D (k,d)) (j (aq P a 45 e) λl=>aI a (G 17 [l] a) λm d=>D (m,d))
def Mw(N:Nat){ag ar:ad}{H:ae}{r:ad×ae}(h:uL (aE P aA) ag ar H=D r):aE P aA 49 [ag,ar] H=D r:=cS N (S:=λG=>uL G ag ar H) Tryd.func49 (λ_=>by delta uL;kernel_rfl) h
def lg(G:ay)(N:Nat)(ar:ad)(H:ae):O:=j (aq P H 45 ar) λp=>aI H (G 50 [p] H) λn a=>j (aH P 45 ar 4) λq=>j (aq P a 41 q) λs=>j (cl P 41 s (I J 0)) λu=>j (aq P a 45 u) λv=>aI a (G 49 [v,n] a) λw c=>j (aH P 45 ar 0) λl=>j (aq P c 3 l) λm=>aI c (G 51 [m] c) λy d=>j (aH P 45 ar 4) λe=>j (aq P d 41 e) λh=>j (cl P 41 h (I J 1)) λi=>j (aq P d 45 i) λk=>j (ao P .add 3 X n (I J 1)) λB=>aI d (G 49 [k,B] d) λE o=>j (ao P .add 9 X w (Y [32])) λx=>j (ao P .add 9 U x y) λz=>j (ao P .add 9 X z (Y [32])) λA=>j (ao P .add 9 U A E) λF=>bif ((bh (aq P a 3 l) m&&(bh (aq P c 3 l) m&&X))&&((bh (aq P a 41 e) h&&(bh (aq P c 41 e) h&&(bh (aq P d 41 e) h&&X)))&&((bh (aq P a 45 i) k&&(bh (aq P c 45 i) k&&(bh (aq P d 45 i) k&&X)))&&X)))then(D (F,o))else Z
def NB(G:ay)(N:Nat):∀aa H,bl P G N (o (o (bs Tryd.f17))) (bf Tryd.f17) [] (bf Tryd.f17) aa H=lg G N (aa 1) H:=by
 refine bC (aF _) λaa H=> ?_
 delta lg;kernel_rfl
def mc(G:ay)(N:Nat)(a:ad)(H:ae):O:=j (ao P .add 9 X a (Y [41])) λc=>D (c,H)
def NC(G:ay)(N:Nat):∀aa H,bl P G N (o (o (aN (o (o (o (o (o (o (o (o (o (o (o (o (o (aN (o (aN (o (bs Tryd.f17))))))))))))))))))))) (λaa H=>lg G N (aa 1) H) [(0,(λaa H=>lg G N (aa 1) H))] (bf Tryd.f17) aa H=mc G N (aa 3) H:=by
 refine bC (aF _) λaa H=> ?_
 delta mc;kernel_rfl
def oS(G:ay)(N:Nat)(a:ad->ad->ad->ae->O)(ar c d:ad)(H:ae):O:=j (ao P .add 3 X d (I J 1)) λe=>a ar c e H
def ND(G:ay)(N:Nat)(a:ad->ad->ad->ae->O):∀aa H,bl P G N (o (o (aN (aN (o (aN (o (aN (o (o (o (o (o (o (o (o (o (o (o (o (o (aN (o (aN (o (bs Tryd.f17)))))))))))))))))))))))))) (λaa H=>a (aa 1) (aa 3) (aa 4) H) [(1,(λaa H=>mc G N (aa 3) H)),(0,(λaa H=>lg G N (aa 1) H))] (bf Tryd.f17) aa H=oS G N a (aa 1) (aa 3) (aa 4) H:=by
 refine bC (aF _) λaa H=> ?_
 delta oS;kernel_rfl
def oT(G:ay)(N:Nat)(c:ad->ad->ad->ae->O)(ar e a:ad)(H:ae):O:=j (aH P 45 ar 4) λh=>j (aq P H 41 h) λi=>j (cl P 41 i a) λk=>j (aq P H 45 k) λl=>aI H (G 17 [l] H) λm d=>j (ao P .add 9 U e m) λn=>oS G N c ar n a d
def NF(G:ay)(N:Nat)(a:ad->ad->ad->ae->O):∀aa H,bl P G N (o (aN (aN (o (aN (aN (o (aN (o (aN (o (o (o (o (o (o (o (o (o (o (o (o (o (aN (o (aN (o (bs Tryd.f17)))))))))))))))))))))))))))) (λaa H=>oS G N a (aa 1) (aa 3) (aa 4) H) [(2,(λaa H=>oS G N a (aa 1) (aa 3) (aa 4) H)),(1,(λaa H=>mc G N (aa 3) H)),(0,(λaa H=>lg G N (aa 1) H))] (bf Tryd.f17) aa H=oT G N a (aa 1) (aa 3) (aa 4) H:=by
 refine bC (aF _) λaa H=> ?_
 delta oT;generalize oS G N a=c;revert c;refine id ?_;intro c;kernel_rfl
def oR(G:ay)(N:Nat)(d:ad->ad->ad->ae->O)(ar c a:ad)(H:ae):O:=j (aH P 45 ar 4) λe=>j (aq P H 41 e) λh=>bg P .len [41] [h] H λi=>j (ao P .lss 3 U a i) λk=>aU (D k) (j (ao P .gtr 3 X a (I J 0)) λl=>aU (D l) (j (ao P .add 9 X c (Y [44,32])) λm=>oT G N d ar m a H) (oT G N d ar c a H)) (mc G N c H)
def kA(G:ay)(N:Nat):Nat->ad->ad->ad->ae->O
 |0,_,_,_,_=>Z
 |n+1,ar,a,c,H=>oR G N (kA G N n) ar a c H
def NA(G:ay)(N:Nat)(a:ad->ad->ad->ae->O):∀aa H,bl P G N (aN (aN (o (aN (o (aN (o (o (o (o (o (o (o (o (o (o (o (o (o (aN (o (aN (o (bs Tryd.f17)))))))))))))))))))))))) (λaa H=>a (aa 1) (aa 3) (aa 4) H) [(1,(λaa H=>mc G N (aa 3) H)),(0,(λaa H=>lg G N (aa 1) H))] (bf Tryd.f17) aa H=oR G N a (aa 1) (aa 3) (aa 4) H:=by
 refine bC ((aM ah ((aM ah (ND G N a) ((cX ah ((aM ah (NF G N a) (aF _))))))) (aF _))) λaa H=> ?_
 delta oR;generalize mc G N=c;generalize oT G N a=d;revert c d;refine id ?_;intro c d;kernel_rfl
def uq(G:ay)(N:Nat)(ag:ad)(H:ae):O:=b1 H (d_ (H).next ag) λar a=>j (aH P 45 ar 0) λba=>j (aq P a 3 ba) λd=>j (ao P .eql 3 X d (I J 1)) λbb=>aU (D bb) (j (aH P 45 ar 1) λu=>j (aq P a 3 u) λF=>aI a (G 48 [F] a) λW c=>D (W,c)) (j (ao P .eql 3 X d (I J 2)) λal=>aU (D al) (j (aH P 45 ar 1) λam=>j (aq P a 3 am) λbS=>j (ao P .eql 3 X bS (I J 1)) λan=>aU (D an) (D ((Y [116,114,117,101]),a)) (D ((Y [102,97,108,115,101]),a))) (j (ao P .eql 3 X d (I J 3)) λap=>aU (D ap) (j (aH P 45 ar 3) λau=>j (aq P a 40 au) λav=>aI a (G 34 [av] a) λaw c=>j (ao P .add 9 X (Y [110,117,108,108,32]) aw) λax=>D (ax,c)) (j (ao P .eql 3 X d (I J 4)) λaA=>aU (D aA) (j (aH P 45 ar 2) λaB=>j (aq P a 9 aB) λaC=>D (aC,a)) (j (ao P .eql 3 X d (I J 5)) λaE=>aU (D aE) (j (aH P 45 ar 4) λaF=>j (aq P a 41 aF) λaG=>j (cl P 41 aG (I J 0)) λaJ=>j (aq P a 45 aJ) λaK=>aI a (G 49 [aK,I J 7] a) λaL c=>j (ao P .add 9 X aL (Y [46])) λaM=>j (aH P 45 ar 2) λh=>j (aq P c 9 h) λi=>j (ao P .add 9 U aM i) λaN=>bif ((bh (aq P a 9 h) i&&bh (aq P c 9 h) i)&&X)then(D (aN,c))else Z) (j (ao P .eql 3 X d (I J 6)) λaO=>aU (D aO) (j (aH P 45 ar 4) λaP=>j (aq P a 41 aP) λaQ=>j (cl P 41 aQ (I J 0)) λaR=>j (aq P a 45 aR) λaS=>aI a (G 49 [aS,I J 7] a) λaT c=>j (aH P 45 ar 4) λk=>j (aq P c 41 k) λl=>j (cl P 41 l (I J 1)) λm=>j (aq P c 45 m) λn=>aI c (G 17 [n] c) λaW e=>j (ao P .add 9 X aT (Y [91])) λaV=>j (ao P .add 9 U aV aW) λaX=>j (ao P .add 9 X aX (Y [93])) λaY=>bif ((bh (aq P a 41 k) l&&(bh (aq P c 41 k) l&&X))&&((bh (aq P a 45 m) n&&(bh (aq P c 45 m) n&&X))&&X))then(D (aY,e))else Z) (j (ao P .eql 3 X d (I J 7)) λaZ=>aU (D aZ) (j (aH P 45 ar 2) λa0=>j (aq P a 9 a0) λa1=>j (ao P .add 9 X a1 (Y [40])) λa2=>kA G N N ar a2 (I J 0) a) (j (ao P .eql 3 X d (I J 8)) λa3=>aU (D a3) (j (aH P 45 ar 3) λa4=>j (aH P 40 a4 0) λa5=>j (aq P a 9 a5) λa6=>j (ao P .add 9 X (Y [110,101,119,32]) a6) λa7=>D (a7,a)) (j (ao P .eql 3 X d (I J 9)) λa8=>aU (D a8) (j (aH P 45 ar 3) λa9=>j (aq P a 40 a9) λa_=>aI a (G 34 [a_] a) λbc c=>j (aH P 45 ar 4) λo=>j (aq P c 41 o) λp=>j (cl P 41 p (I J 0)) λq=>j (aq P c 45 q) λs=>aI c (G 17 [s] c) λbf e=>j (ao P .add 9 X (Y [110,101,119,32,91]) bc) λbd=>j (ao P .add 9 X bd (Y [93,40])) λbe=>j (ao P .add 9 U be bf) λbg=>j (ao P .add 9 X bg (Y [41])) λbi=>bif ((bh (aq P a 41 o) p&&(bh (aq P c 41 o) p&&X))&&((bh (aq P a 45 q) s&&(bh (aq P c 45 q) s&&X))&&X))then(D (bi,e))else Z) (j (ao P .eql 3 X d (I J 10)) λv=>aU (D v) (j (aH P 45 ar 4) λw=>j (aq P a 41 w) λx=>j (cl P 41 x (I J 0)) λy=>j (aq P a 45 y) λz=>aI a (G 17 [z] a) λA c=>j (ao P .add 9 X (Y [108,101,110,40]) A) λB=>j (ao P .add 9 X B (Y [41])) λE=>D (E,c)) (j (ao P .eql 3 X d (I J 11)) λK=>aU (D K) (D ((Y [114,101,97,100,40,41]),a)) (j (ao P .eql 3 X d (I J 12)) λL=>aU (D L) (j (aH P 45 ar 4) λM=>j (aq P a 41 M) λQ=>j (cl P 41 Q (I J 0)) λR=>j (aq P a 45 R) λS=>aI a (G 49 [S,I J 6] a) λT c=>j (ao P .add 9 X (Y [45]) T) λV=>D (V,c)) (j (ao P .eql 3 X d (I J 13)) λaa=>aU (D aa) (j (aH P 45 ar 4) λab=>j (aq P a 41 ab) λaf=>j (cl P 41 af (I J 0)) λah=>j (aq P a 45 ah) λai=>aI a (G 49 [ai,I J 6] a) λaj c=>j (ao P .add 9 X (Y [33]) aj) λak=>D (ak,c)) (lg G N ar a)))))))))))))
def L_(N:Nat){ag:ad}{H:ae}{r:ad×ae}(h:uq (aE P aA) N ag H=D r):aE P aA 17 [ag] H=D r:=cS N (S:=λG=>uq G N ag H) Tryd.func17 (λG=>dX ((aM ah ((aM ah (NB G N) ((aM ah ((cX ah ((aM ah ((dt ah (aF _) ((aM ah ((dt ah (aF _) ((aM ah ((dt ah (aF _) ((aM ah ((dt ah (aF _) ((aM ah ((dt ah (aF _) ((aM ah ((dt ah (aF _) ((aM ah ((dt ah ((aM ah ((aM ah (NC G N) ((aM ah ((cX ah ((dW (k:=λm aa H=>kA G N m (aa 1) (aa 3) (aa 4) H) ah (λaa H=>ah) (λm=>NA G N (kA G N m)))))) (aF _))))) (aF _))) (aF _))) (aF _))))) (aF _))))) (aF _))))) (aF _))))) (aF _))))) (aF _))))) (aF _))))) (aF _))))) (aF _))) (by delta uq;generalize lg G N=a;generalize kA G N N=c;revert a c;refine id ?_;intro a c;kernel_rfl)) h
end
end
def ck.beq{H:ae}{ok:Nat->Prop}{ks:List aJ}{kv:ad}(h:ck H ok ks kv):ad.beq kv kv=true:=by
 rcases h with⟨rfl,_⟩|⟨l,i,cap,ro,els,rfl,_⟩|⟨l,i,cap,rfl,_⟩<;>simp[ad.beq]
def oK{a:bK}{kv:ad}(h:ad.beq kv kv=X):bh (D (.agg (a.cells kv))) (.agg (a.cells kv))=true:=by
 simp[bh,ad.beq,gA.beq,bK.cells,h]
def dv.get{H:ae}{ok:Nat->Prop}:∀{ks:List aJ} {css:List (List ad)} {j:Nat} {e:aJ},dv H ok ks css->ks[j]? =D e->∃cs,css[j]? =D cs/\cJ H ok e (.agg cs)
 |[],_,_,_,_,h=>by simp at h
 |_::_,[],_,_,h,_=>by rw[dv]at h;exact h.elim
 |k::ks,cs::css,0,e,h,a=>by rw[dv]at h;simp at a;subst a;exact⟨cs,rfl,h.1⟩
 |k::ks,cs::css,j+1,e,h,a=>by
  rw[dv]at h;obtain⟨c,aT,d⟩:=dv.get (ks:=ks) (css:=css) (j:=j) h.2 (by simpa using a);exact⟨c,by simpa using aT,d⟩
def ck.ga{H:ae}{ok:Nat->Prop}{ks:List aJ}{kv:ad}(h:ck H ok ks kv){n:Nat}(p:ks.length=n){j:Nat}{a:bK}{es:List aJ}(k:ks[j]? =D (.mk a es)):∃l i cap ro els c,kv= .aD l i n 11 cap/\H.get l=D (.row ro 11 els)/\els[i+j]? =D (a.cells c)/\ck H ok es c:=by
 subst p;have e:ks.length≠0:=by intro h;have:=List.length_eq_zero_iff.1 h;subst this;simp at k
 rcases h with⟨_,d⟩|⟨l,i,cap,ro,els,rfl,_,m,o⟩|⟨_,_,_,_,d⟩
 ·exact absurd d e
 ·obtain⟨cs,aT,q⟩:=o.get k;obtain⟨c,s,u⟩:=hQ.1 q;cases s;exact⟨l,i,cap,ro,els,c,rfl,m,by rw[List.getElem?_drop]at aT;exact aT,u⟩
 ·exact absurd d e
def cu(x:aG)(l:List bT):flat (bO x::l)=x++flat l:=rfl
def eV(x:aG)(l:List bT):flat (wd x::l)=x++flat l:=rfl
def iK(x:aG)(l:List bT):flat (cq x::l)=x++flat l:=rfl
def dq(l:List bT):flat (cf::l)=[32]++flat l:=rfl
def bV{t:TypeId}{c:Bool}{a b:aG}(h:a.length+b.length<=9223372036854775807):ao P .add t c (Y a) (Y b)=D (Y (a++b)):=kh t c a b h
def vv(e:aJ):Prop:=∀(d m:Nat),cF d m e->cM e<=1000000000->∀(a:bK) (ks:List aJ),e= .mk a ks->∀(H:ae) (ok:Nat->Prop) (kv:ad),ck H ok ks kv->W (aE P aA 17 [.agg (a.cells kv)] H) λr H'=>r= Y (flat (bp e))/\aP H H'
def P_{H:ae}{a:bK}{ks:List aJ}{kv:ad}{m:Nat}(n:kv.one=X)(v:∀H',aP H H'->W (aE P aA 17 [.agg (a.cells kv)] H') λr p=>r= Y (flat (bp (.mk a ks)))/\aP H' p)(w:(flat (bp (.mk a ks))).length<=1000000000):
  W (aE P aA 49 [.agg (a.cells kv),I J m] H) λr H'=>r= Y (flat (cw m (.mk a ks)))/\aP H H':=by
 refine cG (λ_=>Mw 0) ?_;have k:∀l,d_ l (.agg (a.cells kv))=D (.ptr l 0 0,.row U 11 [a.cells kv]):=λl=>hA l _ (by simp only[bK.cells,List.all_cons,List.all_nil,hF,h0,n,Bool.and_self])
 have pp:=aP.push H (.row U 11 [a.cells kv]);have dr:=ae.bM H (.row U 11 [a.cells kv]);have o:=λH'=>DN (H:=H') (a:=a) n
 have i:=λH' (h:aP H H')=>v H' h
 simp only[bK.cells]at k pp dr o i ⊢;unfold uL;simp-implicitDefEqProofs(disch:=try exact aj)only[bg,bx,Nat.reduceAdd,Nat.reduceLeDiff,reduceIte,ad.cells,cQ,dN,aq,cL,eg,dO,k];refine aO (o _) ?_;rintro _ j ⟨rfl,c⟩;refine⟨c.1,?_⟩;have g2:=c.get dr;by_cases hm:((dh a.kind:Nat):Int)<(m:Int)
 ·have e:(aJ.mk a ks).cD<m:=by unfold aJ.cD aJ.kind;simp only;omega
  simp-implicitDefEqProofs(disch:=try exact aj)only[bg,bx,cZ,Nat.reduceAdd,Nat.reduceLeDiff,reduceIte,ad.cells,cQ,dN,aq,cL,g2,hm,decide_true];refine aO (i j (pp.trans c)) ?_;rintro _ q ⟨rfl,d⟩;refine⟨d.1,?_⟩;have s:ao P .add 9 X (Y [40]) (Y (flat (bp (.mk a ks))))=D (Y (40::flat (bp (.mk a ks)))):=kh _ _ _ _ (by simp only[List.length_cons,List.length_nil];omega);have u:ao P .add 9 X (Y (40::flat (bp (.mk a ks)))) (Y [41])=D (Y (40::flat (bp (.mk a ks))++[41])):=kh _ _ _ _ (by simp only[List.length_cons,List.length_nil];omega);simp only[s,u,dY];exact bb.2 ⟨by rw[xx e,cu,cv];rfl,(pp.trans c).trans d⟩
 ·have e:¬(aJ.mk a ks).cD<m:=by unfold aJ.cD aJ.kind;simp only;omega
  simp-implicitDefEqProofs(disch:=try exact aj)only[bg,bx,cZ,Nat.reduceAdd,Nat.reduceLeDiff,reduceIte,ad.cells,cQ,dN,aq,cL,g2,hm,decide_false];refine aO (i j (pp.trans c)) ?_;rintro _ q ⟨rfl,d⟩;refine⟨d.1,?_⟩;exact bb.2 ⟨by rw[tR e],(pp.trans c).trans d⟩
def qM(j:Nat):List aJ->aG
 |[]=>[]
 |_=>bif j==0 then[]else[44,32]
def zb{N:Nat}{H0:ae}{r L i:Nat}{a:bK}{cap:Option Nat}{ro:Bool}{els:List (List ad)}{ks:List aJ}(n:H0.get r=D (.row U 11 [a.cells (.aD L i ks.length 11 cap)]))(u:H0.get L=D (.row ro 11 els)){ok:Nat->Prop}(aC:∀e∈ks,vv e)(hw:∀e∈ks,cF 0 0 e\/∃d,cF d 0 e)(T:ks.length<=1000000000)(aB:bX ks<=1000000000):
  ∀(es:List aJ) (j k:Nat) (acc:aG) (H:ae),ks.drop j=es->dv H0 ok es (els.drop (i+j))->acc.length+bX es<=2000000000/\bX es<=1000000000->j+es.length=ks.length->es.length<k->aP H0 H->
  W (kA (aE P aA) N k (.ptr r 0 0) (Y acc) (I J j) H) λv H'=>v= Y (acc++(qM j es++flat (eQ (di es))++[41]))/\aP H0 H'
 |_,_,0,_,_,_,_,_,_,y,_=>af
 |[],j,k+1,acc,H,s,he,z,w,y,pp=>by
  have m:¬((j:Int)<(ks.length:Int)):=by simp at w;omega
  have g1:=pp.get n;simp only[bK.cells]at g1;have q:ao P .add 9 X (Y acc) (Y [41])=D (Y (acc++[41])):=kh _ _ _ _ (by simp only[List.length_cons,List.length_nil];omega);simp-implicitDefEqProofs(disch:=try exact aj)only[kA,oR,mc,reduceAdd,reduceLeDiff,reduceIte,ax,g1,m,decide_false,q];exact bb.2 ⟨by simp[qM,di,eQ,flat],pp⟩
 | .mk b c::es,j,k+1,acc,H,s,he,z,w,y,pp=>by
  simp only[List.length_cons]at w y;have m:(j:Int)<(ks.length:Int):=af;have B:aJ.mk b c∈ks:=by
   have:aJ.mk b c∈ks.drop j:=by rw[s];simp
   exact List.mem_of_mem_drop this
  obtain⟨d,E⟩:∃d,cF d 0 (.mk b c):=by
   rcases hw _ B with h|h
   ·exact⟨0,h⟩
   ·exact h
  rw[bX]at z;have au:=p3 E;obtain⟨cs,aT,ah,ai⟩:=he.cons;obtain⟨ab,ak,al⟩:=hQ.1 ah;cases ak;have g1:=pp.get n;have g2:=pp.get u;have aa:((j:Int)).toNat=j:=af;have ap:(0:Int)<=(j:Int):=af;have am:IntKind.i64.wrap ((j:Int)+1)=((j+1:Nat):Int):=by rw[wrap_i64 af af];omega
  have hle:cM (.mk b c)<=1000000000:=af;have F:=λH' (p:aP H0 H')=>aC _ B d 0 E hle b c rfl H' ok ab (al.aL p)
  have R:ks.drop (j+1)=es:=by
   have:(ks.drop j).drop 1=es:=by rw[s];rfl
   rwa[List.drop_drop]at this
  have V:flat (eQ (di (.mk b c::es)))=flat (bp (.mk b c))++(qM 1 es++flat (eQ (di es))):=by
   cases es with
   |nil=>rw[oI];simp[eQ,di,flat,qM]
   |cons f r=>
    rw[di,di,eQ,cv,cu,dq]
    ·simp only[List.append_assoc];rfl
    ·intro a;cases a
  have fin:∀(l:aG) (H':ae),l=acc++(bif j==0 then[]else[44,32])->aP H0 H'->W (oT (aE P aA) N (kA (aE P aA) N k) (.ptr r 0 0) (Y l) (I J j) H') λv M=>v= Y (acc++((bif j==0 then[]else[44,32])++flat (eQ (di (.mk b c::es)))++[41]))/\aP H0 M:=by
   intro l H' A o;have aq:l.length<=acc.length+2:=by
    rw[A];cases j==0<;>simp
   have g1:=o.get n;have g2:=o.get u;simp only[bK.cells]at g1 aT F;simp-implicitDefEqProofs(disch:=try exact aj)only[oT,reduceAdd,reduceLeDiff,reduceIte,ax,g1,g2,aa,aT];refine aO (F H' o) ?_;rintro _ O ⟨rfl,K⟩;refine⟨K.1,?_⟩;have Q:ao P .add 9 U (Y l) (Y (flat (bp (.mk b c))))=D (Y (l++flat (bp (.mk b c)))):=kh _ _ _ _ af;simp-implicitDefEqProofs(disch:=try exact aj)only[oS,bg,bx,cZ,Q,am];refine(zb n u aC hw T aB es (j+1) k _ O R (by rw[show i+(j+1)=i+j+1 by omega];exact ai) ⟨by simp only[List.length_append];omega,af⟩ af af (o.trans K)).mono ?_;rintro v an ⟨rfl,ag⟩;refine⟨?_,ag⟩
   rw[V,A];have ar:(j+1==0)=false:=by simp
   cases es<;>simp[qM]
  by_cases G:j=0
  ·subst G;have x:¬((0:Int)<((0:Nat):Int)):=af;simp only[bK.cells]at g1;simp-implicitDefEqProofs(disch:=try exact aj)only[kA,oR,reduceAdd,reduceLeDiff,reduceIte,ax,g1,m,x,decide_true,decide_false];exact fin acc H (by simp) pp
  ·have x:(0:Int)<(j:Int):=af;have q:ao P .add 9 X (Y acc) (Y [44,32])=D (Y (acc++[44,32])):=kh _ _ _ _ (by simp only[List.length_cons,List.length_nil];omega);simp only[bK.cells]at g1;simp-implicitDefEqProofs(disch:=try exact aj)only[kA,oR,reduceAdd,reduceLeDiff,reduceIte,ax,g1,m,x,decide_true,q];have S:(j==0)=false:=by simpa using G
   exact fin _ H (by rw[S];rfl) pp
