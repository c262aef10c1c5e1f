/- Part. -/
import Derived.Test.YtghmbpmaafnodaaGreatDoorML
set_option linter.unusedVariables false
set_option linter.unusedSimpArgs false
set_option linter.defProp false
open Option renaming some→I,none→u
open Bool renaming true→Y,false→X,not_false→cd,not_true→ef,false_eq_true→kl,and_true→lm
open Go.bk.aa renaming int→J,str→Z,bool→D
open Go.IntKind renaming i64→U
open Nat renaming reduceAdd→bc,reduceLeDiff→de,lt_succ_self→fg,zero_add→hi
open List renaming length_cons→gh,length_nil→ij,all_cons→jk
namespace Go.Proofs.YtghmbpmaafnodaaGreatDoor
open Go.bk
def DH:P.underlying 144=I (.map 9 143):=M
def EH:fV P 143=I .nilFunc:=M
def q0{H:ad}{l:Nat}{es:List (aa×aa)}(k:ay)(v:aa)(c:H.get l=I (.map es))(a:iN .string (Z k) es 0=I u):fr P H 144 (.map l) (Z k) v=I (H.set l (.map (es++[(Z k,v)]))):=by
 simp only[fr,DH,mD,c,plainKey,a,if_true]
def lD:List (aa×aa):=[(Z [118,97,114],fn 139),(Z [108,101,116],fn 140),(Z [105,102],fn 141),(Z [119,104,105,108,101],fn 142),(Z [114,101,116,117,114,110],fn 143),(Z [112,114,105,110,116],fn 144)]
def abf(H:ad):W (al P aj 125 [] H) λv H'=>v= .map H.next/\H'=H.push (.map lD):=by
 refine bt (λ_=>VD 0) ?_;simp only[w4,qc];rw[q0 _ _ (ad.a_ H _) rfl,g9 (by simp),ad.hG];rw[q0 _ _ (ad.a_ H _) rfl,g9 (by simp),ad.hG];rw[q0 _ _ (ad.a_ H _) rfl,g9 (by simp),ad.hG];rw[q0 _ _ (ad.a_ H _) rfl,g9 (by simp),ad.hG];rw[q0 _ _ (ad.a_ H _) rfl,g9 (by simp),ad.hG];rw[q0 _ _ (ad.a_ H _) rfl,g9 (by simp),ad.hG];exact aD.2 ⟨rfl,rfl⟩
def Tb{H:ad}{l:Nat}(t:ay)(h:H.get l=I (.map lD)):h_ P H 144 (.map l) (Z t) X=I (ga t lD):=by
 rcases vc t lD 0 (by intro e d;simp[lD]at d;rcases d with rfl|rfl|rfl|rfl|rfl|rfl<;>exact⟨_,rfl⟩)with⟨j,v,a,c⟩|⟨a,c⟩
 ·simp only[h_,DH,mD,EH,plainKey,if_true,h,a,c,kl,if_false]
 ·simp only[h_,DH,mD,EH,plainKey,if_true,h,a,c,kl,if_false]
def TN(n:Nat):w P .neq 143 Y (fn n) .nilFunc=I (D Y):=M
def TO:w P .neq 143 Y .nilFunc .nilFunc=I (D X):=M
def Dg{H0 H:ad}{r:Nat}{T:List Tok}{af:aa}{s0 s:am}(h:bF H0 r T af s0)(y:bs r H0 H)(C:bE H r af s){k b:Nat}{e:a6}{s':am}{aX G j:Int}{F:ay}(A:∀d,bF d r T af s->W (al P aj k [.ptr r 0 0] d) (dx d r T af e s'))
  (n:H.get H0.next=I (.row X 9 [[J U 0,Z [],Z [],J U 0,.ag,.ag,.ag,J U 0,J U 0]])) (z:H.get b=I (.row X 4 [[J U aX,Z F,J U G,J U j]])) (M:H0.next<=b):
  W (nt (al P aj) (.ptr r 0 0) (.ptr H0.next 0 0) (.ptr b 0 0) (fn k) H) (dx H0 r T af (e.at j) s'):=by
 have ak:=h.rd.lt;have jv:=ad.aF n;rw[nt];simp only[fn,kO,List.nil_append,List.append_nil];refine aA (A H (h.mut y C)) ?_;rintro v H1 ⟨c,E,B⟩;refine⟨c.1,?_⟩;have o:=c.get n ae;have p:=c.get z ae;have N:=ad.aF o;have dt:=ad.aF p;cases e with|mk a es bf aQ=>
 obtain⟨ev,K,L,rfl,q,w,x⟩:=mS.1 B;have br:=q.db;have bI:=w.db;have b2:=x.db;simp(disch:=try exact ah)only[bc,de,ai,fI,bR.cells,br,bI,b2,o,p];have i:∀m,dc H1 (aW H.next) (H1.push m) (aW (H0.next+1)):=λm=>dc.av (aw.push _ _) λl ak=>by unfold aW at*;omega
 exact aD.2 (dx.fin (a:={a with pos:=j}) h ((y.trans c).a1 _) (E.rd.av (aw.push _ _)) (q.aP (i _).ex) (w.aP (i _)) (x.aP (i _)) (aV _) (fg _) _)
def abh{n:Nat}(R:zt n)(S:zL n):sN (n+1):=by
 intro H r T af s ar j e s' h;refine bt (λ_=>Vo 0) ?_;have ak:=j.rd.lt;have aa:=j.ba.one;have A:=aw.push H (.row X 9 [[J U 0,Z [],Z [],J U 0,.ag,.ag,.ag,J U 0,J U 0]]);simp only[wR,bc,ai];refine aA (vK (j.rd.av A) (j.ba.av A)) ?_;rintro _ l ⟨rfl,q⟩;refine⟨q.1,?_⟩;have n2:=q.1;simp only[ad.bb]at n2;have B:=(A.trans q).a1 (.row X 4 [[J U (G T s.at_).kind,Z (G T s.at_).text,J U (G T s.at_).n,J U (G T s.at_).pos]]);have C:=(aw.push l (.row X 4 [[J U (G T s.at_).kind,Z (G T s.at_).text,J U (G T s.at_).n,J U (G T s.at_).pos]])).get (q.get (ad.a_ H (.row X 9 [[J U 0,Z [],Z [],J U 0,.ag,.ag,.ag,J U 0,J U 0]])))
 have F:=ad.a_ l (.row X 4 [[J U (G T s.at_).kind,Z (G T s.at_).text,J U (G T s.at_).n,J U (G T s.at_).pos]]);have M:=j.av B;simp only[n6,ct]at h;obtain⟨⟨ap,s1⟩,i,K⟩:=h;simp only[aT,bS]at K;obtain⟨rfl,rfl⟩:=K;cases o:((G T s.at_).kind==3)with
 |false=>
  simp only[o,aH,aT]at i;simp only[bc,ai,Tok.v,o];refine Dg j (B.mut _) M.rd (k:=124) (λd a=> ?_) C F ae;have:=Jn ar a;rw[i]at this;exact this
 |true=>
  simp only[o,aK]at i;simp only[bc,ai,Tok.v,o];refine aA (abf _) ?_;rintro _ V ⟨rfl,rfl⟩;refine⟨(aw.push _ _).1,?_⟩;have w:=aw.push (l.push (.row X 4 [[J U (G T s.at_).kind,Z (G T s.at_).text,J U (G T s.at_).n,J U (G T s.at_).pos]])) (.map lD);have y:=Tb (G T s.at_).text (ad.a_ (l.push (.row X 4 [[J U (G T s.at_).kind,Z (G T s.at_).text,J U (G T s.at_).n,J U (G T s.at_).pos]])) (.map lD));have p:=M.av w;have E:=w.get C;have m:=w.get F;have N:=(B.trans w).mut (· =r);have L:=p.rd;unfold bE at L;have ab:=p.rd.lt;simp only[ad.bb]at y;have key:(∃k,ga (G T s.at_).text lD=fn k/\∀d,bF d r T af (ao s)->W (al P aj k [.ptr r 0 0] d) (dx d r T af ap s1))\/(ga (G T s.at_).text lD= .nilFunc/\jA T s=(ap,s1)):=by
   by_cases t1:(G T s.at_).text=[118,97,114]
   ·have c:I (qy T (ao s))=I (ap,s1):=by rw[<-i];simp[t1]
    refine .inl ⟨139,by rw[t1];rfl,λd a=> ?_⟩;have:=SK a;rw[Option.some.inj c]at this;exact this
   by_cases t2:(G T s.at_).text=[108,101,116]
   ·have c:I (qW T (ao s))=I (ap,s1):=by rw[<-i];simp[t2]
    refine .inl ⟨140,by rw[t2];rfl,λd a=> ?_⟩;have:=SN ar a;rw[Option.some.inj c]at this;exact this
   by_cases t3:(G T s.at_).text=[105,102]
   ·have c:mY T n (ao s)=I (ap,s1):=by rw[<-i];simp[t3]
    exact .inl ⟨141,by rw[t3];rfl,λd a=>R ar a _ _ c⟩
   by_cases t4:(G T s.at_).text=[119,104,105,108,101]
   ·have c:nk T n (ao s)=I (ap,s1):=by rw[<-i];simp[t4]
    exact .inl ⟨142,by rw[t4];rfl,λd a=>S ar a _ _ c⟩
   by_cases t5:(G T s.at_).text=[114,101,116,117,114,110]
   ·have c:I (nn T (ao s))=I (ap,s1):=by rw[<-i];simp[t5]
    refine .inl ⟨143,by rw[t5];rfl,λd a=> ?_⟩;have:=SP ar a;rw[Option.some.inj c]at this;exact this
   by_cases t6:(G T s.at_).text=[112,114,105,110,116]
   ·have c:I (ri T (ao s))=I (ap,s1):=by rw[<-i];simp[t6]
    refine .inl ⟨144,by rw[t6];rfl,λd a=> ?_⟩;have:=SO ar a;rw[Option.some.inj c]at this;exact this
   have c:I (jA T s)=I (ap,s1):=by rw[<-i];simp[eo t1,eo t2,eo t3,eo t4,eo t5,eo t6]
   exact .inr ⟨by simp[ga,lD,eo t1,eo t2,eo t3,eo t4,eo t5,eo t6],Option.some.inj c⟩
  rcases key with⟨k,x,a⟩|⟨x,Q⟩
  ·obtain⟨z,O⟩:=eL p.rd (ao s);simp only[bc,de,ai,m,y,x,TN,L];exact Dg j (N.trans z) O a (z.get E ae) (z.get m ae) ae
  ·simp only[ai,m,y,x,TO];refine Dg j N p.rd (k:=124) (λd a=> ?_) E m ae;have:=Jn ar a;rw[Q]at this;exact this
def FU{H0 H:ad}{r:Nat}{T:List Tok}{af:aa}{s0 s:am}(n:bF H0 r T af s0)(o:bs r H0 H)(m:bE H r af s){b lo:Nat}{a:bR}{es:List az}{bf aQ:List a6}{ev c d:aa}(i:bW H (aW lo) es ev)(j:cj H (aW lo) bf c)(k:cj H (aW lo) aQ d)(l:H0.next<lo)
  (e:H.get H0.next=I (.row X 9 [[J U 0,Z [],Z [],J U 0,.ag,.ag,.ag,J U 0,J U 0]])) (h:H.get b=I (.row X 9 [a.cells ev c d])):W (pn (al P aj) (.ptr H0.next 0 0) (.ptr b 0 0) H) (dx H0 r T af (.mk a es bf aQ) s):=by
 have br:=i.db;have bI:=j.db;have b2:=k.db;have p:=ad.aF e;simp only[bR.cells]at h;simp(disch:=try exact ah)only[pn,bc,ai,fI,e,h,br,bI,b2];exact aD.2 (dx.fin (a:=a) n o m i j k (aV _) l _)
def QI{n:Nat}(an:u0 n):zt (n+1):=by
 intro H r T af s ar A e s' h;refine bt (λ_=>VP 0) ?_;have ak:=A.rd.lt;have ay:=aw.push H (.row X 9 [[J U 0,Z [],Z [],J U 0,.ag,.ag,.ag,J U 0,J U 0]]);simp only[mY,ct]at h;obtain⟨⟨bf,s1⟩,aa,p⟩:=h;simp only[xd,bc,ai];refine aA (oH ar (A.av ay)) ?_;rintro v c ⟨B,L,F⟩;refine⟨B.1,?_⟩;have n2:=B.1;simp only[ad.bb]at n2;obtain⟨cs,rfl,aQ,br⟩:=F.cells;generalize cv T s=aE at L F aa p ⊢;have au:∀l,b0 P l 96 1 [(0,.agg cs)]=I (.ax l 0 1 11 (I 1),.row X 11 [cs]):=λl=>fQ l cs aQ br
 have aG:=B.get (ad.a_ H (.row X 9 [[J U 0,Z [],Z [],J U 0,.ag,.ag,.ag,J U 0,J U 0]])) ae;simp only[ai,au];have az:=aw.push c (.row X 11 [cs]);refine aA (an ar (L.av az) bf s1 aa) ?_;rintro d a ⟨x,am,aL⟩;refine⟨x.1,?_⟩;have aV:=x.1;simp only[ad.bb]at aV;have a5:=L.rd.lt;have aM:cb c (aW (H.next+1)) aE.1 (.agg cs):=by simpa only[ad.bb]using F
 have K:bW a (aW (H.next+1)) [aE.1] (.ax c.next 0 1 11 (I 1)):=(bW.made (r:=r) aM (bV.refl _ c) ae (lo:=H.next+1) ae ae).aP (cH.mut x (by unfold aW;omega) λ_ h=>h);have q:cj a (aW (H.next+1)) bf d:=aL.aP (dc.jt λk G=>by unfold aW at*;simp only[ad.bb]at G;omega);have hZ:=q.db;have ah:bA P 98 [(0,J U 5),(3,.ax c.next 0 1 11 (I 1)),(4,d)]=I (.agg (bR.cells {kind:=5} (.ax c.next 0 1 11 (I 1)) d .ag)):=by
  rcases q with⟨rfl,_⟩|⟨l,i,cap,ro,els,rfl,_⟩|⟨l,i,cap,rfl,_⟩<;>kernel_rfl
 have R:=x.get (az.get aG) ae;have aU:=(((ay.mut (· =r)).trans B).a1 (.row X 11 [cs])).trans x;simp only[bR.cells]at ah;simp only[bc,ai,fI,ah,hZ];have y:=aw.push a (.row X 9 [bR.cells {kind:=5} (.ax c.next 0 1 11 (I 1)) d .ag]);refine aA (Jo (am.av y) 3 [101,108,115,101]) ?_;rintro _ aD ⟨rfl,j,w⟩;refine⟨j.1,?_⟩;have a6:=am.rd.lt;have eI:=ad.aF R;have g6:=j.get (y.get R) ae;have N:=j.get (ad.a_ a (.row X 9 [bR.cells {kind:=5} (.ax c.next 0 1 11 (I 1)) d .ag])) ae;have aq:=(aU.a1 (.row X 9 [bR.cells {kind:=5} (.ax c.next 0 1 11 (I 1)) d .ag])).trans j;have ap:dc a (aW (H.next+1)) aD (aW (H.next+1)):=dc.mut ((y.mut _).trans j) (by unfold aW;omega) λ_ h=>h
 cases z:a8 T s1 3 [101,108,115,101]with
 |false=>
  rw[show cK T 3 [101,108,115,101] s1=(X,s1) by simp[cK,z]]at w ⊢;simp only[z,aH,aT,bS]at p;obtain⟨rfl,rfl⟩:=p;simp only[ai];exact FU A aq w.rd (K.aP ap.ex) (q.aP ap) (cj.nil _ _) ae g6 N
 |true=>
  rw[show cK T 3 [101,108,115,101] s1=(Y,ao s1) by simp[cK,z]]at w ⊢;simp only[z,aK,ct]at p;obtain⟨⟨bo,aZ⟩,aJ,S⟩:=p;simp only[aT,bS]at S;obtain⟨rfl,rfl⟩:=S;simp only[ai];refine aA (an ar w bo aZ aJ) ?_;rintro E m ⟨o,aO,aj⟩;refine⟨o.1,?_⟩;have a7:=w.rd.lt;have a4:=ad.aF N;have aI:=o.get g6 ae;have O:=o.get N ae;have aS:=ad.aF O;have aX:=j.1;simp only[ad.bb]at aX;have a3:=o.1;have C:=aj.db;have aY:=O;simp only[bR.cells]at aY;have V:dc a (aW (H.next+1)) m (aW (H.next+1)):=dc.mut (((y.mut _).trans j).trans o) (by unfold aW;omega) λ_ h=>h
  have a2:=K.aP V.ex;have a0:=q.aP V;have aN:aB P m 44 (.ptr a.next 0 6) E=I (m.set a.next (.row X 9 [bR.cells {kind:=5} (.ax c.next 0 1 11 (I 1)) d E])):=by
   rw[Df sy O rfl (by rw[gf C];rfl) (by rw[gf C,jk,C];rfl) aC,gf C];rfl
  simp only[aR,cX,hi];rw[aN,g9 (by simp only[ad.cL];omega)];have M:∀Q,dc m (λl=>H.next+1<=l/\l≠a.next) (m.set a.next Q) (aW (H.next+1)):=λQ=>dc.set _ (by simp) λl h=>h.1
  have W:dc a (λl=>H.next+1<=l/\l<a.next) m (λl=>H.next+1<=l/\l≠a.next):=dc.mut (((y.mut _).trans j).trans o) ae λl h=>⟨h.1,ae⟩
  have ab:dc a (aW (H.next+1)) a (λl=>H.next+1<=l/\l<a.next):=⟨λl ro els h g=>⟨⟨h,ad.aF g⟩,g⟩,λl ro els h g=>⟨⟨h,ad.aF g⟩,g⟩⟩;refine FU A (H:=m.set a.next (.row X 9 [bR.cells {kind:=5} (.ax c.next 0 1 11 (I 1)) d E])) ((aq.trans o).bH (.inr ae) _) ?_ (((K.aP ab.ex).aP W.ex).aP (M _).ex) (((q.aP ab).aP W).aP (M _)) ((aj.aP (dc.jt (ok':=λl=>H.next+1<=l/\l≠a.next) λk G=>by unfold aW at G;omega)).aP (M _)) (fg _) ?_ (ad.get_set_same aS)
  ·have al:=aO.rd;unfold bE at al ⊢;rw[ad.get_set_other ae];exact al
  ·rw[ad.get_set_other ae];exact aI
def UW{n:Nat}(O:u0 n):zL (n+1):=by
 intro H r T af s ar q e s' h;refine bt (λ_=>VQ 0) ?_;have ak:=q.rd.lt;have C:=aw.push H (.row X 9 [[J U 0,Z [],Z [],J U 0,.ag,.ag,.ag,J U 0,J U 0]]);simp only[nk,ct]at h;obtain⟨⟨bf,s1⟩,A,z⟩:=h;simp only[aT,bS]at z;obtain⟨rfl,rfl⟩:=z;simp(disch:=try exact ah)only[xe,bc,ai];refine aA (oH ar (q.av C)) ?_;rintro v c ⟨j,w,p⟩;refine⟨j.1,?_⟩;have n2:=j.1;simp only[ad.bb]at n2;obtain⟨cs,rfl,aQ,br⟩:=p.cells;generalize cv T s=aE at w p A ⊢;have au:∀l,b0 P l 96 1 [(0,.agg cs)]=I (.ax l 0 1 11 (I 1),.row X 11 [cs]):=λl=>fQ l cs aQ br
 have F:=j.get (ad.a_ H (.row X 9 [[J U 0,Z [],Z [],J U 0,.ag,.ag,.ag,J U 0,J U 0]])) ae;simp(disch:=try exact ah)only[ai,au];have E:=aw.push c (.row X 11 [cs]);refine aA (O ar (w.av E) bf s1 A) ?_;rintro m x ⟨d,N,G⟩;refine⟨d.1,?_⟩;have Q:=d.1;simp only[ad.bb]at Q;have R:=w.rd.lt;have K:cb c (aW (H.next+1)) aE.1 (.agg cs):=by simpa only[ad.bb]using p
 have M:bW x (aW (H.next+1)) [aE.1] (.ax c.next 0 1 11 (I 1)):=(bW.made (r:=r) K (bV.refl _ c) ae (lo:=H.next+1) ae ae).aP (cH.mut d (by unfold aW;omega) λ_ h=>h);have o:cj x (aW (H.next+1)) bf m:=G.aP (dc.jt λk L=>by unfold aW at*;simp only[ad.bb]at L;omega);have hZ:=o.db;have B:bA P 98 [(0,J U 6),(3,.ax c.next 0 1 11 (I 1)),(4,m)]=I (.agg (bR.cells {kind:=6} (.ax c.next 0 1 11 (I 1)) m .ag)):=by
  rcases o with⟨rfl,_⟩|⟨l,i,cap,ro,els,rfl,_⟩|⟨l,i,cap,rfl,_⟩<;>kernel_rfl
 have y:=d.get (E.get F) ae;have eI:=ad.aF y;simp only[bR.cells]at B;simp(disch:=try exact ah)only[bc,ai,fI,B,hZ,y];exact aD.2 (dx.fin (a:={kind:=6}) q ((((C.mut _).trans j).a1 _).trans d) N.rd M o (cj.nil _ _) (aV _) (fg _) _)
structure OW(n:Nat):Prop where
 stmt:sN n
 block:u0 n
 choose:zt n
 rep:zL n
def PC:∀n,n<=900000000->OW n:=by
 intro n
 induction n using Nat.strongRecOn with
 |_ n a=>
  intro d;cases n with
  |zero=>exact⟨λ_ _ _ _ h=>by simp[n6]at h,λ_ _ _ _ h=>by simp[iz]at h,λ_ _ _ _ h=>by simp[mY]at h,λ_ _ _ _ h=>by simp[nk]at h⟩
  |succ n=>
   have i:=a n ae ae;exact⟨abh i.choose i.rep,Qt ae λk c=>(a k ae ae).stmt,QI i.block,UW i.block⟩
def Qd(af:aa)(c:af.one=Y)(a b:Int):bA P 112 [(0,af),(1,J U a),(2,J U b)]=I (.agg [af,J U a,J U b,J U 0,J U 0]):=by
 cases af<;>first|(cases c;done)|kernel_rfl
def SJ{n:Nat}(F:n<=900000000){H:ad}{T:List Tok}{af:aa}(ar:T.length<=20000000)(aq:eR H af T)(at_ aY:Int){l:List a6}{s':am}(h:iz T n (g1 at_ aY)=I (l,s')):
  W (al P aj 55 [af,J U at_,J U aY] H) λv H'=>∃m,v= .tuple [m,J U (fa l s').2.1,.agg [J U (fa l s').2.2.1,J U (fa l s').2.2.2]]/\cj H' (aW H.next) (fa l s').1 m/\aw H H':=by
 refine bt (λ_=>WZ 0) ?_;have s:=aq.one;have x:=aw.push H (.row X 2 [[J U 0,J U 0]]);have B:=Qd af s at_ (if aY<0 then 0 else aY);have C:∀l,cg l (.agg [af,J U at_,J U (if aY<0 then 0 else aY),J U 0,J U 0])=I (.ptr l 0 0,.row X 5 [[af,J U at_,J U (if aY<0 then 0 else aY),J U 0,J U 0]]):=λl=>ei l _ (by simp only[jk,List.all_nil,eO,s,Bool.and_self])
 simp(disch:=try exact ah)only[ys,bc,ai,KC,B,C];have o:=ad.a_ H (.row X 2 [[J U 0,J U 0]]);have q:(H.push (.row X 2 [[J U 0,J U 0]])).next=H.next+1:=by simp only[ad.bb]
 rw[<-q];generalize H.push (.row X 2 [[J U 0,J U 0]])=d at x o q ⊢;have y:=aw.push d (.row X 5 [[af,J U at_,J U (if aY<0 then 0 else aY),J U 0,J U 0]]);have k:=x.trans y;have G:bF (d.push (.row X 5 [[af,J U at_,J U (if aY<0 then 0 else aY),J U 0,J U 0]])) d.next T af (g1 at_ aY):=
  ⟨ad.a_ _ _,aq.av k⟩
 refine aA ((PC n F).block ar G l s' h) ?_;rintro v K ⟨c,w,p⟩;refine⟨c.1,?_⟩;have E:=c.1;simp only[ad.bb]at E p;simp(disch:=try exact ah)only[ai];refine aA (qP w.rd) ?_;rintro _ A ⟨rfl,rfl⟩;refine⟨aV _,?_⟩;have j:=w.rd;unfold bE at j;have e:=c.get (y.get o) ae;have L:=ad.aF e;have z:aw H A:=⟨by have:=k.1;simp only[ad.bb]at this;omega,λl ak=>by rw[c.2 l (by simp only[ad.bb];omega) ae];exact k.2 l ak⟩;by_cases a:s'.an=0
 ·have i:(s'.an != 0)=false:=by simpa using a
  rw[show fa l s'=(l,s'.at_,0,0) by simp[fa,a]];simp(disch:=try exact ah)only[bc,ai,i,j,e];refine aD.2 ⟨_,rfl,p.aP (dc.set _ (by unfold aW;omega) λl h=>by unfold aW at*;omega),z.bH ae _⟩
 ·have i:(s'.an != 0)=true:=by simpa using a
  rw[show fa l s'=([],0,s'.an,s'.bl) by simp[fa,a]];simp(disch:=try exact ah)only[bc,ai,i,j,e];exact aD.2 ⟨_,rfl,cj.nil _ _,z.bH ae _⟩
section
set_option maxRecDepth 100000
noncomputable section
def p3(o:e)(N:Nat)(h k aJ:aa)(H:ad):O:=i H (o 17 [aJ] H) λp d=>aO (I p) (aG d (aB P d 26 h (.agg [aa.ag,aa.ag,aa.ag])) λa=>C (bd aJ) λq=>C (j P 55 q 3) λm=>C (A P a 29 m) λn=>aG a (aB P a 29 k n) λc=>bif ((aZ (A P d 29 m) n&&(aZ (A P a 29 m) n&&Y))&&Y)then(C (A P c 26 h) λr=>C (A P c 29 k) λl=>I (.tuple [r,l],c))else u) (C (bd aJ) λs=>C (j P 55 s 2) λv=>C (A P d 26 v) λw=>aG d (aB P d 26 h w) λa=>aG a (aB P a 29 k (.agg [J U 0,J U 0])) λc=>C (A P c 26 h) λr=>C (A P c 29 k) λl=>I (.tuple [r,l],c))
def aaf(a:e)(N:Nat):∀V H,a7 P a N (L (L (L (L (L (n Tryz.f8)))))) (p Tryz.f8) [] (p Tryz.f8) V H=p3 a N (V 2) (V 3) (V 6) H:=by
 refine bm (q _) λV H=> ?_
 delta p3;kernel_rfl
def yX(a:e)(N:Nat)(m:aa->aa->aa->ad->O)(h l aJ:aa)(H:ad):O:=i H (a 17 [aJ] H) λz v=>C (cI .not z) λj=>S j Y v (bP aJ) λA o=>S j Y o (λq=>cZ o (a 18 [A] o) q) λB x=>S j Y x (k (ca P 57 B 0)) λE y=>S j Y y (k (w P .neq 3 Y E (J U 0))) λF p=>C (bC j (I F) (I (D X))) λG=>aO (I G) (i p (a 19 [aJ,J U 3,Z [114,101,99,111,114,100]] p) λK n=>aO (I K) (i n (a 20 [aJ] n) λR c=>m h l aJ c) (i n (a 19 [aJ,J U 3,Z [103,108,111,98,97,108]] n) λL c=>aO (I L) (i c (a 21 [aJ] c) λT d=>m h l aJ d) (i c (a 19 [aJ,J U 3,Z [102,117,110,99]] c) λM d=>aO (I M) (i d (a 22 [aJ] d) λV s=>m h l aJ s) (i d (a 23 [aJ,J U 2] d) λQ s=>m h l aJ s)))) (p3 a N h l aJ p)
def p4(a:e)(N:Nat):Nat->aa->aa->aa->ad->O
 |0,_,_,_,_=>u
 |n+1,c,d,aJ,H=>yX a N (p4 a N n) c d aJ H
def aae(a:e)(N:Nat)(h:aa->aa->aa->ad->O):∀V H,a7 P a N (d (d (d (L (L (L (L (n Tryz.f8)))))))) (λV H=>h (V 2) (V 3) (V 6) H) [(0,(λV H=>p3 a N (V 2) (V 3) (V 6) H))] (p Tryz.f8) V H=yX a N h (V 2) (V 3) (V 6) H:=by
 refine bm (q _) λV H=> ?_
 delta yX;generalize p3 a N=c;revert c;refine id ?_;intro c;kernel_rfl
def yN(n:e)(N:Nat)(F:aa)(H:ad):O:=bn H [aa.ag,aa.ag,aa.ag] λl s=>bn s [J U 0,J U 0] λm o=>i o (n 16 [F] o) λq v=>C (dG q 0) λy=>C (dG q 1) λz=>bn v [J U 0,J U 0] λd p=>aG p (aB P p 29 d z) λa=>C (j P 29 d 0) λB=>C (A P a 27 B) λE=>C (w P .neq 27 Y E (J U 0)) λG=>aO (I G) (aG a (aB P a 26 l (.agg [aa.ag,aa.ag,aa.ag])) λc=>C (A P c 29 d) λk=>aG c (aB P c 29 m k) λh=>bif ((aZ (A P a 29 d) k&&(aZ (A P c 29 d) k&&Y))&&Y)then(C (A P h 26 l) λr=>C (A P h 29 m) λx=>I (.tuple [r,x],h))else u) (C (bA P 55 [(0,y)]) λK=>bO a (cg (a).next K) λL c=>p4 n N N l m L c)
def Xm(N:Nat){F:aa}{H:ad}{r:aa×ad}(h:yN (al P aj) N F H=I r):al P aj 8 [F] H=I r:=bu N (S:=λa=>yN a N F H) Tryz.func8 (λa=>cG ((Q M ((Q M ((Q M ((Q M ((Q M (aaf a N) ((cn M ((cY (k:=λm V H=>p4 a N m (V 2) (V 3) (V 6) H) M (λV H=>M) (λm=>aae a N (p4 a N m)))))))) (q _))) (q _))) (q _))) (q _))) (by delta yN;generalize p4 a N N=c;revert c;refine id ?_;intro c;kernel_rfl)) h
def xJ(i:e)(F:aa)(H:ad):O:=C (bd F) λa=>C (j P 55 a 3) λc=>C (j P 29 c 0) λaJ=>C (A P H 27 aJ) λd=>C (w P .neq 27 Y d (J U 0)) λh=>I (h,H)
def V6(N:Nat){F:aa}{H:ad}{r:aa×ad}(h:xJ (al P aj) F H=I r):al P aj 17 [F] H=I r:=bu N (S:=λa=>xJ a F H) Tryz.func17 (λ_=>by delta xJ;kernel_rfl) h
def xR(B:e)(F:aa)(H:ad):O:=bn H [J U 0,Z [],J U 0,J U 0] λv a=>C (bd F) λx=>C (j P 55 x 0) λo=>C (A P a 50 o) λaJ=>C (bd F) λz=>C (j P 55 z 1) λp=>C (A P a 3 p) λh=>C (bd F) λq=>C (j P 55 q 0) λm=>C (A P a 50 m) λi=>et (bK P .empty .len [50] [i]) (bK P a .len [50] [i]) λc=>C (w P .sub 3 Y c.val (J U 1)) λk=>et (bK P .empty .min [3,3] [h,k]) (bK P (c.heap a) .min [3,3] [h,k]) λd=>C (bX P 50 aJ d.val) λn=>C (A P (d.heap (c.heap a)) 57 n) λs=>uZ (d.heap (c.heap a)) (aB P (d.heap (c.heap a)) 57 v s) λy l=>bif jN [0,1,3,7,0,16,48,112,0,256,768,1792,3840,7936,16368,32767,65535,131071] [0,1,2,3,4,5,6,7,8,9,10,11,12,13,14,15,16,17] [⟨0,.pure F,λH=>u⟩,⟨1,.pure x,λH=>u⟩,⟨2,.pure o,λH=>u⟩,⟨3,.read aJ,λH=>A P H 50 o⟩,⟨4,.pure F,λH=>u⟩,⟨5,.pure z,λH=>u⟩,⟨6,.pure p,λH=>u⟩,⟨7,.read h,λH=>A P H 3 p⟩,⟨8,.pure F,λH=>u⟩,⟨9,.pure q,λH=>u⟩,⟨10,.pure m,λH=>u⟩,⟨11,.read i,λH=>A P H 50 m⟩,⟨12,c,λH=>bK P H .len [50] [i]⟩,⟨13,.pure k,λH=>u⟩,⟨14,d,λH=>bK P H .min [3,3] [h,k]⟩,⟨15,.pure n,λH=>u⟩,⟨16,.read s,λH=>A P H 57 n⟩,⟨17,.ea y l,λH=>u⟩] a then(C (A P l 57 v) λr=>I (r,l))else u
def Wa(N:Nat){F:aa}{H:ad}{r:aa×ad}(h:xR (al P aj) F H=I r):al P aj 18 [F] H=I r:=bu N (S:=λa=>xR a F H) Tryz.func18 (λ_=>by delta xR;kernel_rfl) h
def xX(h:e)(F y Q:aa)(H:ad):O:=i H (h 18 [F] H) λae p=>bn p [J U 0,Z [],J U 0,J U 0] λd l=>aG l (aB P l 57 d ae) λm=>i m (h 17 [F] m) λG x=>C (cI .not G) λa=>S a Y x (k (j P 57 d 0)) λK n=>S a Y n (qr (A P n 3 K)) λL z=>S a Y z (bP y) λM B=>S a Y B (k (w P .eql 3 X L M)) λN E=>C (bC a (I N) (I (D X))) λc=>S c Y E (k (j P 57 d 1)) λR o=>S c Y o (qr (A P o 9 R)) λT q=>S c Y q (bP Q) λV s=>S c Y s (k (w P .eql 9 X T V)) λW v=>C (bC c (I W) (I (D X))) λab=>I (ab,v)
def Wk(N:Nat){F y a:aa}{H:ad}{r:aa×ad}(h:xX (al P aj) F y a H=I r):al P aj 19 [F,y,a] H=I r:=bu N (S:=λc=>xX c F y a H) Tryz.func19 (λ_=>by delta xX;kernel_rfl) h
def pB(l:e)(N:Nat)(F n:aa)(H:ad):O:=i H (l 50 [F,Z [125]] H) λz a=>C (bd F) λo=>C (j P 55 o 2) λp=>C (j P 26 p 0) λd=>C (A P a 22 d) λh=>C (A P a 41 n) λq=>bO a (b0 P (a).next 22 1 [(0,q)]) λs c=>i c (c_ P c [22,22] h s) λv k=>C (bd F) λw=>C (j P 55 w 2) λx=>C (j P 26 x 0) λy=>aG k (aB P k 22 y v) λm=>bif ((aZ (A P a 22 d) h&&(aZ (A P c 22 d) h&&Y))&&Y)then(I (.tuple [],m))else u
def YS(a:e)(N:Nat):∀V H,a7 P a N (L (L (L (L (L (L (n Tryz.f20))))))) (p Tryz.f20) [] (p Tryz.f20) V H=pB a N (V 0) (V 3) H:=by
 refine bm (q _) λV H=> ?_
 delta pB;kernel_rfl
def x4(a:e)(N:Nat)(M:aa->aa->ad->O)(F d:aa)(H:ad):O:=i H (a 17 [F] H) λV Q=>C (cI .not V) λo=>S o Y Q (bP F) λW x=>S o Y x (λq=>cZ x (a 19 [W,J U 4,Z [125]] x) q) λab T=>S o Y T (k (cI .not ab)) λae h=>C (bC o (I ae) (I (D X))) λaf=>aO (I af) (i h (a 18 [F] h) λG c=>C (ca P 57 G 0) λK=>C (w P .eql 3 Y K (J U 1)) λL=>C (j P 41 d 1) λz=>C (A P c 23 z) λp=>et (bK P .empty .len [23] [p]) (bK P c .len [23] [p]) λn=>i (n.heap c) (a 48 [F,L,n.val,J U 8] (n.heap c)) λah l=>bif jN [0,0,2,6,14,0,32,96,255] [1,2,3,4,8] [⟨1,.pure F,λH=>u⟩,⟨2,.ea G c,λH=>u⟩,⟨0,.pure F,λH=>u⟩,⟨3,.pure K,λH=>u⟩,⟨4,.pure L,λH=>u⟩,⟨5,.pure z,λH=>u⟩,⟨6,.read p,λH=>A P H 23 z⟩,⟨7,n,λH=>bK P H .len [23] [p]⟩,⟨8,.ea ah l,λH=>u⟩] h then(i l (a 51 [F] l) λai m=>C (j P 41 d 1) λs=>C (A P m 23 s) λv=>bO m (b0 P (m).next 23 1 [(0,ai)]) λaj y=>i y (c_ P y [23,23] v aj) λak E=>C (j P 41 d 1) λal=>aG E (aB P E 23 al ak) λB=>bif ((aZ (A P l 23 s) v&&(aZ (A P m 23 s) v&&(aZ (A P y 23 s) v&&Y)))&&Y)then(i B (a 50 [F,Z [59]] B) λam R=>M F d R)else u)else u) (pB a N F d h)
def pC(a:e)(N:Nat):Nat->aa->aa->ad->O
 |0,_,_,_=>u
 |n+1,F,c,H=>x4 a N (pC a N n) F c H
def YR(a:e)(N:Nat)(h:aa->aa->ad->O):∀V H,a7 P a N (d (d (d (L (L (L (L (L (n Tryz.f20))))))))) (λV H=>h (V 0) (V 3) H) [(0,(λV H=>pB a N (V 0) (V 3) H))] (p Tryz.f20) V H=x4 a N h (V 0) (V 3) H:=by
 refine bm (q _) λV H=> ?_
 delta x4;generalize pB a N=c;revert c;refine id ?_;intro c;kernel_rfl
def x3(a:e)(N:Nat)(F:aa)(H:ad):O:=C (bd F) λaJ=>C (j P 55 aJ 2) λS=>C (j P 26 S 0) λT=>C (A P H 22 T) λV=>bU P .len [22] [V] H λs=>i H (a 48 [F,D Y,s,J U 12] H) λW c=>C (bd F) λv=>C (j P 55 v 1) λx=>C (A P c 3 x) λy=>C (w P .add 3 Y y (J U 1)) λz=>C (bd F) λB=>C (j P 55 B 1) λE=>aG c (aB P c 3 E z) λk=>i k (a 49 [F] k) λG p=>bn p [J U 0,Z [],J U 0,J U 0] λh l=>aG l (aB P l 57 h G) λd=>C (j P 57 h 1) λK=>C (A P d 9 K) λL=>C (j P 57 h 3) λM=>C (A P d 3 M) λQ=>C (bA P 41 [(0,L),(2,Q)]) λR=>bn d [Z [],aa.ag,J U 0] λo m=>aG m (aB P m 41 o R) λn=>i n (a 50 [F,Z [123]] n) λab q=>pC a N N F o q
def Wr(N:Nat){F:aa}{H:ad}{r:aa×ad}(h:x3 (al P aj) N F H=I r):al P aj 20 [F] H=I r:=bu N (S:=λa=>x3 a N F H) Tryz.func20 (λa=>cG ((Q M ((Q M ((Q M ((Q M ((Q M ((Q M (YS a N) ((cn M ((cY (k:=λm V H=>pC a N m (V 0) (V 3) H) M (λV H=>M) (λm=>YR a N (pC a N m)))))))) (q _))) (q _))) (q _))) (q _))) (q _))) (by delta x3;generalize pC a N N=c;revert c;refine id ?_;intro c;kernel_rfl)) h
def x5(c:e)(F:aa)(H:ad):O:=C (bd F) λW=>C (j P 55 W 2) λaJ=>C (j P 26 aJ 1) λab=>C (A P H 23 ab) λae=>bU P .len [23] [ae] H λaf=>i H (c 48 [F,D Y,af,J U 8] H) λah d=>C (bd F) λx=>C (j P 55 x 1) λy=>C (A P d 3 y) λz=>C (w P .add 3 Y z (J U 1)) λB=>C (bd F) λE=>C (j P 55 E 1) λG=>aG d (aB P d 3 G B) λm=>i m (c 51 [F] m) λK s=>bn s [Z [],Z [],J U 0,J U 0] λq n=>aG n (aB P n 66 q K) λo=>i o (c 50 [F,Z [59]] o) λai a=>C (bd F) λL=>C (j P 55 L 2) λM=>C (j P 26 M 1) λk=>C (A P a 23 k) λl=>C (A P a 66 q) λN=>bO a (b0 P (a).next 23 1 [(0,N)]) λQ h=>i h (c_ P h [23,23] l Q) λR p=>C (bd F) λS=>C (j P 55 S 2) λT=>C (j P 26 T 1) λV=>aG p (aB P p 23 V R) λv=>bif ((aZ (A P a 23 k) l&&(aZ (A P h 23 k) l&&Y))&&Y)then(I (.tuple [],v))else u
def Ws(N:Nat){F:aa}{H:ad}{r:aa×ad}(h:x5 (al P aj) F H=I r):al P aj 21 [F] H=I r:=bu N (S:=λa=>x5 a F H) Tryz.func21 (λ_=>by delta x5;kernel_rfl) h
def pD(d:e)(N:Nat)(F s:aa)(H:ad):O:=i H (d 17 [F] H) λE a=>aO (I E) (I (.tuple [],a)) (C (bd F) λG=>C (j P 55 G 0) λv=>C (A P a 50 v) λw=>C (bd F) λK=>C (j P 55 K 1) λx=>C (A P a 3 x) λy=>i a (d 55 [w,y,J U 0] a) λl z=>C (dG l 0) λL=>C (dG l 1) λM=>C (dG l 2) λQ=>bn z [J U 0,J U 0] λaJ o=>aG o (aB P o 29 aJ Q) λh=>bif ((aZ (A P a 50 v) w&&Y)&&((aZ (A P a 3 x) y&&Y)&&Y))then(C (A P h 29 aJ) λR=>i h (d 56 [F,M,R] h) λaj p=>C (j P 46 s 4) λS=>aG p (aB P p 44 S L) λc=>C (bd F) λT=>C (j P 55 T 2) λV=>C (j P 26 V 2) λm=>C (A P c 24 m) λn=>C (A P c 46 s) λW=>bO c (b0 P (c).next 24 1 [(0,W)]) λab k=>i k (c_ P k [24,24] n ab) λae q=>C (bd F) λaf=>C (j P 55 af 2) λah=>C (j P 26 ah 2) λai=>aG q (aB P q 24 ai ae) λB=>bif ((aZ (A P c 24 m) n&&(aZ (A P k 24 m) n&&Y))&&Y)then(I (.tuple [],B))else u)else u)
def YV(a:e)(N:Nat):∀V H,a7 P a N (L (L (L (L (L (L (L (L (n Tryz.f22))))))))) (p Tryz.f22) [] (p Tryz.f22) V H=pD a N (V 0) (V 3) H:=by
 refine bm (q _) λV H=> ?_
 delta pD;kernel_rfl
def ma(a:e)(N:Nat)(F c:aa)(H:ad):O:=i H (a 50 [F,Z [41]] H) λs h=>i h (a 53 [F,J U 4,Z [58]] h) λn d=>aO (I n) (i d (a 54 [F] d) λo k=>C (j P 46 c 2) λp=>aG k (aB P k 4 p (D Y)) λl=>C (j P 46 c 3) λq=>aG l (aB P l 43 q o) λm=>pD a N F c m) (pD a N F c d)
def YU(a:e)(N:Nat):∀V H,a7 P a N (L (L (L (L (L (L (n Tryz.f22))))))) (p Tryz.f22) [] (p Tryz.f22) V H=ma a N (V 0) (V 3) H:=by
 refine bm ((Q M ((Q M (YV a N) (q _))) (q _))) λV H=> ?_
 delta ma;generalize pD a N=c;revert c;refine id ?_;intro c;kernel_rfl
def x7(a:e)(N:Nat)(h:aa->aa->ad->O)(F d:aa)(H:ad):O:=i H (a 53 [F,J U 4,Z [44]] H) λk c=>aO (I k) (i c (a 52 [F,d] c) λl j=>h F d j) (ma a N F d c)
def pE(a:e)(N:Nat):Nat->aa->aa->ad->O
 |0,_,_,_=>u
 |n+1,F,c,H=>x7 a N (pE a N n) F c H
def YT(a:e)(N:Nat)(h:aa->aa->ad->O):∀V H,a7 P a N (d (d (L (d (L (d (L (L (L (L (L (n Tryz.f22)))))))))))) (λV H=>h (V 0) (V 3) H) [(0,(λV H=>ma a N (V 0) (V 3) H))] (p Tryz.f22) V H=x7 a N h (V 0) (V 3) H:=by
 refine bm (q _) λV H=> ?_
 delta x7;generalize ma a N=c;revert c;refine id ?_;intro c;kernel_rfl
def x6(a:e)(N:Nat)(F:aa)(H:ad):O:=C (bd F) λah=>C (j P 55 ah 2) λx=>C (j P 26 x 2) λy=>C (A P H 24 y) λz=>bU P .len [24] [z] H λB=>i H (a 48 [F,D Y,B,J U 16] H) λai d=>C (bd F) λE=>C (j P 55 E 1) λG=>C (A P d 3 G) λK=>C (w P .add 3 Y K (J U 1)) λL=>C (bd F) λM=>C (j P 55 M 1) λQ=>aG d (aB P d 3 Q L) λm=>i m (a 49 [F] m) λR v=>bn v [J U 0,Z [],J U 0,J U 0] λl n=>aG n (aB P n 57 l R) λh=>C (j P 57 l 1) λS=>C (A P h 9 S) λT=>C (j P 57 l 3) λV=>C (A P h 3 V) λW=>C (bA P 46 [(0,T),(5,W)]) λab=>bn h [Z [],aa.ag,D X,Z [],J U 0,aa.ag,J U 0] λc o=>aG o (aB P o 46 c ab) λp=>i p (a 50 [F,Z [40]] p) λaj q=>i q (a 19 [F,J U 4,Z [41]] q) λae k=>C (cI .not ae) λaf=>aO (I af) (i k (a 52 [F,c] k) λak s=>pE a N N F c s) (ma a N F c k)
def Wt(N:Nat){F:aa}{H:ad}{r:aa×ad}(h:x6 (al P aj) N F H=I r):al P aj 22 [F] H=I r:=bu N (S:=λa=>x6 a N F H) Tryz.func22 (λa=>cG ((Q M ((Q M ((Q M ((Q M ((Q M ((Q M (YU a N) ((Q M ((e6 M ((Q M ((cn M ((cY (k:=λm V H=>pE a N m (V 0) (V 3) H) M (λV H=>M) (λm=>YT a N (pE a N m)))))) (q _))) (q _))) (q _))))) (q _))) (q _))) (q _))) (q _))) (q _))) (by delta x6;generalize ma a N=c;generalize pE a N N=d;revert c d;refine id ?_;intro c d;kernel_rfl)) h
def x8(c:e)(F y:aa)(H:ad):O:=i H (c 17 [F] H) λp a=>C (cI .not p) λaJ=>aO (I aJ) (i a (c 18 [F] a) λk d=>C (ca P 57 k 3) λl=>C (bA P 29 [(0,y),(1,l)]) λm=>C (bd F) λn=>C (j P 55 n 3) λo=>aG d (aB P d 29 o m) λh=>I (.tuple [],h)) (I (.tuple [],a))
def Wu(N:Nat){F y:aa}{H:ad}{r:aa×ad}(h:x8 (al P aj) F y H=I r):al P aj 23 [F,y] H=I r:=bu N (S:=λa=>x8 a F y H) Tryz.func23 (λ_=>by delta x8;kernel_rfl) h
def r4(c:e)(F y:aa)(p q:aa)(H:ad):O:=S y Y H (bP p) λl d=>S y Y d (bP q) λm h=>S y Y h (k (w P .geq 3 X l m)) λn a=>C (bC y (I n) (I (D X))) λo=>aO (I o) (i a (c 23 [F,J U 4] a) λs j=>I (.tuple [],j)) (I (.tuple [],a))
def WR(N:Nat){F y a c:aa}{H:ad}{r:aa×ad}(h:r4 (al P aj) F y a c H=I r):al P aj 48 [F,y,a,c] H=I r:=bu N (S:=λd=>r4 d F y a c H) Tryz.func48 (λ_=>by delta r4;kernel_rfl) h
def yl(l:e)(F:aa)(H:ad):O:=bn H [J U 0,Z [],J U 0,J U 0] λh m=>i m (l 18 [F] m) λB o=>bn o [J U 0,Z [],J U 0,J U 0] λk n=>aG n (aB P n 57 k B) λa=>C (j P 57 k 0) λaJ=>C (A P a 3 aJ) λE=>C (w P .neq 3 Y E (J U 1)) λG=>aO (I G) (i a (l 23 [F,J U 2] a) λK c=>aG c (aB P c 57 h (.agg [J U 0,Z [],J U 0,J U 0])) λd=>C (A P d 57 h) λr=>I (r,d)) (C (bd F) λp=>C (j P 55 p 1) λq=>C (A P a 3 q) λs=>C (w P .add 3 Y s (J U 1)) λv=>C (bd F) λx=>C (j P 55 x 1) λy=>aG a (aB P a 3 y v) λc=>C (A P c 57 k) λz=>aG c (aB P c 57 h z) λd=>C (A P d 57 h) λr=>I (r,d))
def WS(N:Nat){F:aa}{H:ad}{r:aa×ad}(h:yl (al P aj) F H=I r):al P aj 49 [F] H=I r:=bu N (S:=λa=>yl a F H) Tryz.func49 (λ_=>by delta yl;kernel_rfl) h
def yn(c:e)(F y:aa)(H:ad):O:=i H (c 53 [F,J U 4,y] H) λaJ a=>C (cI .not aJ) λh=>aO (I h) (i a (c 23 [F,J U 2] a) λj d=>I (.tuple [],d)) (I (.tuple [],a))
def WT(N:Nat){F y:aa}{H:ad}{r:aa×ad}(h:yn (al P aj) F y H=I r):al P aj 50 [F,y] H=I r:=bu N (S:=λa=>yn a F y H) Tryz.func50 (λ_=>by delta yn;kernel_rfl) h
def yo(d:e)(F:aa)(H:ad):O:=bn H [Z [],Z [],J U 0,J U 0] λv o=>i o (d 49 [F] o) λz w=>bn w [J U 0,Z [],J U 0,J U 0] λl p=>aG p (aB P p 57 l z) λq=>i q (d 50 [F,Z [58]] q) λB c=>i c (d 54 [F] c) λx a=>C (j P 57 l 1) λm=>C (A P a 9 m) λn=>C (j P 57 l 3) λh=>C (A P a 3 h) λk=>C (bA P 66 [(0,n),(1,x),(2,k)]) λy=>aG a (aB P a 66 v y) λs=>bif ((aZ (A P c 9 m) n&&(aZ (A P a 9 m) n&&Y))&&((aZ (A P c 3 h) k&&(aZ (A P a 3 h) k&&Y))&&Y))then(C (A P s 66 v) λr=>I (r,s))else u
def WU(N:Nat){F:aa}{H:ad}{r:aa×ad}(h:yo (al P aj) F H=I r):al P aj 51 [F] H=I r:=bu N (S:=λa=>yo a F H) Tryz.func51 (λ_=>by delta yo;kernel_rfl) h
def yp(n:e)(F y:aa)(H:ad):O:=i H (n 18 [F] H) λaJ a=>C (ca P 57 aJ 0) λv=>C (w P .eql 3 Y v (J U 1)) λx=>C (bd y) λs=>C (j P 46 s 1) λp=>C (A P a 23 p) λk=>et (bK P .empty .len [23] [k]) (bK P a .len [23] [k]) λh=>i (h.heap a) (n 48 [F,x,h.val,J U 6] (h.heap a)) λB c=>bif jN [0,0,2,6,14,0,32,96,224,480,1023] [1,2,3,4,10] [⟨1,.pure F,λH=>u⟩,⟨2,.ea aJ a,λH=>u⟩,⟨0,.pure F,λH=>u⟩,⟨3,.pure v,λH=>u⟩,⟨4,.pure x,λH=>u⟩,⟨5,.pure y,λH=>u⟩,⟨6,.pure s,λH=>u⟩,⟨7,.pure p,λH=>u⟩,⟨8,.read k,λH=>A P H 23 p⟩,⟨9,h,λH=>bK P H .len [23] [k]⟩,⟨10,.ea B c,λH=>u⟩] H then(i c (n 51 [F] c) λG d=>C (bd y) λE=>C (j P 46 E 1) λl=>C (A P d 23 l) λm=>bO d (b0 P (d).next 23 1 [(0,G)]) λK o=>i o (c_ P o [23,23] m K) λL q=>C (bd y) λM=>C (j P 46 M 1) λN=>aG q (aB P q 23 N L) λz=>bif ((aZ (A P c 23 l) m&&(aZ (A P d 23 l) m&&(aZ (A P o 23 l) m&&Y)))&&Y)then(I (.tuple [],z))else u)else u
def WV(N:Nat){F y:aa}{H:ad}{r:aa×ad}(h:yp (al P aj) F y H=I r):al P aj 52 [F,y] H=I r:=bu N (S:=λa=>yp a F y H) Tryz.func52 (λ_=>by delta yp;kernel_rfl) h
def yq(c:e)(F y s:aa)(H:ad):O:=i H (c 19 [F,y,s] H) λh a=>C (cI .not h) λk=>aO (I k) (I ((D X),a)) (C (bd F) λl=>C (j P 55 l 1) λm=>C (A P a 3 m) λn=>C (w P .add 3 Y n (J U 1)) λo=>C (bd F) λp=>C (j P 55 p 1) λq=>aG a (aB P a 3 q o) λd=>I ((D Y),d))
def WW(N:Nat){F y a:aa}{H:ad}{r:aa×ad}(h:yq (al P aj) F y a H=I r):al P aj 53 [F,y,a] H=I r:=bu N (S:=λc=>yq c F y a H) Tryz.func53 (λ_=>by delta yq;kernel_rfl) h
def yr(h:e)(F:aa)(H:ad):O:=bn H [Z [],J U 0] λd n=>i n (h 17 [F] n) λR a=>aO (I R) (aG a (aB P a 43 d (.agg [Z [],J U 0])) λc=>C (A P c 43 d) λr=>I (r,c)) (C (bd F) λE=>C (j P 55 E 0) λs=>C (A P a 50 s) λv=>C (bd F) λG=>C (j P 55 G 1) λw=>C (A P a 3 w) λx=>i a (h 73 [v,x] a) λm c=>C (dG m 0) λK=>bn c [Z [],J U 0] λy B=>bn B [J U 0,J U 0] λz o=>aG o (aB P o 43 y K) λp=>C (dG m 1) λL=>C (dG m 2) λM=>aG p (aB P p 29 z M) λk=>bif ((aZ (A P a 50 s) v&&Y)&&((aZ (A P a 3 w) x&&Y)&&Y))then(C (A P k 29 z) λN=>i k (h 56 [F,L,N] k) λS l=>C (A P l 43 y) λQ=>aG l (aB P l 43 d Q) λq=>C (A P q 43 d) λr=>I (r,q))else u)
def WY(N:Nat){F:aa}{H:ad}{r:aa×ad}(h:yr (al P aj) F H=I r):al P aj 54 [F] H=I r:=bu N (S:=λa=>yr a F H) Tryz.func54 (λ_=>by delta yr;kernel_rfl) h
def uF(q:e)(F y n:aa)(H:ad):O:=bO H (cg (H).next n) λd a=>C (j P 29 d 0) λaJ=>C (A P a 27 aJ) λo=>C (w P .neq 27 Y o (J U 0)) λp=>aO (I p) (C (A P a 29 d) λh=>C (bd F) λi=>C (j P 55 i 3) λk=>aG a (aB P a 29 k h) λc=>I (.tuple [],c)) (C (bd F) λl=>C (j P 55 l 1) λm=>aG a (aB P a 3 m y) λc=>I (.tuple [],c))
def W0(N:Nat){F y a:aa}{H:ad}{r:aa×ad}(h:uF (al P aj) F y a H=I r):al P aj 56 [F,y,a] H=I r:=bu N (S:=λc=>uF c F y a H) Tryz.func56 (λ_=>by delta uF;kernel_rfl) h
end
end
end Go.Proofs.YtghmbpmaafnodaaGreatDoor
namespace Go.bk
 @[congr] theorem acb {H H':ad} {cs a:List aa} {k:aa->ad->O} {z:Nat} (d:H=H') (e:cs=a) (c:hv=z):bn H cs k=bn H' a k:=by rw[d,e]
 @[congr] theorem ab8 {ms a:List Nat} {T:List ge} {H:ad} {z:Nat} (c:hv=z):jN ms a T H=jN ms a T H:=rfl
def OG{ms a:List Nat}{T:List ge}{H:ad}:∀S:List ge,S.all (λt=>a.contains t.i)=Y->oa ms a T H S=Y
 |[],_=>rfl
 |t::ts,h=>by
  simp only[jk,Bool.and_eq_true]at h;rw[oa,OG ts h.2,lm];split
  ·rw[h.1,Bool.true_or]
  ·rfl
def QS{ms a:List Nat}{T:List ge}{H:ad}(c:m0 ms T []=Y)(d:T.all (λt=>a.contains t.i)=Y):jN ms a T H=true:=by
 rw[jN,c,OG T d];rfl
end Go.bk
namespace Go.Proofs.YtghmbpmaafnodaaGreatDoor
open Go.bk
structure eh(T:List Tok):Prop where
 n:T.length<=20000000
 g:Good T ((T.length:Int)-1)
def e0(af rv gv fv:aa)(s:am):b_:= .row X 7 [[af,J U s.at_,rv,gv,fv,J U s.an,J U s.bl]]
structure c8(H:ad)(r:Nat)(T:List Tok)(af rv gv fv:aa)(s:am):Prop where
 rd:H.get r=some (e0 af rv gv fv s)
 ba:eR H af T
 a0:0<=s.at_
 aI:s.at_<T.length
 n:T.length<=20000000
 z:s.an=0->s.bl=0
 o:s.aY=0
 one:rv.one=true/\gv.one=true/\fv.one=true
section
variable {H H':ad}{r:Nat}{T:List Tok}{af rv gv fv:aa}{s s':am}
def c8.lt(h:c8 H r T af rv gv fv s):r<H.next:=ad.aF h.rd
def c8.av(h:c8 H r T af rv gv fv s)(p:aw H H'):c8 H' r T af rv gv fv s:=⟨p.get h.rd,h.ba.av p,h.a0,h.aI,h.n,h.z,h.o,h.one⟩
def c8.NL(h:c8 H r T af rv gv fv s)(m:bs r H H'):eR H' af T:=h.ba.aP λl ro els e=>m.get e (by
 rintro rfl;rw[h.rd]at e;simp only[e0,aT,b_.row.injEq]at e;omega)
def c8.set(h:c8 H r T af rv gv fv s)(s':am)(a0:0<=s'.at_)(aI:s'.at_<T.length)(z:s'.an=0->s'.bl=0)(o:s'.aY=0):bs r H (H.set r (e0 af rv gv fv s'))/\c8 (H.set r (e0 af rv gv fv s')) r T af rv gv fv s':=by
 have m:bs r H (H.set r (e0 af rv gv fv s')):=bV.bH (S:=(· =r)) (bV.refl _ _) (.inl rfl) _;exact⟨m,ad.get_set_same h.lt,h.NL m,a0,aI,h.n,z,o,h.one⟩
def c8.fin(h:c8 H r T af rv gv fv s)(m:bs r H H')(a:H'.get r=I (e0 af rv gv fv s'))(a0:0<=s'.at_)(aI:s'.at_<T.length)(z:s'.an=0->s'.bl=0)(o:s'.aY=0):c8 H' r T af rv gv fv s':=⟨a,h.NL m,a0,aI,h.n,z,o,h.one⟩
def eh.next(ar:eh T)(h:(G T s.at_).kind≠0):s.at_+1<T.length:=by have:=ar.g.lt _ h;omega
def Cf(ar:eh T)(h:c8 H r T af rv gv fv s)(a:(G T s.at_).kind≠0):ao s={s with at_:=s.at_+1}/\0<=(ao s).at_/\(ao s).at_<T.length:=by
 have:=ar.next a
 have c:=h.a0;have d:=ar.n;have e:ao s={s with at_:=s.at_+1}:=by
  unfold ao dY;rw[IntWalk.i64_in _ ⟨ae,ae⟩]
 rw[e];exact⟨rfl,by(try simp only);omega,by(try simp only);omega⟩
def Tt{H:ad}(a b:Int):bK P H .min [3,3] [J U a,J U b]=I (J U (if b<a then b else a)):=by
 simp only[bK,vh]
def eR.rd(h:eR H af T):aZ (I af) af=true:=by
 rcases h with⟨rfl,_⟩|⟨l,i,cap,rfl,_⟩
 ·rfl
 ·exact l3 _ _ _ _ _
def o1(h:c8 H r T af rv gv fv s):W (al P aj 17 [.ptr r 0 0] H) λv H'=>v= D (s.an != 0)/\H'=H:=by
 refine bt (λ_=>V6 0) ?_;have a:=h.rd;unfold e0 at a;simp only[xJ,ai,a];exact aD.2 ⟨rfl,rfl⟩
def rl(h:c8 H r T af rv gv fv s):W (al P aj 18 [.ptr r 0 0] H) λv H'=>v=(G T s.at_).v/\aw H H':=by
 have j:=h.rd;unfold e0 at j;have ak:=h.lt;refine bt (λ_=>Wa 0) ?_;have a0:=h.a0;have aI:=h.aI;rcases h.ba with⟨rfl,e⟩|⟨l,i,cap,rfl,o⟩
 ·rw[e]at aI;simp at aI;omega
 have a:s.at_.toNat<T.length:=ae;obtain⟨ro,els,c,p⟩:=o.resolve_left (by rintro rfl;simp at a);have x:=ad.aF c;have d:=p s.at_.toNat T[s.at_.toNat] (by simp[a]);simp only[Tok.cells]at d;have y:=h.n;have w:IntKind.i64.wrap ((T.length:Int)-1)=(T.length:Int)-1:=IntWalk.i64_in _ ⟨ae,ae⟩;have q:(if(T.length:Int)-1<s.at_ then(T.length:Int)-1 else s.at_)=s.at_:=if_neg ae;simp(disch:=try exact ah)only[xR,bc,ai,j,Tt,w,q,c,d,ab5];refine qk (QS M M) ?_;simp(disch:=try exact ah)only[ai];refine aD.2 ⟨?_,aw.push _ _⟩;have k:¬s.at_<0:=ae;have m:¬(T.length:Int)<=s.at_:=ae;simp[G,k,m,Tok.v,a]
def wg(h:c8 H r T af rv gv fv s){e:Int}(l:e≠0):W (al P aj 23 [.ptr r 0 0,J U e] H) λv H'=>v= .tuple []/\bs r H H'/\c8 H' r T af rv gv fv (bx T e s):=by
 refine bt (λ_=>Wu 0) ?_;have w:=h.ba.one;obtain⟨bI,b2,cM⟩:=h.one;rw[x8];refine aA (o1 h) ?_;rintro _ H1 ⟨rfl,rfl⟩;refine⟨aV _,?_⟩;by_cases a:s.an=0
 ·rw[show bx T e s={s with an:=e,bl:=(G T s.at_).pos} by simp[bx,a]];simp only[aR,a,bne_self_eq_false,cd];refine aA (rl h) ?_;rintro _ p ⟨rfl,d⟩;refine⟨d.1,?_⟩;have c:=h.av d;have i:=c.rd;unfold e0 at i;have q:=c.lt;simp only[bc,ai,Tok.v,i];obtain⟨m,k⟩:=c.set {s with an:=e,bl:=(G T s.at_).pos} h.a0 h.aI (λn=>absurd n l) h.o;exact aD.2 ⟨rfl,(d.mut _).trans m,k⟩
 ·have j:(s.an != 0)=true:=by simpa using a
  rw[show bx T e s=s by simp[bx,a]];simp only[aR,j,ef];exact aD.2 ⟨rfl,bV.refl _ _,h⟩
def re(h:c8 H r T af rv gv fv s)(k:Int)(x:ay):W (al P aj 19 [.ptr r 0 0,J U k,Z x] H) λv H'=>v= D (a8 T s k x)/\aw H H':=by
 refine bt (λ_=>Wk 0) ?_;rw[xX];refine aA (rl h) ?_;rintro _ H1 ⟨rfl,c⟩;refine⟨c.1,?_⟩;simp only[bc,ai,Tok.v];refine aA (o1 (h.av (c.a1 _))) ?_;rintro _ j ⟨rfl,rfl⟩;refine⟨aV _,?_⟩;by_cases a:s.an=0
 ·by_cases d:(G T s.at_).kind=k
  ·simp only[ai,aD,a,d,bne_self_eq_false,cd,beq_self_eq_true];exact⟨by simp[a8,a,d],c.a1 _⟩
  ·have i:((G T s.at_).kind==k)=false:=by simpa using d
   simp only[ai,aD,a,i,bne_self_eq_false,cd];exact⟨by simp[a8,d],c.a1 _⟩
 ·have e:(s.an != 0)=true:=by simpa using a
  simp only[ai,aD,e,ef];exact⟨by simp[a8,a],c.a1 _⟩
def B5(ar:eh T)(h:c8 H r T af rv gv fv s){k:Int}(l:k≠0)(x:ay):W (al P aj 53 [.ptr r 0 0,J U k,Z x] H) λv H'=>v= D (cK T k x s).1/\bs r H H'/\c8 H' r T af rv gv fv (cK T k x s).2:=by
 refine bt (λ_=>WW 0) ?_;have q:=h.ba.one;obtain⟨bI,b2,cM⟩:=h.one;rw[yq];refine aA (re h k x) ?_;rintro _ H1 ⟨rfl,c⟩;refine⟨c.1,?_⟩;have a:=h.av c;have e:=a.rd;unfold e0 at e;have p:=a.lt;cases d:a8 T s k x with
 |false=>
  rw[show cK T k x s=(X,s) by simp[cK,d]];simp only[ai,cd];exact aD.2 ⟨rfl,c.mut _,a⟩
 |true=>
  rw[show cK T k x s=(Y,ao s) by simp[cK,d]];have n:=(km d).2.1;obtain⟨-,g0,i⟩:=Cf ar h (by rw[n];exact l);simp only[bc,de,ai,e,ef];obtain⟨m,j⟩:=a.set (ao s) g0 i h.z h.o;exact aD.2 ⟨rfl,(c.mut _).trans m,j⟩
def o4(ar:eh T)(h:c8 H r T af rv gv fv s)(x:ay):W (al P aj 50 [.ptr r 0 0,Z x] H) λv H'=>v= .tuple []/\bs r H H'/\c8 H' r T af rv gv fv (bD T x s).2:=by
 refine bt (λ_=>WT 0) ?_;rw[yn];refine aA (B5 ar h (k:=4) aC x) ?_;rintro _ H1 ⟨rfl,d,c⟩;refine⟨d.1,?_⟩;cases a:a8 T s 4 x with
 |false=>
  rw[show cK T 4 x s=(X,s) by simp[cK,a]]at c ⊢;rw[show bD T x s=(X,bx T 2 s) by simp[bD,a]];simp only[ai,cd];refine aA (wg c (e:=2) aC) ?_;rintro _ l ⟨rfl,i,j⟩;refine⟨i.1,?_⟩;exact aD.2 ⟨rfl,d.trans i,j⟩
 |true=>
  rw[show cK T 4 x s=(Y,ao s) by simp[cK,a]]at c ⊢;rw[show bD T x s=(Y,ao s) by simp[bD,a]];simp only[ai,ef];exact aD.2 ⟨rfl,d,c⟩
def dM(T:List Tok)(b:Bool)(a c:Int)(s:am):am:=bif b&&decide (c<=a)then bx T 4 s else s
def tH(h:c8 H r T af rv gv fv s)(b:Bool)(x y:Int):W (al P aj 48 [.ptr r 0 0,D b,J U x,J U y] H) λv H'=>v= .tuple []/\bs r H H'/\c8 H' r T af rv gv fv (dM T b x y s):=by
 refine bt (λ_=>WR 0) ?_;unfold dM;cases b with
 |false=>
  simp only[r4,ai];exact aD.2 ⟨rfl,bV.refl _ _,h⟩
 |true=>
  by_cases a:y<=x
  ·simp only[r4,ai,a,decide_true];refine aA (wg h (e:=4) aC) ?_;rintro _ i ⟨rfl,c,d⟩;refine⟨c.1,aD.2 ⟨rfl,c,?_⟩⟩;exact d
  ·simp only[r4,ai,a,decide_false];exact aD.2 ⟨rfl,bV.refl _ _,h⟩
def eJ(T:List Tok)(s:am):Tok×am:=bif (G T s.at_).kind != 1 then(.none,bx T 2 s)else(G T s.at_,ao s)
def B1(ar:eh T)(h:c8 H r T af rv gv fv s):W (al P aj 49 [.ptr r 0 0] H) λv H'=>v=(eJ T s).1.v/\bs r H H'/\c8 H' r T af rv gv fv (eJ T s).2:=by
 refine bt (λ_=>WS 0) ?_;have N:=h.ba.one;obtain⟨bI,b2,cM⟩:=h.one;have y:=aw.push H (.row X 4 [[J U 0,Z [],J U 0,J U 0]]);simp(disch:=try exact ah)only[yl,aR,gh,ij,hi,bc];refine aA (rl (h.av y)) ?_;rintro _ H1 ⟨rfl,i⟩;refine⟨i.1,?_⟩;have C:=i.get (ad.a_ H (.row X 4 [[J U 0,Z [],J U 0,J U 0]]));have K:=i.1;simp only[ad.bb]at K;have F:=ad.a_ H1 (.row X 4 [[J U (G T s.at_).kind,Z (G T s.at_).text,J U (G T s.at_).n,J U (G T s.at_).pos]]);have l:=(y.trans i).a1 (.row X 4 [[J U (G T s.at_).kind,Z (G T s.at_).text,J U (G T s.at_).n,J U (G T s.at_).pos]])
 have q:=(aw.push H1 (.row X 4 [[J U (G T s.at_).kind,Z (G T s.at_).text,J U (G T s.at_).n,J U (G T s.at_).pos]])).get C;have d:=h.av l;have ak:=h.lt;unfold eJ;cases j:((G T s.at_).kind != 1)with
 |true=>
  simp(disch:=try exact ah)only[aR,A,bL,aB,bL,bc,aa.cells,cD,cw,b7,b8,cX,Tok.v,j];refine aA (wg d (e:=2) aC) ?_;rintro _ B ⟨rfl,k,a⟩;refine⟨k.1,?_⟩;have w:=k.get q ae;have dt:=ad.aF w;simp(disch:=try exact ah)only[bc,ai,w];have c:bs r H (B.set H.next (.row X 4 [[J U 0,Z [],J U 0,J U 0]])):=((l.mut _).trans k).bH (.inr (aV _)) _;exact aD.2 ⟨rfl,c,h.fin c (by rw[ad.get_set_other ae];exact a.rd) a.a0 a.aI a.z a.o⟩
 |false=>
  have L:(G T s.at_).kind=1:=by simpa using j
  obtain⟨-,g0,p⟩:=Cf ar h ae;have x:=d.rd;unfold e0 at x;have M:=d.lt;obtain⟨m,E⟩:=d.set (ao s) g0 p h.z h.o;simp(disch:=try exact ah)only[aR,A,bL,aB,bL,bc,de,aa.cells,cD,cw,b7,b8,cX,Tok.v,j,x,q,F];have c:=((l.mut (· =r)).trans m).bH (.inr (aV _)) (.row X 4 [[J U (G T s.at_).kind,Z (G T s.at_).text,J U (G T s.at_).n,J U (G T s.at_).pos]]);exact aD.2 ⟨rfl,c,h.fin c (by rw[ad.get_set_other ae];exact E.rd) g0 p h.z h.o⟩
def ii(at_ e a:Int)(s:am):am:=if e≠0 then {s with an:=e,bl:=a}else {s with at_:=at_}
def Lq(h:c8 H r T af rv gv fv s)(at_ e a:Int)(w:e=0->0<=at_/\at_<T.length):W (al P aj 56 [.ptr r 0 0,J U at_,.agg [J U e,J U a]] H) λv H'=>v= .tuple []/\bs r H H'/\c8 H' r T af rv gv fv (ii at_ e a s):=by
 refine bt (λ_=>W0 0) ?_;have x:=h.ba.one;obtain⟨bI,b2,cM⟩:=h.one;have p:∀l,cg l (.agg [J U e,J U a])=I (.ptr l 0 0,.row X 2 [[J U e,J U a]]):=λl=>ei l _ rfl
 have n:=aw.push H (.row X 2 [[J U e,J U a]]);have d:=h.av n;have k:=d.rd;unfold e0 at k;have ak:=h.lt;by_cases c:e=0
 ·have i:(e != 0)=false:=by simp[c]
  obtain⟨iH,aX⟩:=w c;rw[show ii at_ e a s={s with at_:=at_} by simp[ii,c]];obtain⟨m,j⟩:=d.set {s with at_:=at_} iH aX h.z h.o;simp only[uF,bc,de,ai,p,i,k];exact aD.2 ⟨rfl,(n.mut _).trans m,j⟩
 ·have i:(e != 0)=true:=by simpa using c
  rw[show ii at_ e a s={s with an:=e,bl:=a} by simp[ii,c]];obtain⟨m,j⟩:=d.set {s with an:=e,bl:=a} h.a0 h.aI (λq=>absurd q c) h.o;simp only[uF,bc,ai,p,i,k];exact aD.2 ⟨rfl,(n.mut _).trans m,j⟩
def Sr(h:c8 H r T af rv gv fv s):In ((T.length:Int)-1) s:=⟨h.a0,by have:=h.aI;omega,by rw[h.o];omega,by rw[h.o];omega⟩
def T0(ar:eh T)(h:c8 H r T af rv gv fv s)(c:s.an=0)(i:(cq T ⟨s.at_,0,0,0⟩).2.an=0):0<=(cq T ⟨s.at_,0,0,0⟩).2.at_/\(cq T ⟨s.at_,0,0,0⟩).2.at_<T.length:=by
 have d:=vd ar.n (s:=s) (x:=s) c ⟨rfl,rfl,aV _⟩ (h.z c);have e:(hj T s).2.at_=(cq T ⟨s.at_,0,0,0⟩).2.at_/\(hj T s).2.an=0:=by
  unfold hj;rw[if_pos i];exact⟨rfl,c⟩
 have eq:=d.1.eq e.2;have dI:=(nc ar.g (λ_=>Sr h) (by rw[eq];exact e.2)).2;rw[eq]at dI;have a:=dI.a;have b:=dI.b;have:=h.a0;rw[e.1]at a b;exact⟨ae,ae⟩
def h1(T:List Tok)(s:am):(ay×Int)×am:=if s.an≠0 then(([],0),s)else hj T s
def Ly(ar:eh T)(h:c8 H r T af rv gv fv s):W (al P aj 54 [.ptr r 0 0] H) λv H'=>v= .agg [Z (h1 T s).1.1,J U (h1 T s).1.2]/\bs r H H'/\c8 H' r T af rv gv fv (h1 T s).2:=by
 refine bt (λ_=>WY 0) ?_;have aQ:=h.ba.one;obtain⟨bI,b2,cM⟩:=h.one;have L:=h.ba.rd;have ak:=h.lt;have M:=aw.push H (.row X 2 [[Z [],J U 0]]);have au:=ad.a_ H (.row X 2 [[Z [],J U 0]]);have p:=h.av M;simp(disch:=try exact ah)only[yr,aR,gh,ij,hi,bc];refine aA (o1 p) ?_;rintro _ H1 ⟨rfl,rfl⟩;refine⟨aV _,?_⟩;by_cases l:s.an=0
 ·have G:(s.an != 0)=false:=by simpa using l
  have ab:=p.rd;unfold e0 at ab;rw[show h1 T s=hj T s by simp[h1,l]];simp(disch:=try exact ah)only[aR,A,bL,cw,cX,G,ab];refine aA (D6 p.ba s.at_) ?_;rintro _ n ⟨rfl,B⟩;refine⟨B.1,?_⟩;have rg:=T0 ar h l;unfold hj;unfold h0;generalize cq T ⟨s.at_,0,0,0⟩=q at rg;obtain⟨⟨x,d⟩,c⟩:=q;have R:=B.get au;have n2:=B.1;simp only[ad.bb]at n2;have aP:=ad.aF R;have key:∀(x:ay) (d at_ e a:Int) (V:e=0->0<=at_/\at_<T.length),W (C (I (.agg [Z x,J U d])) λaJ=>
 bn n [Z [],J U 0] λao j=>
 bn j [J U 0,J U 0] λaq N=>
 aG N (aB P N 43 ao aJ) λO=>
 C (I (J U at_)) λaK=>
 C (I (.agg [J U e,J U a])) λaL=>
 aG O (aB P O 29 aq aL) λE=>
 bif ((aZ (I af) af&&Y)&&((aZ (I (J U s.at_)) (J U s.at_)&&Y)&&Y))then(C (A P E 29 aq) λaM=>
 i E (al P aj 56 [.ptr r 0 0,aK,aM] E) λaS F=>
 C (A P F 43 ao) λaN=>
 aG F (aB P F 43 (.ptr H.next 0 0) aN) λQ=>
 C (A P Q 43 (.ptr H.next 0 0)) λr=>
 I (r,Q))else u) λv H'=>v= .agg [Z x,J U d]/\bs r H H'/\c8 H' r T af rv gv fv (ii at_ e a s):=by
   intro x d at_ e a V;have am:=(M.trans B).a1 (.row X 2 [[Z x,J U d]])|>.a1 (.row X 2 [[J U e,J U a]]);have az:=((aw.push n (.row X 2 [[Z x,J U d]])).a1 (.row X 2 [[J U e,J U a]])).get R;have aC:=(aw.push (n.push (.row X 2 [[Z x,J U d]])) (.row X 2 [[J U e,J U a]])).get (ad.a_ n (.row X 2 [[Z x,J U d]]));simp(disch:=try exact ah)only[bc,ai,ad.gU,L];refine aA (Lq (h.av am) at_ e a V) ?_;rintro _ aO ⟨rfl,w,j⟩;refine⟨w.1,?_⟩;have S:=w.get az ae;have aE:=w.get aC ae;have eI:=ad.aF S;simp(disch:=try exact ah)only[bc,ai,S,aE]
   have y:=((am.mut (· =r)).trans w).bH (.inr (aV _)) (.row X 2 [[Z x,J U d]]);exact aD.2 ⟨rfl,y,h.fin y (by rw[ad.get_set_other ae];exact j.rd) j.a0 j.aI j.z j.o⟩
  have K:=h.rd;unfold e0 at K;by_cases m:c.an=0
  ·have k:=key x d c.at_ 0 0 (λ_=>rg m);have ap:ii c.at_ 0 0 s={s with at_:=c.at_}:=by simp[ii]
   simp only[m,if_true];rw[ap]at k;simp(disch:=try exact ah)only[aR,A,bL,aB,bL,bc,aa.cells,cD,cw,b7,ad.gU,K,L]at k ⊢;exact k
  ·have k:=key [] 0 0 c.an c.bl (λaH=>absurd aH m);have ap:ii 0 c.an c.bl s={s with an:=c.an,bl:=c.bl}:=by simp[ii,m]
   simp only[m,if_false];rw[ap]at k;simp(disch:=try exact ah)only[aR,A,bL,aB,bL,bc,aa.cells,cD,cw,b7,ad.gU,K,L]at k ⊢;exact k
 ·have G:(s.an != 0)=true:=by simpa using l
  rw[show h1 T s=(([],0),s) by simp[h1,l]];simp(disch:=try exact ah)only[bc,ai,G];have y:=(M.mut (· =r));exact aD.2 ⟨rfl,y,p⟩
end
def bq.cells(p:bq):List aa:=[Z p.name,Z p.b5,J U p.ci,J U p.pos]
def cQ:ja bq:=⟨4,λ_ _ p cs=>cs=p.cells,λh=>by rw[h];exact⟨rfl,rfl⟩,λ_ h=>h⟩
def k9:jb 23 66 4:=⟨M,DB,⟨_,(by kernel_rfl:j5 P 66=I 48),aC⟩,⟨_,(by kernel_rfl:fV P 66=I (.agg [Z [],Z [],J U 0,J U 0])),rfl,rfl⟩,aC⟩
def fp(T:List Tok)(s:am):bq×am:=(⟨(eJ T s).1.text,(h1 T (bD T [58] (eJ T s).2).2).1.1,(h1 T (bD T [58] (eJ T s).2).2).1.2,(eJ T s).1.pos⟩,(h1 T (bD T [58] (eJ T s).2).2).2)
section
variable {H H':ad}{r:Nat}{T:List Tok}{af rv gv fv:aa}{s s':am}
def B6(ar:eh T)(h:c8 H r T af rv gv fv s):W (al P aj 51 [.ptr r 0 0] H) λv H'=>v= .agg (fp T s).1.cells/\bs r H H'/\c8 H' r T af rv gv fv (fp T s).2:=by
 refine bt (λ_=>WU 0) ?_;have ak:=h.lt;have B:=aw.push H (.row X 4 [[Z [],Z [],J U 0,J U 0]]);have C:=ad.a_ H (.row X 4 [[Z [],Z [],J U 0,J U 0]]);simp(disch:=try exact ah)only[yo,aR,gh,ij,hi,bc];refine aA (B1 ar (h.av B)) ?_;rintro _ H1 ⟨rfl,i,j⟩;refine⟨i.1,?_⟩;have N:=i.1;simp only[ad.bb]at N;have E:=i.get C ae;unfold fp;generalize eJ T s=q at j ⊢;obtain⟨⟨k,x,z,p⟩,s1⟩:=q;simp only at j ⊢;have l:=aw.push H1 (.row X 4 [[J U k,Z x,J U z,J U p]]);have K:=ad.a_ H1 (.row X 4 [[J U k,Z x,J U z,J U p]])
 simp(disch:=try exact ah)only[aR,bL,aB,bL,bc,aa.cells,cD,cw,b7,Tok.v];refine aA (o4 ar (j.av l) [58]) ?_;rintro _ R ⟨rfl,c,m⟩;refine⟨c.1,?_⟩;have O:=c.1;simp only[ad.bb]at O;generalize (bD T [58] s1).2=Q at m ⊢;simp(disch:=try exact ah)only[aR];refine aA (Ly ar m) ?_;rintro _ S ⟨rfl,e,a⟩;refine⟨e.1,?_⟩;have V:=e.1;generalize h1 T Q=o at a ⊢;obtain⟨⟨y,d⟩,ho⟩:=o;simp only at a ⊢;have F:=l.get E;have G:=c.get F ae;have w:=c.get K ae;have n:=e.get G ae;have L:=e.get w ae;have eI:=ad.aF n;simp(disch:=try exact ah)only[bc,ai,n,w,L];have M:=((((B.mut (· =r)).trans i).trans (l.mut _)).trans c).trans e
 have A:=M.bH (.inr (aV _)) (.row X 4 [[Z x,Z y,J U d,J U p]]);exact aD.2 ⟨rfl,A,h.fin A (by rw[ad.get_set_other ae];exact a.rd) a.a0 a.aI a.z a.o⟩
def c1.pm{ok:Nat->Prop}{l:List bq}{v:aa}(h:c1 cQ ok H l v)(p:bq)(n:ok (H.next+1))(ak:l.length<=1000000000):
  ∃e H',c_ P (H.push (.row X 4 [p.cells])) [23,23] v (.ax H.next 0 1 4 (I 1))=I (e,H')/\c1 cQ ok H' (l++[p]) e/\H.next+1<=H'.next/\(∀k,k<H.next->¬ok k->H'.get k=H.get k):=by
 obtain⟨e,H',a,b,c,d⟩:=c1.app (K:=cQ) (ok':=ok) k9 h (okE:=λ_=>False) (a:=p) (cs:=p.cells) rfl (λ_ _ i=>i.elim) (λ_ _ i _=>i) n ak;refine⟨e,H',a,b,c,λk m o=>d k m ?_⟩;rintro L j rfl;rcases h with⟨rfl,_⟩|⟨L',els,rfl,aE,_⟩
 ·cases j
 ·cases j;exact o aE
def c1.hY{ok:Nat->Prop}{l:List bq}{v:aa}(h:c1 cQ ok H l v)(H':ad):bK P H' .len [23] [v]=I (J U l.length):=by
 rcases h with⟨rfl,rfl⟩|⟨L,els,rfl,_⟩
 ·exact vO
 ·exact tk
def c1.rd{a:Type}{K:ja a}{ok:Nat->Prop}{l:List a}{v:aa}(h:c1 K ok H l v):aZ (I v) v=true:=by
 rcases h with⟨rfl,_⟩|⟨L,els,rfl,_⟩
 ·rfl
 ·exact l3 _ _ _ _ _
end
def k3(T:List Tok):Nat->List bq->am->V (List bq)
 |0,_,_=>u
 |n+1,l,s=>bif s.an==0&& !a8 T s 4 [125]then
  k3 T n (l++[(fp T (dM T ((G T s.at_).kind==1) l.length 8 s)).1]) (bD T [59] (fp T (dM T ((G T s.at_).kind==1) l.length 8 s)).2).2
  else I (l,s)
abbrev hN(r n:Nat):ad->ad->Prop:=bV λk=>k=r\/n<=k
section
variable {H H':ad}{r:Nat}{T:List Tok}{af rv gv fv:aa}{s s':am}
def c8.oA{H1:ad}{s0:am}(h:c8 H1 r T af rv gv fv s0)(m:hN r H1.next H1 H')(a:H'.get r=I (e0 af rv gv fv s'))(a0:0<=s'.at_)(aI:s'.at_<T.length)(z:s'.an=0->s'.bl=0)(o:s'.aY=0):c8 H' r T af rv gv fv s':=
 ⟨a,h.ba.aP λl ro els e=>m.get e (by
  have:=ad.aF e;rintro(rfl|c)
  ·rw[h.rd]at e;simp only[e0,aT,b_.row.injEq]at e;omega
  ·omega),a0,aI,h.n,z,o,h.one⟩
def bs.oO{n:Nat}(m:bs r H H'):hN r n H H':=⟨m.1,λl ak au=>m.2 l ak λe=>au (.inl e)⟩
structure fq(H1 H:ad)(r c n2 esz:Nat)(T:List Tok)(af rv gv fv:aa)(x:aa)(rest:List aa)(l:List bq)(v:aa)(s:am):Prop where
 E:c8 H r T af rv gv fv s
 cell:H.get c=some (.row false esz [x::v::rest])
 d_:c1 cQ (aW n2) H l v
 m:hN r H1.next H1 H
 br:r<H1.next
 bI:H1.next<=c
 b2:c<n2
 cM:n2<=H.next
def fq.mut{H1:ad}{c n2 esz:Nat}{x:aa}{rest:List aa}{l:List bq}{v:aa}(h:fq H1 H r c n2 esz T af rv gv fv x rest l v s)(m:bs r H H')(E:c8 H' r T af rv gv fv s'):fq H1 H' r c n2 esz T af rv gv fv x rest l v s':=by
 have br:=h.br;have bI:=h.bI;have b2:=h.b2;have cM:=h.cM;exact⟨E,m.get h.cell ae,h.d_.aP (ce.mut m λk a=>by unfold aW at a;omega),h.m.trans m.oO,br,bI,b2,by have:=m.1;omega⟩
def fq.add{H1:ad}{c n2 esz:Nat}{x:aa}{rest:List aa}{l:List bq}{v:aa}(w:c8 H1 r T af rv gv fv s')(h:fq H1 H r c n2 esz T af rv gv fv x rest l v s)(ak:l.length<=1000000000)(p:bq):
  ∃i H',c_ P (H.push (.row X 4 [p.cells])) [23,23] v (.ax H.next 0 1 4 (I 1))=I (i,H')/\H.next+1<=H'.next/\i.one=Y/\H'.get c=I (.row X esz [x::v::rest])/\(H.push (.row X 4 [p.cells])).get c=I (.row X esz [x::v::rest])/\fq H1 (H'.set c (.row X esz [x::i::rest])) r c n2 esz T af rv gv fv x rest (l++[p]) i s:=by
 have br:=h.br;have bI:=h.bI;have b2:=h.b2;have cM:=h.cM;obtain⟨i,H',a,b,q,d⟩:=h.d_.pm p (by unfold aW;omega) ak;have gc:H'.get c=I (.row X esz [x::v::rest]):=by rw[d c ae (by unfold aW;omega)];exact h.cell
 have lc:=ad.aF gc;have n:hN r H1.next H1 (H'.set c (.row X esz [x::i::rest])):=h.m.trans ⟨by simp;omega,λk j au=>by
  have y:k≠r:=λe=>au (.inl e)
  have A:¬H1.next<=k:=λe=>au (.inr e)
  rw[ad.get_set_other ae,d k j (by unfold aW;omega)]⟩
 refine⟨i,H',a,q,b.one,gc,(aw.push _ _).get h.cell,?_,ad.get_set_same lc,b.aP λk x j g=>⟨j,by unfold aW at j;rw[ad.get_set_other ae];exact g⟩,n,br,bI,b2,by simp;omega⟩;exact w.oA n (by rw[ad.get_set_other ae,d r ae (by unfold aW;omega)];exact h.E.rd) h.E.a0 h.E.aI h.E.z h.E.o
def Hv{N:Nat}(ar:eh T){Q:aa->ad->Prop}{H1:ad}{c n2:Nat}{nm:ay}{F:Int}{s0:am}(O:c8 H1 r T af rv gv fv s0){l':List bq}
  (z:∀H v,fq H1 H r c n2 3 T af rv gv fv (Z nm) [J U F] l' v s'->W (pB (al P aj) N (.ptr r 0 0) (.ptr c 0 0) H) Q):
  ∀(n m:Nat) (H:ad) (s:am) (l:List bq) (v:aa),n<m->l.length+n<=1000000000->fq H1 H r c n2 3 T af rv gv fv (Z nm) [J U F] l v s->k3 T n l s=I (l',s')->W (pC (al P aj) N m (.ptr r 0 0) (.ptr c 0 0) H) Q
 |_,0,_,_,_,_,aJ,_,_,_=>ae
 |0,m+1,_,_,_,_,_,_,_,d=>by cases d
 |n+1,m+1,H,s,l,v,aJ,a1,h,d=>by
  rw[k3]at d;rw[pC];unfold x4;refine aA (o1 h.E) ?_;rintro _ aU ⟨rfl,rfl⟩;refine⟨aV _,?_⟩;by_cases j:s.an=0
  ·have y:(s.an != 0)=false:=by simpa using j
   have k:(s.an==0)=true:=by simpa using j
   simp(disch:=try exact ah)only[aR,y,cd];refine dZ (re h.E 4 [125]) ?_;rintro _ aW ⟨rfl,B⟩;refine⟨B.1,?_⟩;have e:=h.mut (B.mut _) (h.E.av B);cases ak:a8 T s 4 [125]with
   |true=>
    rw[k,ak]at d;cases d;simp(disch:=try exact ah)only[aR,ef];exact z _ _ e
   |false=>
    rw[k,ak]at d;simp only[cd,lm,aK]at d;simp(disch:=try exact ah)only[aR,cd];refine aA (rl e.E) ?_;rintro _ aX ⟨rfl,C⟩;refine⟨C.1,?_⟩;have i:=e.mut (C.mut _) (e.E.av C);have aI:=λH'=>i.d_.hY H'
    have aL:=i.d_.rd;have S:=i.cell;have aF:=e.cell;simp(disch:=try exact ah)only[ai,Tok.v,S,aI];refine aA (tH i.E _ _ _) ?_;rintro _ aY ⟨rfl,ao,aO⟩;refine⟨ao.1,?_⟩;have o:=i.mut ao aO;have V:=o.cell;generalize dM T ((G T s.at_).kind==1) l.length 8 s=aS at o d;refine qk (sY M ?_) ?_
    ·have key:∀x:ad,x.get c=I (.row X 3 [Z nm::v::[J U F]])->aZ (A P x 23 (.ptr c 0 1)) v=true:=λx aH=>by
      simp(disch:=try exact ah)only[A,bL,cw,aH,aL]
     simp only[mJ,mB,u4,u5,u3,List.forall_mem_cons];refine⟨(λv a=>by cases a),(λv a=>by cases a),(λv a=>by cases a),(λv a=>by cases a),(λv a=>by cases a),(λv a=>by cases a),(λv a=> .inr ?_),(λv a=>by cases a),(λv a=>by cases a),trivial⟩;cases a;simp[key _ aF,key _ S,key _ V]
    ·refine aA (B6 ar o.E) ?_;rintro _ K ⟨rfl,aq,aP⟩;refine⟨aq.1,?_⟩;have w:=o.mut aq aP;have aG:=w.cell;have aM:=w.d_.rd;generalize fp T aS=q at w d;obtain⟨p,a2⟩:=q;obtain⟨aT,aw,aC,aD,L,ap,aE,R⟩:=w.add O ae p;have aN:=lB k9 K.next (cs:=p.cells) rfl rfl
     have a0:(K.push (.row X 4 [p.cells])).next<=aw.next:=by simp only[ad.bb];exact aD
     have ab:=gf L;simp only[aa.cells]at ab;simp(disch:=try exact ah)only[aR,A,bL,aB,bL,bc,de,aa.cells,cD,cw,cX,ab,aG,aN,aC,gF,ap,aE,L,aM,V];refine aA (o4 ar R.E [59]) ?_;rintro _ az ⟨rfl,au,aQ⟩;refine⟨au.1,?_⟩;exact Hv ar O z n m az _ _ aT ae (by simp;omega) (R.mut au aQ) d
  ·have y:(s.an != 0)=true:=by simpa using j
   have k:(s.an==0)=false:=by simpa using j
   rw[k]at d;cases d;simp(disch:=try exact ah)only[aR,y,ef];exact z _ _ h
