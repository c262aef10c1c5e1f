/-
  Texts of one proof, laid together: Mc ShE SgI SgJ SgK Qa Qb Qc Qd.
-/
import Derived.Test.YtmhhnnklfcbgfaaGreatML
set_option linter.unusedVariables false
set_option linter.unusedSimpArgs false
set_option linter.defProp false
open Option renaming some→D,none→I
open Bool renaming true→C,false→Z
open Go.bz.ae renaming int→J,bool→A
open Go.IntKind renaming i64→X
namespace Go.Proofs.YtmhhnnklfcbgfaaGreat
open Go.bz
section
open Go.a2
set_option maxRecDepth 2000
def dw(l:List Bool):List (List ae):=l.map λb=>[A b]
def uW{l:List Bool}{i:Nat}{b:Bool}(h:l[i]? =D b):(dw l)[i]? =D [A b]:=by simp[dw,h]
def Oc(l:List Bool)(i:Nat)(b:Bool):(dw l).set i [A b]=dw (l.set i b):=by simp[dw,List.map_set]
def DT{H:ad}{l:List Bool}{L:Nat}(h:H.get L=D (.row Z 1 (dw l)))(c:Option Nat):aO zc H bk l (.aD L 0 l.length 1 c):=
 .inr (.inl ⟨L,0,c,Z,dw l,rfl,trivial,h,by simp[dw],λj b a=>⟨_,by rw[Nat.zero_add];exact uW a,rfl⟩⟩)
def yK{H:ad}{l:List Bool}{L i:Nat}{b b':Bool}(h:H.get L=D (.row Z 1 (dw l)))(a:l[i]? =D b):cD P H 4 (.ptr L i 0) (A b')=D (H.set L (.row Z 1 (dw (l.set i b')))):=by
 rw[gf Mr h (uW a) rfl rfl aa,<-Oc];rfl
def A4(l n:Nat)(aH:n<=1000000000):f_ (g9 P ⟨.leaf,l⟩ 104 (J X n) (J X n)) l=D (.aD l 0 n 1 (D n),.row Z 1 (dw (List.replicate n Z))):=by
 rw[qo (e:=4) (b:=1) (z:= A Z) aF aF aF aF rfl rfl bU bU l n aH];simp[dw,ae.cells]
section
variable {H:ad}{ok ok':Nat->Prop}
def Ty{fs:List (List Int)}{v:ae}{c:Int}(h:aO (b1 aT) H ok fs v):W (aQ P aK 147 [v,J X c] H) λr H'=>r= A (decide (0<=c/\c<fs.length))/\H'=H:=by
 refine XF 0 ?_;by_cases a:0<=c
 ·simp-implicitDefEqProofs(disch:=try exact ai)only[xe,aj,aC,a,decide_true,h.len e4,true_and];exact aG.2 ⟨rfl,rfl⟩
 ·simp-implicitDefEqProofs(disch:=try exact ai)only[xe,aj,aC,a,decide_false,false_and];exact aG.2 ⟨rfl,rfl⟩
def Ag{met:List Bool}{L B:Nat}{c:Option Nat}(i:met.length<=100000){N:Nat}:∀(j k m:Nat) (H:ad) (l:List Int) (v:ae),k+j=met.length->j<m->H.get L=D (.row Z 1 (dw met))->bq aT B bk H l v->L<B->B<=H.next->l.length<=k->
  W (qA (aQ P aK) N m v (.aD L 0 met.length 1 c) (J X met.length) (J X k) H) λr H'=>bq aT B bk H' (l++jQ (met.drop k) k) r/\cT B H H'
 |_,_,0,_,_,_,_,hm,_,_,_,_,_=>aa
 |0,k,m+1,H,l,v,y,_,aP,al,_,_,_=>by
  have b:¬(k:Int)<(met.length:Int):=aa;simp-implicitDefEqProofs(disch:=try exact ai)only[qz,sF,qA,aj,aC,b,decide_false];refine aG.2 ⟨?_,.refl _ _⟩;rw[List.drop_of_length_le aa,jQ,List.append_nil];exact al
 |j+1,k,m+1,H,l,v,y,hm,aP,al,e,h,M=>by
  have b:(k:Int)<(met.length:Int):=aa;have n:k<met.length:=aa;obtain⟨p,q,d⟩:=(DT aP c).bool (j:=(k:Int)) (a:=met[k]) aa (by simp[n]);rw[List.drop_eq_getElem_cons n,jQ];have s:=cq (show k<=1000000000 by omega);cases o:met[k]with
  |false=>
   rw[o]at d;simp-implicitDefEqProofs(disch:=try exact ai)only[qz,BJ,sF,qA,aj,aC,b,decide_true,q,d,s];exact Ag i j (k+1) m H l v aa aa aP al e h aa
  |true=>
   rw[o]at d;obtain⟨z,H',t,u,f,G,K⟩:=al.l6 (a:=(k:Int)) h aa;have hle:(H.push (.row Z 1 [[J X (k:Int)]])).next<=H'.next:=by simp;omega
   simp-implicitDefEqProofs(disch:=try exact ai)only[qz,BJ,sF,qA,aj,aC,b,decide_true,q,d,ej,t,s];have x:H'.get L=D (.row Z 1 (dw met)):=by rw[f.2 L e];exact aP
   refine(Ag i j (k+1) m H' (l++[(k:Int)]) z aa aa x u e aa (by simp;omega)).mono ?_;rintro r E ⟨g,w⟩;refine⟨?_,f.trans w⟩;simp only[if_true];rw[List.append_assoc]at g;exact g
def vm{fs:List (List Int)}{roots:List Int}{fv:ae}{L B:Nat}{c:Option Nat}(aH:fs.length<=100000)(s:∀l,ok l->l<B){N:Nat}(G:fs.length<N):∀(m:Nat) (H:ad) (met:List Bool) (work:List Int) (c3:ae),jw fs roots met work->work.length+kh fs met<m->work.length+kh fs met<=1000000000->aO (b1 aT) H ok fs fv->H.get L=D (.row Z 1 (dw met))->bq aT (L+1) bk H work c3->jz aT c3->L=B->L<H.next->
  W (sG (aQ P aK) N m fv (.aD L 0 fs.length 1 c) c3 H) λr H'=>bq aT B bk H' ((dS fs roots).map λ(n:Nat)=>(n:Int)) r/\cT B H H'
 |0,_,_,_,_,_,hm,_,_,_,_,_,_,_=>aa
 |m+1,H,met,work,c3,f,hm,K,az,aP,hw,aq,ah,E=>by
  subst ah;have hlen:=f.len;rcases List.eq_nil_or_concat work with rfl|⟨aV,a,rfl⟩
  ·have au:¬(0:Int)<((([]:List Int).length:Nat):Int):=by simp
   rw[<-hlen];have an:bL P .empty .len [104] [.aD L 0 met.length 1 c]=D (J X met.length):=hI oX.un _ _ _ _ _;simp-implicitDefEqProofs(disch:=try exact ai)only[wG,wF,sG,aj,aC,br,hw.aD.len b6,au,decide_false,an];refine(Ag (B:=L+1) aa met.length 0 N H [] .aB aa aa aP (bq.nil _ _ _ _) aa aa (by simp)).mono ?_;rintro r H' ⟨q,z⟩;rw[List.nil_append,List.drop_zero,f.list]at q;exact⟨⟨q.e9,λL' n c e=>by have:=q.low L' n c e;omega⟩,z.le aa⟩
  ·rw[List.concat_eq_append]at f hm K hw;have av:(0:Int)<(((aV++[a]).length:Nat):Int):=by simp
   have ao:IntKind.i64.wrap ((((aV++[a]).length:Nat):Int)-1)=(aV.length:Int):=by
    simp only[List.length_append,List.length_cons,List.length_nil,Nat.zero_add]at K ⊢;rw[wrap_i64 aa aa];omega
   obtain⟨p,ax,ay⟩:=hw.aD.int (j:=(aV.length:Int)) (a:=a) aa (by simp);obtain⟨w,aA,t,R⟩:=hw.pop b6 aq;simp only[List.length_append,List.length_cons,List.length_nil,Nat.zero_add]at hm K;simp-implicitDefEqProofs(disch:=try exact ai)only[wG,wF,sG,aj,aC,br,hw.aD.len b6,av,decide_true,ao,ax,ay,aA];refine eu (Ty az) ?_;by_cases M:0<=a/\a<fs.length
   ·obtain⟨n,rfl⟩:∃n:Nat,a=n:=⟨a.toNat,aa⟩;have Y:n<fs.length:=aa;have O:n<met.length:=aa;have T:fs[n]? =D fs[n]:=by simp[Y]
    obtain⟨aw,u,af⟩:=(DT aP c).bool (j:=(n:Int)) (a:=met[n]) aa (by simp[O]);rw[hlen]at u;simp-implicitDefEqProofs(disch:=try exact ai)only[aj,M,and_self,decide_true,u,af];cases V:met[n]with
    |true=>
     simp-implicitDefEqProofs(disch:=try exact ai)only[aj,Bool.not_true];exact vm aH s G m H met aV w (f.skip λk d _=>by cases Int.ofNat.inj d;simp[O,V]) aa aa az aP t R rfl E
    |false=>
     have U:met[n]? =D false:=by simp[O,V]
     have ap:=yK (b':=true) aP U;have ab:aw= .ptr L n 0:=by
      have S:=nF (l:=L) (i:=0) (c:=c) oX (show(0:Int)<=(n:Int) by omega) (show(n:Int)<(fs.length:Int) by omega);rw[u]at S;simpa using S
     subst ab;have aI:=MC T U;have Q:∀k,k≠L->(H.set L (.row Z 1 (dw (met.set n C)))).get k=H.get k:=λk d=>ad.cb (Ne.symm d)
     have ak:aO (b1 aT) (H.set L (.row Z 1 (dw (met.set n C)))) ok fs fv:=az.keep λk b d g=>⟨d,by rw[Q k (by have:=s k d;omega)];exact g⟩
     have al:(H.set L (.row Z 1 (dw (met.set n C)))).get L=D (.row Z 1 (dw (met.set n C))):=ad.c8 E;have ar:bq aT (L+1) bk (H.set L (.row Z 1 (dw (met.set n C)))) aV w:=by
      refine⟨?_,t.low⟩;rcases t.e9 with h|⟨L',els,cap,v,y,o,x⟩
      ·exact .inl h
      ·have:=t.low _ _ _ v;exact .inr ⟨L',els,cap,v,y,by rw[Q L' aa];exact o,x.1,x.2.1,x.2.2⟩
     obtain⟨aJ,wf,f1,f2,f3⟩:=ak.list (j:=(n:Int)) (a:=fs[n]) aa (by simp[Y]);obtain⟨aE,H',v,y,o,x,ag⟩:=ar.ints (by simp;omega) f3 aa;have hle:=o.1;simp-implicitDefEqProofs(disch:=try exact ai)only[aj,Bool.not_false,u,ap,f1,f2,v];have am:H'.get L=D (.row Z 1 (dw (met.set n C))):=by rw[o.2 L aa];exact al
     have pu:cT L H H':=⟨by simpa using hle,λk d=>by rw[o.2 k aa,Q k aa]⟩;refine(vm aH s G m H' (met.set n C) (aV++fs[n]) aE (f.take T) (by simp only[List.length_append];omega) (by simp only[List.length_append];omega) (az.keep λk b d g=>⟨d,by rw[pu.2 k (s k d)];exact g⟩) am y (R.app ag) rfl (by have:=pu.1;omega)).mono ?_;rintro r aF ⟨q,z⟩;exact⟨q,pu.trans z⟩
   ·simp-implicitDefEqProofs(disch:=try exact ai)only[aj,decide_eq_false M];refine vm aH s G m H met aV w (f.skip λk d aG=> ?_) aa aa az aP t R rfl E;subst d;exact absurd ⟨aa,aa⟩ M
def aX(l:List Nat):List Int:=l.map λ(n:Nat)=>(n:Int)
def Sj{fs:List (List Int)}{roots:List Int}{fv rv:ae}(az:aO (b1 aT) H ok fs fv)(au:aO aT H ok' roots rv)(aH:fs.length<=100000)(f:roots.length+kh fs (List.replicate fs.length Z)<=1000000000):W (aQ P aK 101 [fv,rv] H) λr H'=>bq aT H.next bk H' (aX (dS fs roots)) r/\av H H':=by
 refine Xh (roots.length+kh fs (List.replicate fs.length Z)+fs.length+1) ?_;have c:=av.push H (.row Z 1 (dw (List.replicate fs.length Z)));simp-implicitDefEqProofs(disch:=try exact ai)only[BI,aj,br,az.len e4,A4 _ _ (show fs.length<=1000000000 by omega)];refine aZ (F3 (au.aE c) aa) ?_;rintro w H1 ⟨a8,bo,bJ⟩;refine⟨bo.1,?_⟩;have cJ:=bo.1;simp only[ad.dm]at cJ a8;have pu:cT H.next H H1:=(eH c (bC _)).trans (eH bo (by simp))
 refine(vm (fs:=fs) (roots:=roots) (ok:=(· <H.next)) aH (λ_ h=>h) aa _ H1 (List.replicate fs.length Z) roots w (jw.start fs roots) aa f (az.below.keep λk b a g=>⟨a,by rw[pu.2 k a];exact g⟩) (by rw[bo.2 _ (by simp)];exact ad.a_ _ _) a8 bJ rfl aa).mono ?_;rintro r i ⟨d,e⟩;exact⟨d,cT.aE (pu.trans e)⟩
end
end
section
set_option maxRecDepth 100000
set_option maxHeartbeats 4000000
noncomputable section
def qG(G:aw)(N:Nat):g6 8 16 Tryz.f130 G N (·.ag.ag.ag.ag.ag.ag.ag.ag.ag.ag.ag) (bg Tryz.f130) []:=⟨_,v2 ao⟩
def sK(G:aw)(N:Nat)(L4:dr):iz 6 8 12 16 104 105 Tryz.f130 G N (·.ag.ag.ag.ag.ag.ag.ag.ag.ag.ag.ax.ag.ax.ax.ag.ag.ag) (cy L4 6 8 12 16 104 105) [(6,(bo (qG G N) 8 16))]:=⟨_,v6 ao⟩
def wS(G:aw)(N:Nat)(L4:dr)(a:jC):uM 6 8 12 16 18 104 105 114 115 Tryz.f130 G N (·.ag.ag.ag.ag.ag.ag.ag.ag.ag.ag.ax.ag.ax.ax.ag.ag.ax.ax.ag.ag.ag.ax.ax) (rH a 6 8 12 16 18 104 105 114 115) [(8,(cy (sK G N L4) 6 8 12 16 104 105)),(7,(cy (sK G N L4) 6 8 12 16 104 105)),(6,(bo (qG G N) 8 16))]:=⟨_,Qa ao⟩
def sM(G:aw)(N:Nat)(L4:dr):Nat->jC
 |0=>za
 |n+1=>wS G N L4 (sM G N L4 n)
def wR(G:aw)(N:Nat)(L4:dr):iz 6 8 12 16 104 105 Tryz.f130 G N (·.ag.ag.ag.ag.ag.ag.ag.ag.ag.ag.ax.ag.ax.ax) (cy L4 6 8 12 16 104 105) [(6,(bo (qG G N) 8 16))]:=⟨_,p7 (ak (ak (ak ((sK G N L4).2) (bD (ak (ak (ak (bD (b3 (λm=>(wS G N L4 (sM G N L4 m)).2))) ao) ao) ao))) ao) ao)⟩
def sL(G:aw)(N:Nat):Nat->dr
 |0=>lO
 |n+1=>wR G N (sL G N n)
def wY(G:aw)(N:Nat):en 6 8 12 16 Tryz.f130 G N (·.ag.ag.ag.ag.ag.ag.ag.ag.ag.ag) (bg Tryz.f130) []:=⟨_,v4 (ak ((qG G N).2) (ak (bD (b3 (λm=>(wR G N (sL G N m)).2))) ao))⟩
def wT(G:aw)(N:Nat)(a:dr):iz 6 8 12 16 85 86 Tryz.f130 G N (·.ag.ag.ag.ag.ag.ag.ag.ag.ag.ax.ag.ax.ax) (cy a 6 8 12 16 85 86) [(4,(bT (wY G N) 6 8 12 16))]:=⟨_,p7 ao⟩
def sN(G:aw)(N:Nat):Nat->dr
 |0=>lO
 |n+1=>wT G N (sN G N n)
def wX(G:aw)(N:Nat):gk 4 5 6 8 12 Tryz.f130 G N (·.ag.ag.ag.ag.ag.ag.ag) (bg Tryz.f130) []:=⟨_,ny (ak (ak (ak ((wY G N).2) (ak (bD (b3 (λm=>(wT G N (sN G N m)).2))) ao)) ao) ao)⟩
def wU(G:aw)(N:Nat)(a:fI):kX 4 5 6 8 12 68 69 Tryz.f130 G N (·.ag.ag.ag.ag.ag.ag.ax.ag.ax.ax) (ea a 4 5 6 8 12 68 69) [(2,(cn (wX G N) 4 5 6 8 12))]:=⟨_,kQ ao⟩
def sO(G:aw)(N:Nat):Nat->fI
 |0=>pB
 |n+1=>wU G N (sO G N n)
def wW(G:aw)(N:Nat):iz 4 5 6 8 11 12 Tryz.f130 G N (·.ag.ag.ag.ag.ag.ag) (bg Tryz.f130) []:=⟨_,v6 (ak ((wX G N).2) (ak (bD (b3 (λm=>(wU G N (sO G N m)).2))) ao))⟩
def wV(G:aw)(N:Nat)(a:jC):uM 4 5 6 8 11 12 58 59 60 Tryz.f130 G N (·.ag.ag.ag.ag.ag.ax.ag.ax.ax) (rH a 4 5 6 8 11 12 58 59 60) [(0,(cy (wW G N) 4 5 6 8 11 12))]:=⟨_,v9 ao⟩
def qH(G:aw)(N:Nat):Nat->jC
 |0=>za
 |n+1=>wV G N (qH G N n)
def BS(G:aw)(N:Nat):Nd Tryz.f130 G N:=⟨λy x1 x2 s H=>eK H (fe (H).next y) λx4 af=>eK af (fe (af).next x1) λx5 ah=>eK ah (fe (ah).next x2) λx6 an=>fu an [ae.aB,ae.aB] λx8 aM=>aU (aI P aM 3 x4) λz=>dW aM (G 176 [z,J X 70001] aM) λp u=>bQ p C u (qr (aI P u 3 x5)) λB n=>bQ p C n (λq=>dD n (G 176 [B,J X 61] n) q) λE v=>aU (da p (D E) (D (A Z))) λx25=>bQ x25 C v (qr (aI P v 3 x6)) λK o=>bQ x25 C o (λq=>dD o (G 176 [K,J X 9] o) q) λL x=>aU (da x25 (D L) (D (A Z))) λM=>aU (iG .not M) λk=>bQ k Z x (gz s) λO w=>bQ k Z w (gz (.func (.func 178) [] [x4,x5,x6])) λQ l=>bQ k Z l (λq=>dD l (G 177 [O,Q] l) q) λR a=>aU (da k (D (A C)) (D R)) λS=>dF (D S) (fw a (cD P a 154 x8 (.agg [ae.aB,ae.aB])) λc=>aU (aI P c 154 x8) λr=>D (.tuple [r,J X 5],c)) (aU (aI P a 3 x4) λT=>aU (aI P a 3 x5) λU=>aU (aI P a 3 x6) λV=>aU (bm P .mul 3 Z U V) λW=>aU (bm P .add 3 Z T W) λb=>aU (aI P a 3 x4) λd=>aU (aI P a 3 x6) λe=>eK a (f_ (g9 P ⟨.leaf,(a).next⟩ 243 b b) (a).next) λY c=>eK c (f_ (g9 P ⟨.leaf,(c).next⟩ 31 b b) (c).next) λaa f=>eK f (f_ (g9 P ⟨.leaf,(f).next⟩ 244 b b) (f).next) λx50 g=>eK g (f_ (g9 P ⟨.leaf,(g).next⟩ 243 b b) (g).next) λx52 i=>eK i (D (.map (i).next,.map [])) λab h=>eK h (f_ (g9 P ⟨.leaf,(h).next⟩ 104 b b) (h).next) λad j=>aU (dU P 248 [(0,d),(1,e),(2,Y),(3,aa),(4,x50),(5,x52),(6,ab),(8,ad)]) λag=>eK j (fe (j).next ag) λai t=>bif ((bF (aI P a 3 x4) d&&(bF (aI P c 3 x4) d&&(bF (aI P f 3 x4) d&&(bF (aI P g 3 x4) d&&(bF (aI P i 3 x4) d&&(bF (aI P h 3 x4) d&&(bF (aI P j 3 x4) d&&C)))))))&&((bF (aI P a 3 x6) e&&(bF (aI P c 3 x6) e&&(bF (aI P f 3 x6) e&&(bF (aI P g 3 x6) e&&(bF (aI P i 3 x6) e&&(bF (aI P h 3 x6) e&&(bF (aI P j 3 x6) e&&C)))))))&&C))then(br P .len [53] [s] t λaj=>qH G N N x4 x5 x6 x8 b ai s aj (J X 0) t)else I),TZ (ak (ak (ak (ak (ak (ak ((wW G N).2) (ak (bD (b3 (λm=>(wV G N (qH G N m)).2))) ao)) ao) ao) ao) ao) ao)⟩
def Xy(N:Nat):=qx Tryz.func130 λG=>(BS G N).2
def xh(G:aw):ev Tryz.f176 G:=⟨_,λN=>t2 ao⟩
def XP(N:Nat):=dc Tryz.func176 λG=>(xh G).2 N
def Cd(G:aw):rq Tryz.f178 G:=⟨_,λN=>t4 ao⟩
def XR(N:Nat):=qx Tryz.func178 λG=>(Cd G).2 N
def qJ(G:aw):W0 Tryz.f179 G (·.ag.ag) (bg Tryz.f179) []:=⟨_,λN=>v0 ao⟩
def xi(G:aw):W6 1 2 3 4 10 35 Tryz.f179 G (·.ag.ax.ag.ax.ag.ag.ag.ag.ag) (bh (qJ G)) [(0,(bh (qJ G)))]:=⟨_,λN=>v6 ao⟩
def o7(G:aw):rq Tryz.f179 G:=⟨_,λN=>t4 (ak (ak ((qJ G).2 N) (ak (bD (ak (dp ao (ak (dp ao (ak ((xi G).2 N) ao)) ao)) ao)) ao)) ao)⟩
def XS(N:Nat):=qx Tryz.func179 λG=>(o7 G).2 N
def xj(G:aw)(N:Nat)(L0:b_):en 0 3 81 82 Tryz.f180 G N (·.ag.ag.ax.ag.ag.ag.ag.ag.ag.ag.ag.ag.ax.ag.ax.ax) (bT L0 0 3 81 82) [(1,(bg Tryz.f180)),(0,(bg Tryz.f180))]:=⟨_,mJ ao⟩
def s3(G:aw)(N:Nat):Nat->b_
 |0=>fk
 |n+1=>xj G N (s3 G N n)
def o8(G:aw)(N:Nat):fJ Tryz.f180 G N:=⟨_,p6 (ak (ak (bD (ak (dp ao (ak (dp ao (ak (dp ao (ak (dp ao (ak (dp (ak (bD (b3 (λm=>(xj G N (s3 G N m)).2))) ao) ao) ao)) ao)) ao)) ao)) ao)) ao) ao)⟩
def XU(N:Nat):=dc Tryz.func180 λG=>(o8 G N).2
def xk(G:aw):ev Tryz.f181 G:=⟨_,λN=>t2 ao⟩
def XV(N:Nat):=dc Tryz.func181 λG=>(xk G).2 N
def xl(G:aw)(N:Nat)(L0:T1)(L2:dj):gk 0 2 69 70 71 Tryz.f182 G N (·.ax.ax.ag.ax.ag.ag.ag.ag.ag.ag.ax.ax) (cn L2 0 2 69 70 71) [(4,(a8 L0 0)),(1,(a8 L0 0)),(0,(bg Tryz.f182))]:=⟨_,v5 ao⟩
def s4(G:aw)(N:Nat)(L0:T1):Nat->dj
 |0=>jc
 |n+1=>xl G N L0 (s4 G N L0 n)
def xn(G:aw)(N:Nat)(L0:T1):g6 0 2 Tryz.f182 G N (·.ax.ax.ag.ax.ag.ag.ag.ag.ag) (a8 L0 0) [(1,(a8 L0 0)),(0,(bg Tryz.f182))]:=⟨_,v2 (ak (bD (b3 (λm=>(xl G N L0 (s4 G N L0 m)).2))) ao)⟩
def xm(G:aw)(N:Nat)(L0:T1)(L3:dj):gk 0 2 52 53 54 Tryz.f182 G N (·.ax.ax.ag.ax.ag.ag.ag.ag.ax.ag.ax.ax) (cn L3 0 2 52 53 54) [(2,(bo (xn G N L0) 0 2)),(1,(a8 L0 0)),(0,(bg Tryz.f182))]:=⟨_,v5 ao⟩
def s5(G:aw)(N:Nat)(L0:T1):Nat->dj
 |0=>jc
 |n+1=>xm G N L0 (s5 G N L0 n)
def Cg(G:aw)(N:Nat)(L0:T1):et 0 Tryz.f182 G N (·.ax.ax) (a8 L0 0) [(0,(bg Tryz.f182))]:=⟨_,rM (ak (bD (ak (ak (ak (ak (ak ((xn G N L0).2) (ak (bD (b3 (λm=>(xm G N L0 (s5 G N L0 m)).2))) ao)) ao) ao) ao) ao)) ao)⟩
def xo(G:aw)(N:Nat):Nat->T1
 |0=>M3
 |n+1=>Cg G N (xo G N n)
def Cf(G:aw)(N:Nat):fU Tryz.f182 G N:=⟨_,t1 (bD (b3 (λm=>(Cg G N (xo G N m)).2)))⟩
def XW(N:Nat):=dZ Tryz.func182 λG=>(Cf G N).2
def s6(G:aw)(N:Nat):et 3 Tryz.f183 G N (·.ag.ag.ag) (bg Tryz.f183) []:=⟨_,v1 ao⟩
def Ci(G:aw)(N:Nat)(L1:c6):gj 0 3 4 Tryz.f183 G N (·.ag.ag.ax.ag.ax.ax.ag.ag) (bJ L1 0 3 4) [(0,(a8 (s6 G N) 3))]:=⟨_,v3 ao⟩
def qK(G:aw)(N:Nat)(L1:c6):gj 0 3 4 Tryz.f183 G N (·.ag.ag.ax.ag.ax.ax) (bJ L1 0 3 4) [(0,(a8 (s6 G N) 3))]:=⟨_,v3 (ak (ak ((Ci G N L1).2) ao) ao)⟩
def o9(G:aw)(N:Nat):Nat->c6
 |0=>iq
 |n+1=>qK G N (o9 G N n)
def Ch(G:aw)(N:Nat):fU Tryz.f183 G N:=⟨_,t1 (ak (ak (ak ((s6 G N).2) (ak (bD (b3 (λm=>(qK G N (o9 G N m)).2))) ao)) ao) ao)⟩
def XX(N:Nat):=dZ Tryz.func183 λG=>(Ch G N).2
def Cj(G:aw):iB Tryz.f184 G:=⟨_,λN=>t3 ao⟩
def XZ(N:Nat):=g0 Tryz.func184 λG=>(Cj G).2 N
def xH(G:aw):iB Tryz.f220 G:=⟨_,λN=>t3 ao⟩
def Yb(N:Nat):=g0 Tryz.func220 λG=>(xH G).2 N
def tp(G:aw):iB Tryz.f221 G:=⟨λb x1 x2 H=>aU (hC b) λx10=>aU (bN P 248 x10 6) λx11=>aU (aI P H 245 x11) λx12=>aU (dU P 312 [(0,x1),(1,x2)]) λx15=>aU (k2 P H 245 x12 x15 C) λx16=>aU (jD x16 0) λx17=>aU (jD x16 1) λg=>fu H [] λx6 af=>fw af (cD P af 310 x6 x17) λah=>bQ g Z ah (gz x1) λo an=>bQ g Z an (gz x2) λp aM=>bQ g Z aM (b2 (bm P .eql 3 Z o p)) λq d=>aU (da g (D (A C)) (D q)) λr=>dF (D r) (D (.tuple [],d)) (aU (hC b) λx26=>aU (bN P 248 x26 6) λs=>aU (aI P d 245 s) λt=>aU (dU P 312 [(0,x1),(1,x2)]) λu=>fw d (iD P d 245 t u (.agg [])) λa=>aU (hC b) λw=>aU (bN P 248 w 3) λj=>aU (aI P a 31 j) λk=>aU (cm P 31 k x1) λl=>aU (aI P a 30 l) λm=>eK a (gd P (a).next 30 1 [(0,x2)]) λx c=>dW c (ee P c [30,30] m x) λy e=>aU (hC b) λv=>aU (bN P 248 v 3) λh=>aU (aI P e 31 h) λi=>aU (cm P 31 i x1) λz=>fw e (cD P e 30 z y) λf=>bif ((bF (aI P a 31 j) k&&(bF (aI P c 31 j) k&&C))&&((bF (aI P a 30 l) m&&(bF (aI P c 30 l) m&&C))&&((bF (aI P a 31 h) i&&(bF (aI P c 31 h) i&&(bF (aI P e 31 h) i&&C)))&&C)))then(aU (hC b) λx52=>aU (bN P 248 x52 2) λB=>aU (aI P f 243 B) λE=>aU (cm P 243 E x1) λK=>aU (aI P f 251 K) λL=>dW f (G 220 [b,x2,L] f) λM n=>D (.tuple [],n))else I),λN=>H8 ao⟩
def Yc(N:Nat):=g0 Tryz.func221 λG=>(tp G).2 N
def CG(G:aw)(N:Nat)(L0:dj):gk 0 2 14 15 16 Tryz.f225 G N (·.ag.ax.ax.ag.ag.ag) (cn L0 0 2 14 15 16) [(0,(bg Tryz.f225))]:=⟨_,v5 ao⟩
def tr(G:aw)(N:Nat)(L0:dj):gk 0 2 14 15 16 Tryz.f225 G N (·.ag.ax.ax) (cn L0 0 2 14 15 16) [(0,(bg Tryz.f225))]:=⟨_,ny (ak (ak (ak ((CG G N L0).2) ao) ao) ao)⟩
def qQ(G:aw)(N:Nat):Nat->dj
 |0=>jc
 |n+1=>tr G N (qQ G N n)
def CF(G:aw)(N:Nat):oq Tryz.f225 G N:=⟨_,t3 (ak (bD (b3 (λm=>(tr G N (qQ G N m)).2))) ao)⟩
def Yf(N:Nat):=g0 Tryz.func225 λG=>(CF G N).2
def CC(G:aw):ev Tryz.f222 G:=⟨λa x1 H=>jb G H a "Push" [x1] λx6 af=>jb G af a "Len" [] λb ah=>aU (bm P .sub 3 C b (J X 1)) λx10=>dW ah (G 250 [a,x10] ah) λx11 an=>D (.tuple [],an),λN=>H7 ao⟩
def Yd(N:Nat):=dc Tryz.func222 λG=>(CC G).2 N
def tq(G:aw):gM Tryz.f223 G:=⟨_,λN=>t1 ao⟩
def BD(N:Nat):=dZ Tryz.func223 λG=>(tq G).2 N
def CE(G:aw):gM Tryz.f224 G:=⟨λa H=>jb G H a "Len" [] λx5 af=>aU (bm P .sub 3 C x5 (J X 1)) λx6=>jb G af a "Swap" [J X 0,x6] λc ah=>dW ah (G 251 [a,J X 0,x6] ah) λx12 an=>jb G an a "Pop" [] λb aM=>D (b,aM),λN=>vC ao⟩
def Ye(N:Nat):=dZ Tryz.func224 λG=>(CE G).2 N
def xR(G:aw)(N:Nat)(L0:T2):g6 0 1 Tryz.f250 G N (·.ax.ax) (bo L0 0 1) [(0,(bg Tryz.f250))]:=⟨λa x1 H=>aU (bm P .sub 3 C x1 (J X 1)) λx6=>aU (bm P .quo 3 C x6 (J X 2)) λx7=>aU (bm P .eql 3 Z x7 x1) λx10=>bQ x10 Z H (gz a) λx12 af=>bQ x10 Z af (gz x1) λd ah=>bQ x10 Z ah (gz x7) λe an=>bQ x10 Z an (λq=>(ia P an x12 "Less" [d,e]).bind λp=>dD an (G p.1 p.2 an) q) λx15 aM=>bQ x10 Z aM (b2 (iG .not x15)) λx16 b=>aU (da x10 (D (A C)) (D x16)) λx17=>dF (D x17) (D (.tuple [],b)) (jb G b a "Swap" [x7,x1] λf c=>L0 a x7 c),cr ao⟩
def tF(G:aw)(N:Nat):Nat->T2
 |0=>mu
 |n+1=>xR G N (tF G N n)
def CV(G:aw)(N:Nat):fJ Tryz.f250 G N:=⟨_,t2 (bD (b3 (λm=>(xR G N (tF G N m)).2)))⟩
def Yu(N:Nat):=dc Tryz.func250 λG=>(CV G N).2
def pd(G:aw)(N:Nat):g6 1 7 Tryz.f251 G N (·.ag.ag.ag) (bg Tryz.f251) []:=⟨_,v2 ao⟩
def tH(G:aw)(N:Nat)(L1:b_):gk 0 1 2 7 9 Tryz.f251 G N (·.ag.ag.ax.ax.ax.ax.ag.ag.ag.ag) (bT L1 0 1 2 7) [(1,(bT L1 0 1 2 7)),(0,(bo (pd G N) 1 7))]:=⟨λa x1 x2 x7 b H=>jb G H a "Less" [b,x7] λc af=>aU (iG .not c) λd=>dF (D d) (pd G N x1 x7 af) (jb G af a "Swap" [x7,b] λe ah=>L1 a x1 x2 b ah),cr ao⟩
def tG(G:aw)(N:Nat)(L1:b_):en 0 1 2 7 Tryz.f251 G N (·.ag.ag.ax.ax.ax) (bT L1 0 1 2 7) [(0,(bo (pd G N) 1 7))]:=⟨λd x1 x2 x7 H=>aU (bm P .mul 3 C (J X 2) x7) λg=>aU (bm P .add 3 C g (J X 1)) λa=>aU (bm P .geq 3 Z a x2) λx17=>bQ x17 Z H (gz a) λh af=>bQ x17 Z af (b2 (bm P .lss 3 C h (J X 0))) λi ah=>aU (da x17 (D (A C)) (D i)) λj=>dF (D j) (pd G N x1 x7 ah) (aU (bm P .add 3 C a (J X 1)) λe=>aU (bm P .lss 3 Z e x2) λb=>bQ b C ah (gz d) λk an=>bQ b C an (gz e) λl aM=>bQ b C aM (gz a) λm c=>bQ b C c (λq=>(ia P c k "Less" [l,m]).bind λp=>dD c (G p.1 p.2 c) q) λn f=>aU (da b (D n) (D (A Z))) λo=>dF (D o) (tH G N L1 d x1 x2 x7 e f) (tH G N L1 d x1 x2 x7 a f)),cr (bD (ak (ak (ak (ak ((tH G N L1).2) ao) ao) ao) ao))⟩
def pe(G:aw)(N:Nat):Nat->b_
 |0=>fk
 |n+1=>tG G N (pe G N n)
def CW(G:aw)(N:Nat):oq Tryz.f251 G N:=⟨_,t3 (ak (ak (ak ((pd G N).2) (bD (b3 (λm=>(tG G N (pe G N m)).2)))) ao) ao)⟩
def Yv(N:Nat):=g0 Tryz.func251 λG=>(CW G N).2
def C2(G:aw):iB Tryz.f281 G:=⟨_,λN=>t3 ao⟩
def YF(N:Nat):=g0 Tryz.func281 λG=>(C2 G).2 N
def C3(G:aw):iB Tryz.f282 G:=⟨_,λN=>vd ao⟩
def YG(N:Nat):=g0 Tryz.func282 λG=>(C3 G).2 N
def C4(G:aw):gM Tryz.f283 G:=⟨_,λN=>t1 ao⟩
def YH(N:Nat):=dZ Tryz.func283 λG=>(C4 G).2 N
def C5(G:aw):ev Tryz.f284 G:=⟨_,λN=>p6 ao⟩
def YI(N:Nat):=dc Tryz.func284 λG=>(C5 G).2 N
end
end
end Go.Proofs.YtmhhnnklfcbgfaaGreat
namespace Go.a2
open Go.bz
structure Ask where
 eM:Bool
 o:Nat
 f:Nat
structure bt where
 am:List Nat
 fM:List (List Nat)
 asks:List (List Ask)
 seen:List Nat
 work:List Nat
 waits:List Bool
def bt.a(S:bt)(v:Nat):Nat:=S.am.getD v 0
def bt.g(S:bt)(v:Nat):List Nat:=S.fM.getD v []
def bt.q(S:bt)(v:Nat):List Ask:=S.asks.getD v []
def bt.s(S:bt)(v:Nat):Nat:=S.seen.getD v 0
def bt.w(S:bt)(v:Nat):Bool:=S.waits.getD v Z
def hW(S:bt)(v:Nat):bt:=if S.w v then S else {S with waits:=S.waits.set v C,work:=v::S.work}
def fm(S:bt)(v x:Nat):bt:=if S.a v|||x=S.a v then S else hW {S with am:=S.am.set v (S.a v|||x)} v
def hl(S:bt)(a b:Nat):bt:=if b∈S.g a\/a=b then S else fm {S with fM:=S.fM.set a (S.g a++[b])} b (S.a a)
def c1(n t f:Nat):Nat:=n+t*8+f
def kt(S:bt)(v:Nat)(q:Ask):bt:={S with asks:=S.asks.set v (S.q v++[q])}
def lL(n:Nat)(S:bt)(a b:Nat):List Nat->bt
 |[]=>S
 |f::fs=>lL n (hl (hl S (c1 n a f) (c1 n b f)) (c1 n b f) (c1 n a f)) a b fs
def pW(n:Nat)(S:bt):bB->bt
 | .base a b=>fm S a (1<<<b)
 | .copy a b=>hl S b a
 | .load a b f=>kt S b ⟨C,a,f⟩
 | .store a b f=>kt S a ⟨Z,b,f⟩
 | .same a b=>lL n S a b (List.range 8)
def pX(n:Nat):List bB->bt->bt
 |[],S=>S
 |c::cs,S=>pX n cs (pW n S c)
def mG(n t:Nat)(S:bt)(q:Ask):bt:=if q.eM then hl S (c1 n t q.f) q.o else hl S q.o (c1 n t q.f)
def kq(n t:Nat):List Ask->bt->bt
 |[],S=>S
 |q::qs,S=>kq n t qs (mG n t S q)
def n4(n v:Nat):List Nat->bt->bt
 |[],S=>S
 |t::ts,S=>n4 n v ts (kq n t (S.q v) S)
def k_(v:Nat):List Nat->bt->bt
 |[],S=>S
 |b::bs,S=>k_ v bs (fm S b (S.a v))
def bits(x:Nat):List Nat:=(List.range 64).filter (x.testBit ·)
def jL(S:bt)(v:Nat):bt:={S with work:=S.work.erase v,waits:=S.waits.set v Z}
def lM(S:bt)(v:Nat):bt:={S with seen:=S.seen.set v (S.s v|||S.a v)}
def j1(S:bt)(v:Nat):List Nat:=(List.range 64).filter λt=>(S.a v).testBit t&& !(S.s v).testBit t
def nL(n:Nat)(S:bt)(v:Nat):bt:=n4 n v (j1 S v) (lM (jL S v) v)
def yQ(n:Nat)(S:bt)(v:Nat):bt:=k_ v ((nL n S v).g v) (nL n S v)
def fr(V:Nat):bt:=⟨List.replicate V 0,List.replicate V [],List.replicate V [],List.replicate V 0,[],List.replicate V Z⟩
def la{α:Type}{l:List α}{i j:Nat}{x d:α}(h:i<l.length):(l.set i x).getD j d=if j=i then x else l.getD j d:=by
 rw[List.getD_eq_getElem?_getD,List.getD_eq_getElem?_getD,List.getElem?_set];by_cases e:i=j
 ·subst e;simp[h]
 ·simp[e,Ne.symm e]
def kx{α:Type}{n i:Nat}{x:α}:(List.replicate n x).getD i x=x:=by
 rw[List.getD_eq_getElem?_getD,List.getElem?_replicate];split<;>rfl
def j3(l:List Nat):Nat:=(l.map λx=>64-(bits x).length).sum
def OQ(x:Nat):(bits x).length<=64:=Nat.le_trans (List.length_filter_le _ _) (by simp)
def filter_lt{α:Type}{p q:α->Bool}:∀{l:List α},(∀a∈l,p a=C->q a=C)->(∃a∈l,q a=C/\p a=Z)->(l.filter p).length<(l.filter q).length
 |[],_,h=>by obtain⟨a,h,_⟩:=h;simp at h
 |b::l,af,ah=>by
  have hle:∀{l:List α},(∀a∈l,p a=C->q a=C)->(l.filter p).length<=(l.filter q).length:=by
   intro l
   induction l with
   |nil=>intro _;simp
   |cons c l g=>
    intro h;have:=g λa d=>h a (by simp[d])
    have aq:=h c (by simp);cases e:p c with
    |true=>rw[List.filter_cons_of_pos e,List.filter_cons_of_pos (aq e)];simp only[List.length_cons];omega
    |false=>
     rw[List.filter_cons_of_neg (by simp[e])];cases aN:q c with
     |true=>rw[List.filter_cons_of_pos aN];simp only[List.length_cons];omega
     |false=>rw[List.filter_cons_of_neg (by simp[aN])];exact this
  have i:∀a∈l,p a=C->q a=true:=λa d=>af a (by simp[d])
  obtain⟨a,d,aN,e⟩:=ah;rcases List.mem_cons.1 d with rfl|d
  ·rw[List.filter_cons_of_neg (by simp[e]),List.filter_cons_of_pos aN];have:=hle i;simp only[List.length_cons];omega
  ·have g:=filter_lt i ⟨a,d,aN,e⟩;have k:=af b (by simp);cases f:p b with
   |true=>rw[List.filter_cons_of_pos f,List.filter_cons_of_pos (k f)];simp only[List.length_cons];omega
   |false=>
    rw[List.filter_cons_of_neg (by simp[f])];cases j:q b with
    |true=>rw[List.filter_cons_of_pos j];simp only[List.length_cons];omega
    |false=>rw[List.filter_cons_of_neg (by simp[j])];exact g
def OR{x y:Nat}(e:y<2^64)(aA:x<2^64)(h:x|||y≠x):(bits x).length<(bits (x|||y)).length:=by
 unfold bits;refine filter_lt (λa _ c=>by rw[Nat.testBit_or,c];rfl) ?_;apply Classical.byContradiction;intro aH;apply h;apply Nat.eq_of_testBit_eq;intro i;by_cases d:i<64
 ·cases b:x.testBit i with
  |true=>rw[Nat.testBit_or,b];rfl
  |false=>
   cases f:(x|||y).testBit i with
   |false=>rfl
   |true=>exact absurd ⟨i,by simpa using d,f,b⟩ aH
 ·have af:x<2^i:=Nat.lt_of_lt_of_le aA (Nat.pow_le_pow_right (by omega) (by omega));have ah:y<2^i:=Nat.lt_of_lt_of_le e (Nat.pow_le_pow_right (by omega) (by omega));rw[Nat.testBit_or,Nat.testBit_lt_two_pow af,Nat.testBit_lt_two_pow ah];rfl
def Hh:∀{l:List Nat} {v x:Nat},v<l.length->(bits (l.getD v 0)).length<(bits x).length->j3 (l.set v x)+1<=j3 l
 |[],_,_,h,_=>by simp at h
 |a::l,0,x,_,h=>by
  have bY:(bits a).length<(bits x).length:=h;have:=OQ x;simp only[j3,List.set_cons_zero,List.map_cons,List.sum_cons];omega
 |a::l,v+1,x,b,h=>by
  have c:=Hh (l:=l) (v:=v) (x:=x) (by simpa using b) (by simpa using h);simp only[j3,List.set_cons_succ,List.map_cons,List.sum_cons]at c ⊢;omega
def bt.M(S:bt):Nat:=2*j3 S.am+S.work.length
structure dH(n m:Nat)(l:List bB)(zX:Nat->Prop)(Y:Nat->Nat->Prop)(S:bt):Prop where
 c9:S.am.length=n+m*8
 aW:S.fM.length=n+m*8
 gx:S.asks.length=n+m*8
 ls:S.seen.length=n+m*8
 lw:S.waits.length=n+m*8
 ew:∀v,S.a v<2^64
 lb:∀v,∀b∈S.g v,b<n+m*8
 ki:∀v∈S.work,v<n+m*8
 ch:S.work.Nodup
 sound:∀v s,(S.a v).testBit s=true->dG n l v s
 gs:∀a,∀b∈S.g a,∀s,dG n l a s->dG n l b s
 qs:∀v,∀q∈S.q v,(q.eM=true/\bB.load q.o v q.f∈l)\/(q.eM=false/\bB.store v q.o q.f∈l)
 sle:∀v s,(S.s v).testBit s=true->(S.a v).testBit s=true
 wt:∀v,S.w v=true↔v∈S.work
 mF:∀v t,(S.s v).testBit t=true->¬Y v t->∀q∈S.q v,(if q.eM then q.o=c1 n t q.f\/q.o∈S.g (c1 n t q.f)else c1 n t q.f=q.o\/c1 n t q.f∈S.g q.o)
 ez:∀v,¬zX v->S.w v=false->(∀b∈S.g v,∀s,(S.a v).testBit s=true->(S.a b).testBit s=true)/\S.s v=S.a v
structure iv(S c:bt):Prop where
 a:∀v s,(S.a v).testBit s=true->(c.a v).testBit s=true
 g:∀v,∀b∈S.g v,b∈c.g v
 q:∀v,c.q v=S.q v
 s:∀v,c.s v=S.s v
 m:c.M<=S.M
def iv.refl(S:bt):iv S S:=⟨λ_ _ h=>h,λ_ _ h=>h,λ_=>rfl,λ_=>rfl,bC _⟩
def iv.trans{S c d:bt}(h:iv S c)(k:iv c d):iv S d:=⟨λv s x=>k.a v s (h.a v s x),λv b x=>k.g v b (h.g v b x),λv=>(k.q v).trans (h.q v),λv=>(k.s v).trans (h.s v),Nat.le_trans k.m h.m⟩
section
variable {n m:Nat}{l:List bB}{zX:Nat->Prop}{Y:Nat->Nat->Prop}{S:bt}
def dH.hW(h:dH n m l zX Y S){v:Nat}(b:v<n+m*8):dH n m l zX Y (hW S v):=by
 unfold Go.a2.hW;cases hw:S.w v with
 |true=>simpa [hw]using h
 |false=>
  have d:v<S.waits.length:=by rw[h.lw];exact b
  have c:∀u,({S with waits:=S.waits.set v C,work:=v::S.work}:bt).w u=if u=v then C else S.w u:=λu=>la d
  have aH:v∉S.work:=λhm=>by rw[(h.wt v).2 hm]at hw;cases hw
  simp only[Bool.false_eq_true,if_false];refine⟨h.c9,h.aW,h.gx,h.ls,by simpa using h.lw,h.ew,h.lb,?_,List.nodup_cons.2 ⟨aH,h.ch⟩,h.sound,h.gs,h.qs,h.sle,?_,h.mF,?_⟩
  ·intro u hu;rcases List.mem_cons.1 hu with rfl|hu
   ·exact b
   ·exact h.ki u hu
  ·intro u;rw[c,List.mem_cons];split
   ·rename_i e;simp[e]
   ·rename_i e;rw[h.wt];simp[e]
  ·intro u hu a;rw[c]at a;split at a
   ·cases a
   ·exact h.ez u hu a
def dH.fm(h:dH n m l zX Y S){v x:Nat}(B:v<n+m*8)(aA:x<2^64)(ab:∀s,x.testBit s=C->dG n l v s):dH n m l zX Y (fm S v x)/\iv S (fm S v x)/\(∀s,x.testBit s=C->((fm S v x).a v).testBit s=C)/\(∀u,u≠v->(fm S v x).a u=S.a u)/\(fm S v x).fM=S.fM/\(∀u,u≠v->(fm S v x).w u=S.w u)/\(∀u,(S.w u=Z->S.s u=S.a u)->(fm S v x).w u=Z->(fm S v x).s u=(fm S v x).a u):=by
 unfold Go.a2.fm;by_cases e:S.a v|||x=S.a v
 ·rw[if_pos e];refine⟨h,.refl S,λs c=> ?_,λ_ _=>rfl,rfl,λ_ _=>rfl,λ_ q=>q⟩;rw[<-e,Nat.testBit_or,c,Bool.or_true]
 ·rw[if_neg e];have N:v<S.am.length:=by rw[h.c9];exact B
  have W:v<S.waits.length:=by rw[h.lw];exact B
  have i:∀u,(({S with am:=S.am.set v (S.a v|||x)}:bt)).a u=if u=v then S.a v|||x else S.a u:=λu=>la N
  have y:∀u s,(S.a u).testBit s=C->((({S with am:=S.am.set v (S.a v|||x)}:bt)).a u).testBit s=true:=by
   intro u s c;rw[i];split
   ·rename_i e;subst e;rw[Nat.testBit_or,c,Bool.true_or]
   ·exact c
  have L:=h.ew v;have aa:S.a v|||x<2^64:=Nat.or_lt_two_pow L aA;have af:j3 (S.am.set v (S.a v|||x))+1<=j3 S.am:=Hh N (OR aA L e);unfold Go.a2.hW;have ad:(({S with am:=S.am.set v (S.a v|||x)}:bt)).w v=S.w v:=rfl;rw[ad];have common:∀d:bt,d.am=S.am.set v (S.a v|||x)->d.fM=S.fM->d.asks=S.asks->d.seen=S.seen->d.waits.length=S.waits.length->(∀u∈d.work,u<n+m*8)->d.work.Nodup->(∀u,d.w u=C↔u∈d.work)->(∀u,d.w u=if u=v then C else S.w u)->dH n m l zX Y d:=by
   intro d E G H K P Q R T U;have o:∀u,d.a u=if u=v then S.a v|||x else S.a u:=λu=>by rw[<-i];show d.am.getD u 0=(S.am.set v (S.a v|||x)).getD u 0;rw[E]
   have p:∀u,d.g u=S.g u:=λu=>by unfold bt.g;rw[G]
   have O:∀u,d.q u=S.q u:=λu=>by unfold bt.q;rw[H]
   have z:∀u,d.s u=S.s u:=λu=>by unfold bt.s;rw[K]
   have M:∀u s,(S.a u).testBit s=C->(d.a u).testBit s=true:=λu s q=>by
    have:=y u s q;rw[i]at this;rw[o];exact this
   refine⟨by rw[E];simpa using h.c9,by rw[G];exact h.aW,by rw[H];exact h.gx,by rw[K];exact h.ls,by rw[P];exact h.lw,?_,?_,Q,R,?_,?_,?_,?_,T,?_,?_⟩
   ·intro u;rw[o];split
    ·exact aa
    ·exact h.ew u
   ·intro u b f;rw[p]at f;exact h.lb u b f
   ·intro u s c;rw[o]at c;split at c
    ·rename_i V;subst V;rw[Nat.testBit_or,Bool.or_eq_true]at c;rcases c with c|c
     ·exact h.sound u s c
     ·exact ab s c
    ·exact h.sound u s c
   ·intro u b f;rw[p]at f;exact h.gs u b f
   ·intro u q aN;rw[O]at aN;exact h.qs u q aN
   ·intro u s c;rw[z]at c;exact M u s (h.sle u s c)
   ·intro u t a1 ae q aN;rw[z]at a1;rw[O]at aN;simp only[p];exact h.mF u t a1 ae q aN
   ·intro u hu j;rw[U]at j;split at j
    ·cases j
    ·rename_i ne;obtain⟨f1,f2⟩:=h.ez u hu j;rw[z,o,if_neg ne,p];exact⟨λb f s c=>M b s (f1 b f s c),f2⟩
  cases hw:S.w v with
  |true=>
   rw[if_pos rfl];refine⟨common _ rfl rfl rfl rfl rfl h.ki h.ch h.wt λu=> ?_,⟨y,λ_ _ f=>f,λ_=>rfl,λ_=>rfl,?_⟩,λs c=> ?_,λu hu=> ?_,rfl,λ_ _=>rfl,λu q j=> ?_⟩
   ·show S.w u=_;split
    ·rename_i e;rw[e];exact hw
    ·rfl
   ·show 2*j3 (S.am.set v (S.a v|||x))+S.work.length<=2*j3 S.am+S.work.length;omega
   ·rw[i,if_pos rfl,Nat.testBit_or,c,Bool.or_true]
   ·rw[i,if_neg hu]
   ·have k:S.w u=false:=j;by_cases e:u=v
    ·subst e;rw[hw]at k;cases k
    ·rw[i,if_neg e];exact q k
  |false=>
   rw[if_neg (by simp)];have aH:v∉S.work:=λhm=>by rw[(h.wt v).2 hm]at hw;cases hw
   have r:∀u,((S.waits.set v C).getD u Z)=if u=v then C else S.w u:=λu=>la W
   refine⟨common _ rfl rfl rfl rfl (by simp) ?_ (List.nodup_cons.2 ⟨aH,h.ch⟩) ?_ r,⟨y,λ_ _ f=>f,λ_=>rfl,λ_=>rfl,?_⟩,λs c=> ?_,λu hu=> ?_,rfl,λu hu=> ?_,λu q j=> ?_⟩
   ·intro u hu;rcases List.mem_cons.1 hu with rfl|hu
    ·exact B
    ·exact h.ki u hu
   ·intro u;show(S.waits.set v C).getD u Z=C↔u∈v::S.work;rw[r,List.mem_cons];split
    ·rename_i e;simp[e]
    ·rename_i e;rw[h.wt];simp[e]
   ·show 2*j3 (S.am.set v (S.a v|||x))+(v::S.work).length<=2*j3 S.am+S.work.length;simp only[List.length_cons];omega
   ·show(bt.a {S with am:=S.am.set v (S.a v|||x)} v).testBit s=C;rw[i,if_pos rfl,Nat.testBit_or,c,Bool.or_true]
   ·show bt.a {S with am:=S.am.set v (S.a v|||x)} u=_;rw[i,if_neg hu]
   ·show(S.waits.set v C).getD u Z=_;rw[r,if_neg hu]
   ·have k:(S.waits.set v C).getD u Z=false:=j;rw[r]at k;split at k
    ·cases k
    ·rename_i e;show S.s u=bt.a {S with am:=S.am.set v (S.a v|||x)} u;rw[i,if_neg e];exact q k
end
section
variable {n m:Nat}{l:List bB}{zX:Nat->Prop}{Y:Nat->Nat->Prop}{S:bt}
def dH.acQ{d:Nat->Prop}{e:Nat->Nat->Prop}(h:dH n m l zX Y S)(aA:∀v,zX v->d v)(f:∀v t,Y v t->e v t):dH n m l d e S:=
 ⟨h.c9,h.aW,h.gx,h.ls,h.lw,h.ew,h.lb,h.ki,h.ch,h.sound,h.gs,h.qs,h.sle,h.wt,λv t a b=>h.mF v t a λc=>b (f v t c),λv a=>h.ez v λc=>a (aA v c)⟩
def km(S b:bt):Prop:=∀u,(S.w u=Z->S.s u=S.a u)->b.w u=Z->b.s u=b.a u
def km.refl(S:bt):km S S:=λ_ q=>q
def km.trans{a b c:bt}(h:km a b)(k:km b c):km a c:=λu q=>k u (h u q)
def dH.oF(h:dH n m l zX Y S){a b:Nat}(O:a<n+m*8)(z:b<n+m*8)(E:∀s,dG n l a s->dG n l b s):dH n m l zX Y (hl S a b)/\iv S (hl S a b)/\(a=b\/b∈(hl S a b).g a)/\km S (hl S a b):=by
 unfold hl;by_cases e:b∈S.g a\/a=b
 ·rw[if_pos e];exact⟨h,.refl S,e.elim .inr .inl,.refl S⟩
 ·rw[if_neg e];simp only[not_or]at e;obtain⟨U,x⟩:=e;have Q:a<S.fM.length:=by rw[h.aW];exact O
  have k:∀u,(({S with fM:=S.fM.set a (S.g a++[b])}:bt)).g u=if u=a then S.g a++[b]else S.g u:=λu=>la Q
  have B:∀u,∀c∈S.g u,c∈(({S with fM:=S.fM.set a (S.g a++[b])}:bt)).g u:=by
   intro u c aq;rw[k];split
   ·rename_i N;subst N;exact List.mem_append.2 (.inl aq)
   ·exact aq
  have af:dH n m l (λv=>zX v\/v=a) Y ({S with fM:=S.fM.set a (S.g a++[b])}:bt):=by
   refine⟨h.c9,by simpa using h.aW,h.gx,h.ls,h.lw,h.ew,?_,h.ki,h.ch,h.sound,?_,h.qs,h.sle,h.wt,?_,?_⟩
   ·intro v c aq;rw[k]at aq;split at aq
    ·rcases List.mem_append.1 aq with aq|aq
     ·exact h.lb a c aq
     ·simp only[List.mem_singleton]at aq;subst aq;exact z
    ·exact h.lb v c aq
   ·intro v c aq s f;rw[k]at aq;split at aq
    ·rename_i hn;subst hn;rcases List.mem_append.1 aq with aq|aq
     ·exact h.gs v c aq s f
     ·simp only[List.mem_singleton]at aq;subst aq;exact E s f
    ·exact h.gs v c aq s f
   ·intro v t a1 T q aN;have:=h.mF v t a1 T q aN;split at this
    ·rename_i r;rw[if_pos r];exact this.imp id (B _ _)
    ·rename_i r;rw[if_neg r];exact this.imp id (B _ _)
   ·intro v j hw;simp only[not_or]at j;obtain⟨f1,f2⟩:=h.ez v j.1 hw;rw[k,if_neg j.2];exact⟨f1,f2⟩
  obtain⟨d,i,G,H,K,L,M⟩:=af.fm z (h.ew a) λs f=>E s (h.sound a s f)
  generalize Go.a2.fm ({S with fM:=S.fM.set a (S.g a++[b])}:bt) b (S.a a)=o at d i G H K L M ⊢;have p:∀u,o.g u=if u=a then S.g a++[b]else S.g u:=λu=>by rw[<-k];show o.fM.getD u []=(S.fM.set a (S.g a++[b])).getD u [];rw[K]
  have P:∀v,∀c∈S.g v,c∈o.g v:=λv c aq=>by
   rw[p];split
   ·rename_i hn;subst hn;exact List.mem_append.2 (.inl aq)
   ·exact aq
  refine⟨⟨d.c9,d.aW,d.gx,d.ls,d.lw,d.ew,d.lb,d.ki,d.ch,d.sound,d.gs,d.qs,d.sle,d.wt,d.mF,?_⟩,⟨i.a,P,i.q,i.s,i.m⟩,.inr (by rw[p,if_pos rfl];simp),M⟩;intro v j hw;by_cases hn:v=a
  ·subst hn;have R:S.w v=false:=by rw[L v x]at hw;exact hw
   obtain⟨f1,f2⟩:=h.ez v j R;have y:o.a v=S.a v:=H v x;refine⟨λc aq s f=> ?_,?_⟩
   ·rw[y]at f;rw[p,if_pos rfl]at aq;rcases List.mem_append.1 aq with aq|aq
    ·exact i.a c s (f1 c aq s f)
    ·simp only[List.mem_singleton]at aq;subst aq;exact G s f
   ·rw[y];exact(i.s v).trans f2
  ·exact d.ez v (by simp[j,hn]) hw
def lP(n t:Nat)(S:bt)(q:Ask):Prop:=if q.eM then q.o=c1 n t q.f\/q.o∈S.g (c1 n t q.f)else c1 n t q.f=q.o\/c1 n t q.f∈S.g q.o
def lP.oL{n t:Nat}{S a:bt}{q:Ask}(h:lP n t S q)(g:iv S a):lP n t a q:=by
 unfold lP at h ⊢;split at h
 ·rename_i e;rw[if_pos e];exact h.imp id (g.g _ _)
 ·rename_i e;rw[if_neg e];exact h.imp id (g.g _ _)
def dH.answer(i:gE n m l)(h:dH n m l zX Y S){v t:Nat}{q:Ask}(a1:dG n l v t)(aN:(q.eM=C/\bB.load q.o v q.f∈l)\/(q.eM=Z/\bB.store v q.o q.f∈l)):dH n m l zX Y (mG n t S q)/\iv S (mG n t S q)/\lP n t (mG n t S q) q/\km S (mG n t S q):=by
 have r:=a1.site i;unfold mG lP;rcases aN with⟨e,aN⟩|⟨e,aN⟩
 ·obtain⟨j,k,p⟩:=i _ aN;simp only[e,if_true];obtain⟨c,d,a3,a4⟩:=h.oF (a:=c1 n t q.f) (b:=q.o) (by unfold c1;omega) (by omega) λs g=> .load aN a1 g
  exact⟨c,d,a3.imp Eq.symm id,a4⟩
 ·obtain⟨j,k,p⟩:=i _ aN;simp only[e,Bool.false_eq_true,if_false];obtain⟨c,d,a3,a4⟩:=h.oF (a:=q.o) (b:=c1 n t q.f) (by omega) (by unfold c1;omega) λs g=> .store aN a1 g
  exact⟨c,d,a3.imp Eq.symm id,a4⟩
def dH.answers(c:gE n m l){v t:Nat}(a1:dG n l v t):∀{qs:List Ask} {S:bt},dH n m l zX Y S->(∀q∈qs,(q.eM=C/\bB.load q.o v q.f∈l)\/(q.eM=Z/\bB.store v q.o q.f∈l))->dH n m l zX Y (kq n t qs S)/\iv S (kq n t qs S)/\(∀q∈qs,lP n t (kq n t qs S) q)/\km S (kq n t qs S)
 |[],S,h,_=>⟨h,.refl S,λq aN=>by simp at aN,.refl S⟩
 |q::qs,S,h,aN=>by
  obtain⟨d,e,a3,a4⟩:=h.answer c a1 (aN q (by simp));obtain⟨g,b,i,j⟩:=dH.answers c a1 (qs:=qs) d λa bY=>aN a (by simp[bY])
  refine⟨g,e.trans b,λa bY=> ?_,a4.trans j⟩;rcases List.mem_cons.1 bY with rfl|bY
  ·exact a3.oL b
  ·exact i a bY
def dH.sites(f:gE n m l){v:Nat}:∀{ts:List Nat} {S:bt},dH n m l zX (λu t=>u=v/\t∈ts) S->(∀t∈ts,dG n l v t)->dH n m l zX (λ_ _=>False) (n4 n v ts S)/\iv S (n4 n v ts S)/\km S (n4 n v ts S)
 |[],S,h,_=>⟨h.acQ (λ_ a=>a) λ_ _ a=>by simp at a,.refl S,.refl S⟩
 |t::ts,S,h,a1=>by
  obtain⟨b,d,a3,a4⟩:=dH.answers f (a1 t (by simp)) h (qs:=S.q v) (h.qs v);have g:dH n m l zX (λu t=>u=v/\t∈ts) (kq n t (S.q v) S):=by
   refine⟨b.c9,b.aW,b.gx,b.ls,b.lw,b.ew,b.lb,b.ki,b.ch,b.sound,b.gs,b.qs,b.sle,b.wt,λu c hu o q aN=> ?_,b.ez⟩;by_cases e:u=v/\c=t
   ·obtain⟨rfl,rfl⟩:=e;rw[d.q]at aN;exact a3 q aN
   ·refine b.mF u c hu (λaq=> ?_) q aN;rcases List.mem_cons.1 aq.2 with af|af
    ·exact e ⟨aq.1,af⟩
    ·exact o ⟨aq.1,af⟩
  obtain⟨i,j,k⟩:=dH.sites f g λc bY=>a1 c (by simp[bY])
  exact⟨i,d.trans j,a4.trans k⟩
def dH.G7{v:Nat}(x:v<n+m*8):∀{bs:List Nat} {S:bt},dH n m l zX Y S->(∀b∈bs,b∈S.g v)->dH n m l zX Y (k_ v bs S)/\iv S (k_ v bs S)/\km S (k_ v bs S)/\(k_ v bs S).a v=S.a v/\(k_ v bs S).fM=S.fM/\∀b∈bs,∀s,(S.a v).testBit s=C->((k_ v bs S).a b).testBit s=C
 |[],S,h,_=>⟨h,.refl S,.refl S,rfl,rfl,λb d=>by simp at d⟩
 |b::bs,S,h,d=>by
  have k:=d b (by simp);obtain⟨y,z,B,E,o,H,G⟩:=h.fm (h.lb v b k) (h.ew v) λs f=>h.gs v b k s (h.sound v s f)
  have j:(Go.a2.fm S b (S.a v)).a v=S.a v:=by
   by_cases e:v=b
   ·subst e;unfold Go.a2.fm;rw[if_pos (Nat.or_self _)]
   ·exact E v e
  have aP:∀u,(Go.a2.fm S b (S.a v)).g u=S.g u:=λu=>by unfold bt.g;rw[o]
  obtain⟨p,i,q,r,t,w⟩:=dH.G7 x y (bs:=bs) λc aq=>by rw[aP];exact d c (by simp[aq])
  refine⟨p,z.trans i,km.trans G q,r.trans j,t.trans o,λc aq s f=> ?_⟩;rcases List.mem_cons.1 aq with rfl|aq
  ·exact i.a _ _ (B s f)
  ·exact w c aq s (by rw[j];exact f)
abbrev kn(n m:Nat)(l:List bB)(S:bt):Prop:=dH n m l (λ_=>False) (λ_ _=>False) S
structure pE(S c:bt):Prop where
 a:∀v s,(S.a v).testBit s=true->(c.a v).testBit s=true
 g:∀v,∀b∈S.g v,b∈c.g v
 q:∀v,c.q v=S.q v
def dH.step(ab:gE n m l)(h:kn n m l S){v:Nat}(B:v∈S.work):kn n m l (yQ n S v)/\pE S (yQ n S v)/\(yQ n S v).M<S.M:=by
 have E:=h.ki v B;have W:v<S.waits.length:=by rw[h.lw];exact E
 have V:v<S.seen.length:=by rw[h.ls];exact E
 have G:S.s v|||S.a v=S.a v:=by
  apply Nat.eq_of_testBit_eq;intro i;rw[Nat.testBit_or];cases R:(S.s v).testBit i with
  |true=>rw[h.sle v i R];rfl
  |false=>rfl
 have H:∀u,(lM (jL S v) v).w u=if u=v then Z else S.w u:=λu=>la W
 have r:∀u,(lM (jL S v) v).s u=if u=v then S.a v else S.s u:=λu=>by
  have:=la (x:=S.s v|||S.a v) (d:=0) (j:=u) V;rw[G]at this;show(S.seen.set v (S.s v|||S.a v)).getD u 0=_;rw[G];exact this
 have af:dH n m l (λu=>u=v) (λu t=>u=v/\t∈j1 S v) (lM (jL S v) v):=by
  refine⟨h.c9,h.aW,h.gx,by simpa [lM,jL]using h.ls,by simpa [lM,jL]using h.lw,h.ew,h.lb,λu hu=>h.ki u (List.mem_of_mem_erase hu),h.ch.erase v,h.sound,h.gs,h.qs,?_,?_,?_,?_⟩
  ·intro u s f;rw[r]at f;split at f
   ·rename_i e;subst e;exact f
   ·exact h.sle u s f
  ·intro u;rw[H];show _↔u∈S.work.erase v;rw[h.ch.mem_erase_iff];split
   ·rename_i e;simp[e]
   ·rename_i e;rw[h.wt];simp[e]
  ·intro u t a1 ad q aN;have Y:q∈S.q u:=aN;refine h.mF u t ?_ (λaq=>aq) q Y;rw[r]at a1;split at a1
   ·rename_i e;subst e;cases aa:(S.s u).testBit t with
    |true=>rfl
    |false=>
     exfalso;apply ad;refine⟨rfl,?_⟩;unfold j1;rw[List.mem_filter];refine⟨?_,by rw[a1,aa];rfl⟩;rw[List.mem_range];rcases Nat.lt_or_ge t 64 with y|y
     ·exact y
     ·have:=Nat.testBit_lt_two_pow (Nat.lt_of_lt_of_le (h.ew u) (Nat.pow_le_pow_right (by omega) y));rw[this]at a1;cases a1
   ·exact a1
  ·intro u hu hw;rw[H,if_neg hu]at hw;obtain⟨f1,f2⟩:=h.ez u (λaq=>aq) hw;refine⟨f1,?_⟩;rw[r,if_neg hu];exact f2
 obtain⟨K,o,a3⟩:=dH.sites ab af λt a1=>by
  unfold j1 at a1;rw[List.mem_filter]at a1;simp only[Bool.and_eq_true]at a1;exact h.sound v t a1.2.1
 have T:=a3 v λ_=>by rw[r,if_pos rfl];rfl
 obtain⟨c,p,L,N,O,P⟩:=dH.G7 E (bs:=(nL n S v).g v) K λb k=>k
 have U:=L v T;have ae:(lM (jL S v) v).M+1=S.M:=by
  show 2*j3 S.am+(S.work.erase v).length+1=2*j3 S.am+S.work.length;rw[List.length_erase_of_mem B];have:=List.length_pos_of_mem B;omega
 have ag:=o.m;have ah:=p.m;refine⟨⟨c.c9,c.aW,c.gx,c.ls,c.lw,c.ew,c.lb,c.ki,c.ch,c.sound,c.gs,c.qs,c.sle,c.wt,c.mF,?_⟩,⟨λu s f=>p.a u s (o.a u s f),λu b k=>p.g u b (o.g u b k),λu=>(p.q u).trans (o.q u)⟩,?_⟩
 ·intro u _ hw;by_cases e:u=v
  ·subst e;refine⟨λb k s f=> ?_,U hw⟩;have Q:b∈(nL n S u).g u:=by
    have:(k_ u ((nL n S u).g u) (n4 n u (j1 S u) (lM (jL S u) u))).g u=(nL n S u).g u:=congrArg (λz=>List.getD z u []) O;rw[<-this];exact k
   refine P b Q s ?_;rw[<-N];exact f
  ·exact c.ez u e hw
 ·show(k_ v ((nL n S v).g v) (n4 n v (j1 S v) (lM (jL S v) v))).M<S.M;omega
end
section
variable {n m:Nat}{l:List bB}{S:bt}
structure fG(n m:Nat)(l:List bB)(S:bt):Prop where
 i:kn n m l S
 z:∀v,S.s v=0
structure jx(S c:bt):Prop where
 a:∀v s,(S.a v).testBit s=true->(c.a v).testBit s=true
 g:∀v,∀b∈S.g v,b∈c.g v
 q:∀v,∀q∈S.q v,q∈c.q v
def iv.b{S c:bt}(h:iv S c):jx S c:=⟨h.a,h.g,λv q aN=>by rw[h.q];exact aN⟩
def pE.b{S c:bt}(h:pE S c):jx S c:=⟨h.a,h.g,λv q aN=>by rw[h.q];exact aN⟩
def jx.refl(S:bt):jx S S:=⟨λ_ _ h=>h,λ_ _ h=>h,λ_ _ h=>h⟩
def jx.trans{S c d:bt}(h:jx S c)(k:jx c d):jx S d:=⟨λv s x=>k.a v s (h.a v s x),λv b x=>k.g v b (h.g v b x),λv q x=>k.q v q (h.q v q x)⟩
def nd(n:Nat)(S:bt):bB->Prop
 | .base a b=>(S.a a).testBit b=C
 | .copy a b=>b=a\/a∈S.g b
 | .load a b f=>(⟨C,a,f⟩:Ask)∈S.q b
 | .store a b f=>(⟨Z,b,f⟩:Ask)∈S.q a
 | .same a b=>∀f,f<8->(c1 n a f=c1 n b f\/c1 n b f∈S.g (c1 n a f))/\(c1 n b f=c1 n a f\/c1 n a f∈S.g (c1 n b f))
def nd.oL{S d:bt}{c:bB}(h:nd n S c)(g:jx S d):nd n d c:=by
 cases c with
 |base a b=>exact g.a _ _ h
 |copy a b=>exact Or.imp id (g.g _ _) h
 |load a b f=>exact g.q _ _ h
 |store a b f=>exact g.q _ _ h
 |same a b=>exactλf az=>⟨(h f az).1.imp id (g.g _ _),(h f az).2.imp id (g.g _ _)⟩
def fG.start(n m:Nat)(l:List bB):fG n m l (fr (n+m*8)):=by
 have e:∀v,(fr (n+m*8)).a v=0:=λv=>kx
 have aP:∀v,(fr (n+m*8)).g v=[]:=λv=>kx
 have aN:∀v,(fr (n+m*8)).q v=[]:=λv=>kx
 have d:∀v,(fr (n+m*8)).s v=0:=λv=>kx
 have hw:∀v,(fr (n+m*8)).w v=false:=λv=>kx
 refine⟨⟨by simp[fr],by simp[fr],by simp[fr],by simp[fr],by simp[fr],?_,?_,?_,List.nodup_nil,?_,?_,?_,?_,?_,?_,?_⟩,d⟩
 ·intro v;rw[e];decide
 ·intro v b c;rw[aP]at c;simp at c
 ·intro v f;simp[fr]at f
 ·intro v s h;rw[e]at h;simp at h
 ·intro a b c;rw[aP]at c;simp at c
 ·intro v q h;rw[aN]at h;simp at h
 ·intro v s h;rw[d]at h;simp at h
 ·intro v;rw[hw];simp[fr]
 ·intro v t h;rw[d]at h;simp at h
 ·intro v _ _;rw[aP,d,e];exact⟨λb c=>by simp at c,rfl⟩
def fG.of(h:fG n m l S){a:bt}(i:kn n m l a)(g:iv S a):fG n m l a:=⟨i,λv=>by rw[g.s,h.z]⟩
def fG.oF(h:fG n m l S){a b:Nat}(e:a<n+m*8)(f:b<n+m*8)(j:∀s,dG n l a s->dG n l b s):fG n m l (hl S a b)/\jx S (hl S a b)/\(a=b\/b∈(hl S a b).g a):=by
 obtain⟨d,c,a3,_⟩:=h.i.oF e f j;exact⟨h.of d c,c.b,a3⟩
def fG.same{a b:Nat}(aq:bB.same a b∈l)(p:a<m)(r:b<m):∀{fs:List Nat} {S:bt},fG n m l S->(∀f∈fs,f<8)->fG n m l (lL n S a b fs)/\jx S (lL n S a b fs)/\∀f∈fs,(c1 n a f=c1 n b f\/c1 n b f∈(lL n S a b fs).g (c1 n a f))/\(c1 n b f=c1 n a f\/c1 n a f∈(lL n S a b fs).g (c1 n b f))
 |[],S,h,_=>⟨h,.refl S,λf az=>by simp at az⟩
 |f::fs,S,h,az=>by
  have e:=az f (by simp);obtain⟨i,j,a3⟩:=h.oF (a:=c1 n a f) (b:=c1 n b f) (by unfold c1;omega) (by unfold c1;omega) λs c=> .same aq e c
  obtain⟨k,d,o⟩:=i.oF (a:=c1 n b f) (b:=c1 n a f) (by unfold c1;omega) (by unfold c1;omega) λs c=> .m3 aq e c
  obtain⟨a8,bo,bJ⟩:=fG.same aq p r (fs:=fs) k λg aP=>az g (by simp[aP])
  refine⟨a8,(j.trans d).trans bo,λg aP=> ?_⟩;rcases List.mem_cons.1 aP with rfl|aP
  ·exact⟨a3.imp id λq=>bo.g _ _ (d.g _ _ q),o.imp id (bo.g _ _)⟩
  ·exact bJ g aP
def ZR{b s:Nat}(h:(1<<<b).testBit s=C):s=b:=by
 rw[Nat.one_shiftLeft,Nat.testBit_two_pow]at h;exact(of_decide_eq_true h).symm
def fG.ask(h:fG n m l S){v:Nat}{q:Ask}(j:v<n+m*8)(aN:(q.eM=C/\bB.load q.o v q.f∈l)\/(q.eM=Z/\bB.store v q.o q.f∈l)):fG n m l (kt S v q)/\jx S (kt S v q)/\q∈(kt S v q).q v:=by
 have g:v<S.asks.length:=by rw[h.i.gx];exact j
 have c:∀u,(kt S v q).q u=if u=v then S.q v++[q]else S.q u:=λu=>la g
 refine⟨⟨⟨h.i.c9,h.i.aW,by simpa [kt]using h.i.gx,h.i.ls,h.i.lw,h.i.ew,h.i.lb,h.i.ki,h.i.ch,h.i.sound,h.i.gs,?_,h.i.sle,h.i.wt,?_,h.i.ez⟩,h.z⟩,⟨λ_ _ a=>a,λ_ _ a=>a,?_⟩,?_⟩
 ·intro u p b;rw[c]at b;split at b
  ·rename_i e;subst e;rcases List.mem_append.1 b with b|b
   ·exact h.i.qs u p b
   ·simp only[List.mem_singleton]at b;subst b;exact aN
  ·exact h.i.qs u p b
 ·intro u t a1;have:S.s u=0:=h.z u;have d:(S.s u).testBit t=true:=a1;rw[this]at d;simp at d
 ·intro u p b;rw[c];split
  ·rename_i e;subst e;exact List.mem_append.2 (.inl b)
  ·exact b
 ·rw[c,if_pos rfl];simp
def fG.begin(hm:m<=60)(k:gE n m l)(h:fG n m l S){c:bB}(aq:c∈l):fG n m l (pW n S c)/\jx S (pW n S c)/\nd n (pW n S c) c:=by
 have hw:=k c aq;cases c with
 |base a b=>
  obtain⟨d,e⟩:=hw;have aA:(1<<<b:Nat)<2^64:=by rw[Nat.one_shiftLeft];exact Nat.pow_lt_pow_right (by omega) (by omega)
  obtain⟨o,j,p,_⟩:=h.i.fm (v:=a) (x:=1<<<b) (by omega) aA λs g=>by rw[ZR g];exact .base aq
  exact⟨h.of o j,j.b,p b (by rw[Nat.one_shiftLeft,Nat.testBit_two_pow_self])⟩
 |copy a b=>
  obtain⟨d,e⟩:=hw;exact h.oF (by omega) (by omega) λs g=> .copy aq g
 |load a b f=>
  obtain⟨d,e,_⟩:=hw;exact h.ask (by omega) (.inl ⟨rfl,aq⟩)
 |store a b f=>
  obtain⟨d,e,_⟩:=hw;exact h.ask (by omega) (.inr ⟨rfl,aq⟩)
 |same a b=>
  obtain⟨d,e⟩:=hw;obtain⟨s1,s2,hc⟩:=fG.same aq d e (fs:=List.range 8) h λf az=>by simpa using az
  exact⟨s1,s2,λf az=>hc f (by simpa using az)⟩
def fG.Fv(hm:m<=60)(e:gE n m l):∀{cs:List bB} {S:bt},fG n m l S->(∀c∈cs,c∈l)->fG n m l (pX n cs S)/\jx S (pX n cs S)/\∀c∈cs,nd n (pX n cs S) c
 |[],S,h,_=>⟨h,.refl S,λc aq=>by simp at aq⟩
 |c::cs,S,h,aq=>by
  obtain⟨f,g,a3⟩:=h.begin hm e (aq c (by simp));obtain⟨i,b,j⟩:=fG.Fv hm e (cs:=cs) f λd a=>aq d (by simp[a])
  refine⟨i,g.trans b,λd a=> ?_⟩;rcases List.mem_cons.1 a with rfl|a
  ·exact a3.oL b
  ·exact j d a
def U0(S:bt)(v:Nat):pE S (hW S v):=by
 unfold hW;split<;>exact⟨λ_ _ h=>h,λ_ _ h=>h,λ_=>rfl⟩
def dH.final(r:gE n m l)(h:kn n m l S)(g:∀c∈l,nd n S c)(hw:S.work=[]):∀v s,(S.a v).testBit s=C↔dG n l v s:=by
 have k:∀v,S.w v=false:=by
  intro v;cases o:S.w v with
  |false=>rfl
  |true=>rw[h.wt,hw]at o;simp at o
 have i:=λv=>(h.ez v (λx=>x) (k v)).1
 have p:=λv=>(h.ez v (λx=>x) (k v)).2
 have j:∀v t,(S.a v).testBit t=C->∀q∈S.q v,lP n t S q:=λv t a1 q aN=>h.mF v t (by rw[p];exact a1) (λx=>x) q aN
 intro v s;refine⟨h.sound v s,dG.least (R:=λv s=>(S.a v).testBit s=C) ⟨?_,?_,?_,?_,?_,?_⟩⟩
 ·intro a b aq;exact g _ aq
 ·intro a b s aq d;rcases g _ aq with e|e
  ·subst e;exact d
  ·exact i b a e s d
 ·intro a b f t s aq a1 d;have:=j b t a1 _ (g _ aq);unfold lP at this;simp only[if_true]at this;rcases this with e|e
  ·rw[e];exact d
  ·exact i _ _ e s d
 ·intro a b f t s aq a1 d;have:=j a t a1 _ (g _ aq);unfold lP at this;simp only[Bool.false_eq_true,if_false]at this;rcases this with e|e
  ·show(S.a (c1 n t f)).testBit s=C;rw[e];exact d
  ·exact i _ _ e s d
 ·intro a b f s aq az d;rcases(g _ aq f az).1 with e|e
  ·show(S.a (c1 n b f)).testBit s=C;rw[<-e];exact d
  ·exact i _ _ e s d
 ·intro a b f s aq az d;rcases(g _ aq f az).2 with e|e
  ·show(S.a (c1 n a f)).testBit s=C;rw[<-e];exact d
  ·exact i _ _ e s d
open Classical in
def dH.list(b:gE n m l)(hm:m<=60)(h:∀v s,(S.a v).testBit s=C↔dG n l v s)(v:Nat):bits (S.a v)=cY m (dG n l v):=by
 refine Bw (List.Pairwise.filter _ List.pairwise_lt_range) (sr _ _) λs=> ?_
 rw[fB];unfold bits;rw[List.mem_filter,List.mem_range];constructor
 ·rintro⟨_,af⟩;have:=(h v s).1 af;exact⟨this.site b,this⟩
 ·rintro⟨af,ah⟩;exact⟨by omega,(h v s).2 ah⟩
end
end Go.a2
namespace Go.Proofs.YtmhhnnklfcbgfaaGreat
open Go.bz
section
open Go.a2
set_option maxRecDepth 2000
def wrap_u64{x:Nat}(h:x<2^64):IntKind.u64.wrap (x:Int)=(x:Int):=by
 simp only[IntKind.wrap,IntKind.bits,IntKind.signed,Bool.false_and];have af:(x:Int)%2^64=(x:Int):=Int.emod_eq_of_lt aa (by exact_mod_cast h);rw[af];rfl
def si(x:Nat):BitVec.ofInt 64 (x:Int)=BitVec.ofNat 64 x:=by
 apply BitVec.eq_of_toNat_eq;simp
def Bh(t:Nat)(z:Bool){x y:Nat}(aA:x<2^64)(a:y<2^64):bm P .or t z (J .u64 x) (J .u64 y)=D (J .u64 ((x|||y:Nat):Int)):=by
 have e:(BitVec.ofInt 64 (x:Int)|||BitVec.ofInt 64 (y:Int)).toNat=x|||y:=by
  rw[si,si,BitVec.toNat_or,BitVec.toNat_ofNat,BitVec.toNat_ofNat,Nat.mod_eq_of_lt aA,Nat.mod_eq_of_lt a]
 show D (ae.int .u64 (IntKind.u64.wrap (((BitVec.ofInt 64 (x:Int)|||BitVec.ofInt 64 (y:Int)).toNat:Nat):Int)))=_;rw[e,wrap_u64 (Nat.or_lt_two_pow aA a)]
def EZ(t:Nat)(z:Bool){x:Nat}(aA:x<2^64):bm P .and t z (J .u64 x) (J .u64 1)=D (J .u64 ((x%2:Nat):Int)):=by
 have e:(BitVec.ofInt 64 (x:Int)&&&BitVec.ofInt 64 (1:Int)).toNat=x%2:=by
  rw[si,BitVec.toNat_and,BitVec.toNat_ofNat,Nat.mod_eq_of_lt aA];show x&&&1=_;rw[Nat.and_one_is_mod]
 show D (ae.int .u64 (IntKind.u64.wrap (((BitVec.ofInt 64 (x:Int)&&&BitVec.ofInt 64 (1:Int)).toNat:Nat):Int)))=_;rw[e,wrap_u64 aa]
def LC(t:Nat)(z:Bool)(x:Nat):bm P .shr t z (J .u64 x) (J .u64 1)=D (J .u64 ((x/2:Nat):Int)):=by
 show D (ae.int .u64 ((x:Int).fdiv (2^1)))=_;rw[Int.fdiv_eq_ediv_of_nonneg _ aa];simp
def ZS(t:Nat)(z:Bool){b:Nat}(a:b<64):bm P .shl t z (J .u64 1) (J X b)=D (J .u64 ((1<<<b:Nat):Int)):=by
 have af:¬((b:Int)<0):=aa;show(if(b:Int)<0 then I else D (ae.int .u64 (IntKind.u64.wrap (1*2^(min ((b:Int).toNat) 64)))))=_;rw[if_neg af,Int.toNat_natCast,Nat.min_eq_left aa];have ah:(1*2^b:Int)=((1<<<b:Nat):Int):=by rw[Nat.shiftLeft_eq];simp
 rw[ah,wrap_u64];rw[Nat.shiftLeft_eq,Nat.one_mul];exact Nat.pow_lt_pow_right aa a
def ob(x y:Nat):Nat:=(BitVec.ofNat 64 x&&& ~~~BitVec.ofNat 64 y).toNat
def yS(x y:Nat):ob x y<2^64:=(BitVec.ofNat 64 x&&& ~~~BitVec.ofNat 64 y).isLt
def NR(t:Nat)(z:Bool)(x y:Nat):bm P .andNot t z (J .u64 x) (J .u64 y)=D (J .u64 ((ob x y:Nat):Int)):=by
 show D (ae.int .u64 (IntKind.u64.wrap (((BitVec.ofInt 64 (x:Int)&&& ~~~BitVec.ofInt 64 (y:Int)).toNat:Nat):Int)))=_;rw[si,si];exact congrArg (λz=>D (ae.int .u64 z)) (wrap_u64 (yS x y))
def FB(x y i:Nat)(a:i<64):(ob x y).testBit i=(x.testBit i&& !y.testBit i):=by
 unfold ob;rw[BitVec.testBit_toNat,BitVec.getLsbD_and,BitVec.getLsbD_not,BitVec.getLsbD_ofNat,BitVec.getLsbD_ofNat];simp[a]
def OS(x y:Nat):Go.a2.bits (ob x y)=(List.range 64).filter λt=>x.testBit t&& !y.testBit t:=by
 unfold Go.a2.bits;refine List.filter_congr λi a=> ?_
 rw[FB x y i (by simpa using a)]
def V9{x y:Nat}(aA:x<2^64)(b:y<2^64):y|||ob x y=y|||x:=by
 apply Nat.eq_of_testBit_eq;intro i;rw[Nat.testBit_or,Nat.testBit_or];by_cases a:i<64
 ·rw[FB x y i a];cases y.testBit i<;>cases x.testBit i<;>rfl
 ·have af:∀{z:Nat},z<2^64->z.testBit i=false:=λh=>Nat.testBit_lt_two_pow (Nat.lt_of_lt_of_le h (Nat.pow_le_pow_right aa aa))
  rw[af aA,af (yS x y)]
section
variable {H:ad}{ok:Nat->Prop}
def IC{x:Nat}(aA:x<2^64){B:Nat}{N:Nat}:∀(j k m:Nat) (H:ad) (v:ae),k+j=64->j<m->bq aT B bk H (aX ((List.range k).filter (x.testBit ·))) v->B<=H.next->
  W (o9 (aQ P aK) N m (J .u64 ((x>>>k:Nat):Int)) v (J X k) H) λr H'=>bq aT B bk H' (aX (Go.a2.bits x)) r/\cT B H H'
 |_,_,0,_,_,_,hm,_,_=>aa
 |0,k,m+1,H,v,y,_,al,g=>by
  have e:k=64:=aa;subst e;have w:x>>>64=0:=by rw[Nat.shiftRight_eq_div_pow,Nat.div_eq_of_lt aA]
  have b:((((0:Nat):Int)) != 0)=false:=rfl;rw[w];simp-implicitDefEqProofs(disch:=try exact ai)only[o9,qK,s6,aj,aC,b];exact aG.2 ⟨al,.refl _ _⟩
 |j+1,k,m+1,H,v,y,hm,al,g=>by
  have o:x>>>k<2^64:=Nat.lt_of_le_of_lt (by rw[Nat.shiftRight_eq_div_pow];exact Nat.div_le_self _ _) aA;have aV:=cq (show k<=1000000000 by omega);have p:x>>>k/2=x>>>(k+1):=by rw[Nat.shiftRight_succ]
  have au:(List.range (k+1)).filter (x.testBit ·)=(List.range k).filter (x.testBit ·)++(if x.testBit k then[k]else[]):=by
   rw[List.range_succ,List.filter_append];cases h:x.testBit k<;>simp[h]
  have d:x.testBit k=decide (x>>>k%2=1):=by
   rw[Nat.testBit_eq_decide_div_mod_eq,Nat.shiftRight_eq_div_pow]
  have on:=IC aA (B:=B) (N:=N) j (k+1) m;by_cases l:x>>>k=0
  ·have b:((((x>>>k:Nat):Int)) != 0)=false:=by rw[l];rfl
   simp-implicitDefEqProofs(disch:=try exact ai)only[o9,qK,s6,aj,aC,b];have s:Go.a2.bits x=(List.range k).filter (x.testBit ·):=by
    unfold Go.a2.bits;have:List.range 64=List.range k++(List.range (64-k)).map (k+ ·):=by rw[<-List.range_add];congr 1;omega
    have nil:((List.range (64-k)).map (k+ ·)).filter (x.testBit ·)=[]:=by
     rw[List.filter_eq_nil_iff];intro i n;simp only[List.mem_map,List.mem_range]at n;obtain⟨q,aN,rfl⟩:=n;have:(x>>>k).testBit q=false:=by rw[l];simp
     rw[Nat.testBit_shiftRight]at this;simp[this]
    rw[this,List.filter_append,nil,List.append_nil]
   rw[s];exact aG.2 ⟨al,.refl _ _⟩
  ·have b:((((x>>>k:Nat):Int)) != 0)=true:=bne_iff_ne.2 λh=>l (by exact_mod_cast h)
   cases c:x.testBit k with
   |false=>
    have f:((((x>>>k%2:Nat):Int))==1)=false:=by
     rw[c]at d;have af:=of_decide_eq_false d.symm;exact beq_eq_false_iff_ne.2 λh=>af (by exact_mod_cast h)
    rw[au,c]at on;simp-implicitDefEqProofs(disch:=try exact ai)only[o9,qK,Ci,aj,aC,b,EZ _ _ o,f,LC,aV,p];exact on H v aa aa (by simpa using al) g
   |true=>
    have f:((((x>>>k%2:Nat):Int))==1)=true:=by
     rw[c]at d;have af:=of_decide_eq_true d.symm;rw[af];rfl
    rw[au,c]at on;have hlen:(aX ((List.range k).filter (x.testBit ·))).length<=999999999:=by
     have:=List.length_filter_le (x.testBit ·) (List.range k);simp[aX]at this ⊢;omega
    obtain⟨K,H',z,E,G,M,O⟩:=al.l6 (a:=(k:Int)) g hlen;have hle:(H.push (.row Z 1 [[J X (k:Int)]])).next<=H'.next:=by simp;omega
    simp-implicitDefEqProofs(disch:=try exact ai)only[o9,qK,aj,aC,b,EZ _ _ o,f,ej,z];simp-implicitDefEqProofs(disch:=try exact ai)only[Ci,aj,aC,LC,aV,p];refine(on H' K aa aa (by simpa [aX]using E) aa).mono ?_;rintro r L ⟨t,u⟩;exact⟨t,G.trans u⟩
def AQ{x:Nat}(aA:x<2^64):W (aQ P aK 183 [J .u64 x] H) λr H'=>bq aT H.next bk H' (aX (Go.a2.bits x)) r/\av H H':=by
 refine XX 65 ?_;have:=IC aA (B:=H.next) (N:=65) 64 0 65 H .aB aa aa (by simpa [aX]using bq.nil aT H.next bk H) (bC _);rw[Nat.shiftRight_zero]at this;simp-implicitDefEqProofs(disch:=try exact ai)only[Ch];refine this.mono ?_;rintro r H' ⟨a,b⟩;exact⟨a,cT.aE b⟩
def yU(n m:Int):W (aQ P aK 176 [J X n,J X m] H) λr H'=>r= A (decide (0<=n/\n<m))/\H'=H:=by
 refine XP 0 ?_;by_cases a:0<=n
 ·simp-implicitDefEqProofs(disch:=try exact ai)only[xh,aj,aJ,aC,a,decide_true];exact aG.2 ⟨rfl,rfl⟩
 ·simp-implicitDefEqProofs(disch:=try exact ai)only[xh,aj,aC,a,decide_false,false_and];exact aG.2 ⟨rfl,rfl⟩
end
end
section
open Go.a2
set_option maxRecDepth 2000
section
variable {H:ad}{ok:Nat->Prop}
def kM{n m:Nat}(h:n<m):W (aQ P aK 176 [J X n,J X m] H) λr H'=>r= A C/\H'=H:=by
 refine(yU _ _).mono ?_;rintro r H' ⟨rfl,rfl⟩;exact⟨by rw[decide_eq_true];omega,rfl⟩
def k6(c:bB)(l:Nat):fe l (.agg (dk c))=D (.ptr l 0 0,.row Z 4 [dk c]):=by
 have h:=oA l (dk c) (by cases c<;>rfl);rw[h];cases c<;>rfl
def iQ{c:bB}{L:Nat}{k a b f:Int}(h:H.get L=D (.row Z 4 [dk c]))(aq:dk c=[J X k,J X a,J X b,J X f]):aI P H 3 (.ptr L 0 0)=D (J X k)/\aI P H 3 (.ptr L 0 1)=D (J X a)/\aI P H 3 (.ptr L 0 2)=D (J X b)/\aI P H 3 (.ptr L 0 3)=D (J X f):=by
 rw[aq]at h;simp-implicitDefEqProofs(disch:=try exact ai)only[R,h]
def Iu{c:bB}{L:Nat}(h:H.get L=D (.row Z 4 [dk c])):aI P H 56 (.ptr L 0 0)=D (.agg (dk c)):=by
 rw[gY (n:=4) (i:=0) (c:=0) aF aF h rfl (by exact bC 4)];cases c<;>rfl
def aaj{n m:Nat}{c:bB}(hw:c.wf n m):W (aQ P aK 179 [.agg (dk c),J X n,J X m,J X 8] H) λr H'=>r= A C/\av H H':=by
 refine XS 0 ?_;have e:=av.push H (.row Z 4 [dk c]);have d:=ad.a_ H (.row Z 4 [dk c]);cases c with
 |base a b=>
  have l:=iQ d rfl;simp-implicitDefEqProofs(disch:=try exact ai)only[o7,aj,aJ,aC,aL,k6,l,Int.reduceBEq];refine eu (kM hw.1) ?_;simp-implicitDefEqProofs(disch:=try exact ai)only[aj,aJ,aL,l];refine ko (kM hw.2) ?_;simp-implicitDefEqProofs(disch:=try exact ai)only[aj];exact aG.2 ⟨rfl,e⟩
 |copy a b=>
  have l:=iQ d rfl;simp-implicitDefEqProofs(disch:=try exact ai)only[o7,aj,aJ,aC,aL,k6,l,Int.reduceBEq];refine eu (kM hw.1) ?_;simp-implicitDefEqProofs(disch:=try exact ai)only[aj,aJ,aL,l];refine ko (kM hw.2) ?_;simp-implicitDefEqProofs(disch:=try exact ai)only[aj];exact aG.2 ⟨rfl,e⟩
 |load a b f=>
  have l:=iQ d rfl;simp-implicitDefEqProofs(disch:=try exact ai)only[o7,xi,qJ,aj,aJ,aC,aL,k6,l,Int.reduceBEq];refine eu (kM hw.1) ?_;simp-implicitDefEqProofs(disch:=try exact ai)only[aj,aJ,aL,l];refine ko (kM hw.2.1) ?_;simp-implicitDefEqProofs(disch:=try exact ai)only[aj,aJ,aL,l];refine ko (kM (m:=8) hw.2.2) ?_;simp-implicitDefEqProofs(disch:=try exact ai)only[aj];exact aG.2 ⟨rfl,e⟩
 |store a b f=>
  have l:=iQ d rfl;simp-implicitDefEqProofs(disch:=try exact ai)only[o7,xi,qJ,aj,aJ,aC,aL,k6,l,Int.reduceBEq];refine eu (kM hw.1) ?_;simp-implicitDefEqProofs(disch:=try exact ai)only[aj,aJ,aL,l];refine ko (kM hw.2.1) ?_;simp-implicitDefEqProofs(disch:=try exact ai)only[aj,aJ,aL,l];refine ko (kM (m:=8) hw.2.2) ?_;simp-implicitDefEqProofs(disch:=try exact ai)only[aj];exact aG.2 ⟨rfl,e⟩
 |same a b=>
  have l:=iQ d rfl;simp-implicitDefEqProofs(disch:=try exact ai)only[o7,xi,qJ,aj,aJ,aC,aL,k6,l,Int.reduceBEq];refine eu (kM hw.1) ?_;simp-implicitDefEqProofs(disch:=try exact ai)only[aj,aJ,aL,l];refine ko (kM hw.2) ?_;simp-implicitDefEqProofs(disch:=try exact ai)only[aj];exact aG.2 ⟨rfl,e⟩
structure mw(H:ad)(A B zC n m w:Nat):Prop where
 a:H.get A=some (.row false 1 [[.int .i64 (n:Nat)]])
 b:H.get B=some (.row false 1 [[.int .i64 (m:Nat)]])
 c:H.get zC=some (.row false 1 [[.int .i64 (w:Nat)]])
def mw.aE{H H':ad}{A B zC n m w:Nat}(h:mw H A B zC n m w)(p:av H H'):mw H' A B zC n m w:=⟨p.get h.a,p.get h.b,p.get h.c⟩
def hr{L:Nat}{n:Int}(h:H.get L=D (.row Z 1 [[J X n]])):aI P H 3 (.ptr L 0 0)=D (J X n):=by simp-implicitDefEqProofs(disch:=try exact ai)only[R,h]
def Wu{A B zC n m:Nat}(k:mw H A B zC n m 8){c:bB}(hw:c.wf n m):W (aQ P aK 178 [.agg (dk c),.ptr A 0 0,.ptr B 0 0,.ptr zC 0 0] H) λr H'=>r= .bool Z/\av H H':=by
 refine XR 0 ?_;have d:=av.push H (.row Z 4 [dk c]);have e:=ad.a_ H (.row Z 4 [dk c]);have bR:=k.aE d;simp-implicitDefEqProofs(disch:=try exact ai)only[Cd,aj,k6,Iu e,hr bR.a,hr bR.b,hr bR.c];refine aZ (aaj hw) ?_;rintro _ K ⟨rfl,p⟩;refine⟨p.1,?_⟩;simp-implicitDefEqProofs(disch:=try exact ai)only[aj,Bool.not_true];exact aG.2 ⟨rfl,d.trans p⟩
def aO.F5{l:List bB}{v:ae}(h:aO e0 H ok l v){j:Int}{c:bB}(a:0<=j)(b:l[j.toNat]? =D c):∃p,cm P 53 v (J X j)=D p/\∀H',av H H'->aI P H' 56 p=D (.agg (dk c)):=by
 obtain⟨p,cs,d,e,rfl⟩:=h.uP (K:=e0) ly Md a b;exact⟨p,d,e⟩
def HU{l:List bB}{v:ae}{A B zC n m:Nat}(hw:gE n m l)(g:l.length<=1000000000){N:Nat}:∀(j k q:Nat) (H:ad),k+j=l.length->j<q->aO e0 H ok l v->mw H A B zC n m 8->
  W (tn (aQ P aK) N q v (.func (.func 178) [] [.ptr A 0 0,.ptr B 0 0,.ptr zC 0 0]) (J X l.length) (J X k) H) λr H'=>r= J X (-1)/\av H H'
 |_,_,0,_,_,hm,_,_=>aa
 |0,k,q+1,H,h,_,al,aq=>by
  have b:¬(k:Int)<(l.length:Int):=aa;simp-implicitDefEqProofs(disch:=try exact ai)only[tn,xG,CA,aj,aC,b,decide_false];exact aG.2 ⟨rfl,av.refl _⟩
 |j+1,k,q+1,H,h,hm,al,aq=>by
  have b:(k:Int)<(l.length:Int):=aa;have d:k<l.length:=aa;obtain⟨p,o,s⟩:=al.F5 (j:=(k:Int)) (c:=l[k]) aa (by simp[d]);have i:=hw _ (List.getElem_mem d);have on:=HU (A:=A) (B:=B) (zC:=zC) (v:=v) hw g (N:=N) j (k+1) q;simp-implicitDefEqProofs(disch:=try exact ai)only[tn,xG,aj,aJ,aC,b,decide_true,o,s _ (av.refl _),oe,nu];refine aZ (Wu aq i) ?_;rintro _ K ⟨rfl,a⟩;refine⟨a.1,?_⟩;simp-implicitDefEqProofs(disch:=try exact ai)only[aj,aC,cq (show k<=1000000000 by omega)];refine(on K aa aa (al.aE a) (aq.aE a)).mono ?_;rintro r t ⟨e,f⟩;exact⟨e,a.trans f⟩
def PR{l:List bB}{v:ae}{A B zC n m:Nat}(hw:gE n m l)(a:l.length<=1000000000)(al:aO e0 H ok l v)(aq:mw H A B zC n m 8):
  W (aQ P aK 177 [v,.func (.func 178) [] [.ptr A 0 0,.ptr B 0 0,.ptr zC 0 0]] H) λr H'=>r= .bool Z/\av H H':=by
 refine XQ 0 ?_;have key:W (aQ P aK 219 [v,.func (.func 178) [] [.ptr A 0 0,.ptr B 0 0,.ptr zC 0 0]] H) λr H'=>r= J X (-1)/\av H H':=by
  refine X_ (l.length+1) ?_;simp-implicitDefEqProofs(disch:=try exact ai)only[Cz,br,al.len ly];exact HU hw a l.length 0 (l.length+1) H aa aa al aq
 simp-implicitDefEqProofs(disch:=try exact ai)only[Cc,aj];refine aZ key ?_;rintro _ K ⟨rfl,p⟩;refine⟨p.1,?_⟩;simp-implicitDefEqProofs(disch:=try exact ai)only[aj,aC];exact aG.2 ⟨rfl,p⟩
end
end
section
open Go.a2
set_option maxRecDepth 2000
def jV(l:List Int):List (List ae):=l.map λn=>[J X n]
def uX{l:List Int}{i:Nat}{n:Int}(h:l[i]? =D n):(jV l)[i]? =D [J X n]:=by simp[jV,h]
def ns(l:List Int):(jV l).length=l.length:=by simp[jV]
def Od(l:List Int)(i:Nat)(n:Int):(jV l).set i [J X n]=jV (l.set i n):=by simp[jV,List.map_set]
def IU(H:ad)(l i c:Nat)(ak:List ae):ia P H (.iface 288 (.ptr l i c)) "Len" ak=(aI P H 246 (.ptr l i c)).bind λu=>D (223,u::ak):=by
 simp only[ia];have h:k3 P H (.iface 288 (.ptr l i c)) "Len" =(aI P H 246 (.ptr l i c)).bind λu=>D (223,u):=aF
 rw[h];cases aI P H 246 (.ptr l i c)<;>rfl
def AY(H:ad)(l i c:Nat)(ak:List ae):ia P H (.iface 288 (.ptr l i c)) "Less" ak=(aI P H 246 (.ptr l i c)).bind λu=>D (281,u::ak):=by
 simp only[ia];have h:k3 P H (.iface 288 (.ptr l i c)) "Less" =(aI P H 246 (.ptr l i c)).bind λu=>D (281,u):=aF
 rw[h];cases aI P H 246 (.ptr l i c)<;>rfl
def AZ(H:ad)(l i c:Nat)(ak:List ae):ia P H (.iface 288 (.ptr l i c)) "Swap" ak=(aI P H 246 (.ptr l i c)).bind λu=>D (282,u::ak):=by
 simp only[ia];have h:k3 P H (.iface 288 (.ptr l i c)) "Swap" =(aI P H 246 (.ptr l i c)).bind λu=>D (282,u):=aF
 rw[h];cases aI P H 246 (.ptr l i c)<;>rfl
def Vd(H:ad)(l i c:Nat)(ak:List ae):ia P H (.iface 288 (.ptr l i c)) "Push" ak=D (284,.ptr l i c::ak):=by
 simp only[ia];have h:k3 P H (.iface 288 (.ptr l i c)) "Push" =D (284,.ptr l i c):=aF;rw[h];rfl
def Vc(H:ad)(l i c:Nat)(ak:List ae):ia P H (.iface 288 (.ptr l i c)) "Pop" ak=D (283,.ptr l i c::ak):=by
 simp only[ia];have h:k3 P H (.iface 288 (.ptr l i c)) "Pop" =D (283,.ptr l i c):=aF;rw[h];rfl
def lx:eW 246 3 1:=⟨aF,aF,⟨8,aF,bU⟩,⟨J X 0,aF,rfl,rfl⟩,bU⟩
section
variable {H:ad}
structure hd(H:ad)(M L:Nat)(cap:Option Nat)(aV:List Int)(rest:List (List ae)):Prop where
 row:H.get L=some (.row false 1 (jV aV++rest))
 eM:aI P H 246 (.ptr M 0 7)=some (.aD L 0 aV.length 1 cap)
 ne:M≠L
 keep:∀b,aI P (H.set L b) 246 (.ptr M 0 7)=some (.aD L 0 aV.length 1 cap)
def hd.lt{M L:Nat}{cap:Option Nat}{aV:List Int}{rest:List (List ae)}(h:hd H M L cap aV rest):L<H.next:=ad.bE h.row
def hd.set{M L:Nat}{cap:Option Nat}{aV wk':List Int}{rest:List (List ae)}(h:hd H M L cap aV rest)(al:wk'.length=aV.length):hd (H.set L (.row Z 1 (jV wk'++rest))) M L cap wk' rest:=
 ⟨ad.c8 h.lt,by rw[al];exact h.keep _,h.ne,λb=>by rw[ad.set_set,al];exact h.keep _⟩
def hd.at_{M L:Nat}{cap:Option Nat}{aV:List Int}{rest:List (List ae)}(h:hd H M L cap aV rest){j:Nat}(a:j<aV.length):cm P 246 (.aD L 0 aV.length 1 cap) (J X j)=D (.ptr L j 0)/\aI P H 3 (.ptr L j 0)=D (J X aV[j]):=by
 refine⟨?_,?_⟩
 ·have:=nF (c:=cap) (l:=L) (i:=0) (n:=aV.length) lx (j:=(j:Int)) aa aa;simpa using this
 ·rw[e_ (i:=j) (c:=0) uB h.row (by rw[List.getElem?_append_left (by rw[ns];exact a)];exact uX (n:=aV[j]) (by simp[a]))];rfl
def AO{M L:Nat}{cap:Option Nat}{aV:List Int}{rest:List (List ae)}(h:hd H M L cap aV rest){i j:Nat}(a:i<aV.length)(b:j<aV.length):W (aQ P aK 281 [.aD L 0 aV.length 1 cap,J X i,J X j] H) λr H'=>r= A (decide (aV[i]<aV[j]))/\H'=H:=by
 refine YF 0 ?_;simp-implicitDefEqProofs(disch:=try exact ai)only[C2,aj,aC,h.at_ a,h.at_ b];exact aG.2 ⟨rfl,rfl⟩
def q8(l:List Int)(i j:Nat)(a:i<l.length)(b:j<l.length):List Int:=(l.set i l[j]).set j l[i]
def pw(l:List Int)(i j:Nat)(a:i<l.length)(b:j<l.length):(q8 l i j a b).length=l.length:=by simp[q8]
def abk(l:List Int)(i j:Nat)(a:i<l.length)(b:j<l.length):(q8 l i j a b).Perm l:=List.set_set_perm a b
def J1{M L:Nat}{cap:Option Nat}{aV:List Int}{rest:List (List ae)}(h:hd H M L cap aV rest){i:Nat}(a:i<aV.length)(n:Int):cD P H 3 (.ptr L i 0) (J X n)=D (H.set L (.row Z 1 (jV (aV.set i n)++rest))):=by
 rw[gf Mq h.row (by rw[List.getElem?_append_left (by rw[ns];exact a)];exact uX (n:=aV[i]) (by simp[a])) rfl rfl aa,<-Od,List.set_append_left _ _ (by rw[ns];exact a)];rfl
def D8{M L:Nat}{cap:Option Nat}{aV:List Int}{rest:List (List ae)}(h:hd H M L cap aV rest){i j:Nat}(a:i<aV.length)(b:j<aV.length):W (aQ P aK 282 [.aD L 0 aV.length 1 cap,J X i,J X j] H) λr H'=>r= .tuple []/\H'=H.set L (.row Z 1 (jV (q8 aV i j a b)++rest)):=by
 refine YG 0 ?_;have af:=h.set (wk':=aV.set i aV[j]) (by simp);have c:=J1 af (i:=j) (by simpa using b) aV[i];rw[ad.set_set]at c;simp-implicitDefEqProofs(disch:=try exact ai)only[C3,aj,h.at_ a,h.at_ b,J1 h a,c];exact aG.2 ⟨rfl,rfl⟩
end
end
section
open Go.a2
set_option maxRecDepth 2000
section
variable {H:ad}
structure ix(H H':ad)(M L:Nat)(cap:Option Nat)(rest:List (List ae))(aV wk':List Int):Prop where
 q:hd H' M L cap wk' rest
 perm:wk'.Perm aV
 next:H'.next=H.next
 get:∀k,k≠L->H'.get k=H.get k
def ix.refl{M L:Nat}{cap:Option Nat}{rest:List (List ae)}{aV:List Int}(h:hd H M L cap aV rest):ix H H M L cap rest aV aV:=⟨h,.refl _,rfl,λ_ _=>rfl⟩
def ix.trans{H1 a:ad}{M L:Nat}{cap:Option Nat}{rest:List (List ae)}{aV c d:List Int}(h:ix H H1 M L cap rest aV c)(k:ix H1 a M L cap rest c d):ix H a M L cap rest aV d:=
 ⟨k.q,k.perm.trans h.perm,k.next.trans h.next,λj b=>(k.get j b).trans (h.get j b)⟩
def ix.swap{M L:Nat}{cap:Option Nat}{rest:List (List ae)}{aV:List Int}(h:hd H M L cap aV rest){i j:Nat}(a:i<aV.length)(b:j<aV.length):ix H (H.set L (.row Z 1 (jV (q8 aV i j a b)++rest))) M L cap rest aV (q8 aV i j a b):=
 ⟨h.set (pw _ _ _ _ _),abk _ _ _ _ _,rfl,λk c=>ad.cb (Ne.symm c)⟩
def MD{M L:Nat}{cap:Option Nat}{rest:List (List ae)}{N:Nat}:∀(m j:Nat) (H:ad) (aV:List Int),j<m->j<aV.length->aV.length<=1000000000->hd H M L cap aV rest->W (tF (aQ P aK) N m (.iface 288 (.ptr M 0 7)) (J X j) H) λr H'=>r= .tuple []/\∃wk',ix H H' M L cap rest aV wk'
 |0,_,_,_,hm,_,_,_=>aa
 |m+1,0,H,aV,_,b,e,h=>by
  have f:bm P .sub 3 C (J X ((0:Nat):Int)) (J X 1)=D (J X (-1)):=aF;have c:bm P .quo 3 C (J X (-1)) (J X 2)=D (J X 0):=aF;have d:bm P .eql 3 Z (J X 0) (J X ((0:Nat):Int))=D (A C):=aF;simp only[tF,xR,f,c,d,na];simp-implicitDefEqProofs(disch:=try exact ai)only[aj];exact aG.2 ⟨rfl,aV,.refl h⟩
 |m+1,k+1,H,aV,hm,b,e,h=>by
  have i:IntKind.i64.wrap (((k+1:Nat):Int)-1)=(k:Int):=by rw[wrap_i64 aa aa];omega
  have c:bm P .quo 3 C (J X (k:Int)) (J X 2)=D (J X ((k/2:Nat):Int)):=by
   show(if(2:Int)=0 then I else D (ae.int X (IntKind.i64.wrap ((k:Int).tdiv 2))))=_;rw[if_neg bU,Int.tdiv_eq_ediv_of_nonneg aa,show((k:Int)/2)=((k/2:Nat):Int) by omega,wrap_i64 aa aa]
  have d:(((k/2:Nat):Int)==((k+1:Nat):Int))=false:=beq_eq_false_iff_ne.2 aa;have a:k/2<aV.length:=aa;simp-implicitDefEqProofs(disch:=try exact ai)only[tF,xR,aj,aC,i,c,d,AY,h.eM];refine ko (AO h b a) ?_;cases n:decide (aV[k+1]<aV[k/2])with
  |false=>
   simp-implicitDefEqProofs(disch:=try exact ai)only[aj,Bool.not_false];exact aG.2 ⟨rfl,aV,.refl h⟩
  |true=>
   simp-implicitDefEqProofs(disch:=try exact ai)only[aj,Bool.not_true,jb,AZ,h.eM];refine aZ (D8 h a b) ?_;rintro _ H1 ⟨rfl,rfl⟩;refine⟨by simp,?_⟩;have q:=ix.swap h a b;refine(MD m (k/2) _ _ aa (by rw[pw];exact a) (by rw[pw];exact e) q.q).mono ?_;rintro r l ⟨rfl,wk',g⟩;exact⟨rfl,wk',q.trans g⟩
def acr{M L:Nat}{cap:Option Nat}{rest:List (List ae)}{aV:List Int}(h:hd H M L cap aV rest){j:Nat}(b:j<aV.length)(a:aV.length<=1000000000):W (aQ P aK 250 [.iface 288 (.ptr M 0 7),J X j] H) λr H'=>r= .tuple []/\∃wk',ix H H' M L cap rest aV wk':=by
 refine Yu (j+1) ?_;simp-implicitDefEqProofs(disch:=try exact ai)only[CV];exact MD (j+1) j H aV aa b a h
def Gm(i0 i:Nat){N:Nat}:W (pd (aQ P aK) N (J X i0) (J X i) H) λr H'=>(∃b,r= A b)/\H'=H:=by
 simp-implicitDefEqProofs(disch:=try exact ai)only[pd,aj,aC];exact aG.2 ⟨⟨_,rfl⟩,rfl⟩
def Gn{M L:Nat}{cap:Option Nat}{rest:List (List ae)}{i0 n:Nat}{N:Nat}:∀(m i:Nat) (H:ad) (aV:List Int),n<i+m->n<=aV.length->aV.length<=500000000->hd H M L cap aV rest->i<=n->0<m->W (pe (aQ P aK) N m (.iface 288 (.ptr M 0 7)) (J X i0) (J X n) (J X i) H) λr H'=>(∃b,r= A b)/\∃wk',ix H H' M L cap rest aV wk'
 |0,_,_,_,_,_,_,_,_,w=>aa
 |m+1,i,H,aV,hm,aH,o,h,y,_=>by
  have d:bm P .mul 3 C (J X 2) (J X i)=D (J X ((2*i:Nat):Int)):=by
   show D (ae.int X (IntKind.i64.wrap (2*(i:Int))))=_;rw[wrap_i64 aa aa];simp
  have g:=cq (show 2*i<=1000000000 by omega);by_cases a8:n<=2*i+1
  ·have a:((n:Int)<=((2*i+1:Nat):Int)):=aa;simp-implicitDefEqProofs(disch:=try exact ai)only[pe,tG,aj,aC,d,g,a,decide_true];refine(Gm i0 i).mono ?_;rintro r H' ⟨au,rfl⟩;exact⟨au,aV,.refl h⟩
  have a:¬((n:Int)<=((2*i+1:Nat):Int)):=aa;have k:¬(((2*i+1:Nat):Int)<0):=aa;have l:=cq (show 2*i+1<=1000000000 by omega);have go:∀j,i<j->j<n->W (tH (aQ P aK) N (pe (aQ P aK) N m) (.iface 288 (.ptr M 0 7)) (J X i0) (J X n) (J X i) (J X j) H) λr H'=>(∃b,r= A b)/\∃wk',ix H H' M L cap rest aV wk':=by
   intro j x z;have e:i<aV.length:=aa;have f:j<aV.length:=aa;simp-implicitDefEqProofs(disch:=try exact ai)only[tH,aj,jb,AY,h.eM];refine eu (AO h f e) ?_;cases t:decide (aV[j]<aV[i])with
   |false=>
    simp-implicitDefEqProofs(disch:=try exact ai)only[aj,Bool.not_false];refine(Gm i0 i).mono ?_;rintro r H' ⟨au,rfl⟩;exact⟨au,aV,.refl h⟩
   |true=>
    simp-implicitDefEqProofs(disch:=try exact ai)only[aj,Bool.not_true,jb,AZ,h.eM];refine aZ (D8 h e f) ?_;rintro _ H1 ⟨rfl,rfl⟩;refine⟨by simp,?_⟩;have q:=ix.swap h e f;refine(Gn m j _ _ aa (by rw[pw];exact aH) (by rw[pw];exact o) q.q aa aa).mono ?_;rintro r v ⟨au,wk',u⟩;exact⟨au,wk',q.trans u⟩
  by_cases bJ:2*i+1+1<n
  ·have c:(((2*i+1+1:Nat):Int)<(n:Int)):=aa;have p:2*i+1<aV.length:=aa;have s:2*i+1+1<aV.length:=aa;simp-implicitDefEqProofs(disch:=try exact ai)only[pe,tG,aj,aC,d,g,l,a,k,c,decide_true,decide_false,AY,h.eM];refine ko (AO h s p) ?_;cases t:decide (aV[2*i+1+1]<aV[2*i+1])with
   |false=>
    simp-implicitDefEqProofs(disch:=try exact ai)only[aj];exact go _ aa aa
   |true=>
    simp-implicitDefEqProofs(disch:=try exact ai)only[aj];exact go _ aa aa
  ·have c:¬(((2*i+1+1:Nat):Int)<(n:Int)):=aa;simp-implicitDefEqProofs(disch:=try exact ai)only[pe,tG,aj,aC,d,g,l,a,k,c,decide_false];exact go _ aa aa
