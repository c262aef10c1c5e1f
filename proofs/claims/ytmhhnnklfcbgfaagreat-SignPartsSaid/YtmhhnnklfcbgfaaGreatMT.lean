/-
  Texts of one proof, laid together: Zj ShL Vd Zk Zl Zm Hk2 Hk3 ShP Ku.
-/
import Derived.Test.YtmhhnnklfcbgfaaGreatMS
set_option linter.unusedVariables false
set_option linter.unusedSimpArgs false
set_option linter.defProp false
open Option renaming some→D,none→I
open Bool renaming true→C,false→Z
open Go.bz.ae renaming int→J,str→F,bool→A
open Go.IntKind renaming i64→X
namespace Go.Proofs.YtmhhnnklfcbgfaaGreat
open Go.bz
section
open Go.a2
set_option maxRecDepth 2000
noncomputable def iU(x:bj)(k:a2.cB)(f:Nat):List Nat:=match x.ay[f]? with
 |some c=>mc x k f c
 |none=>[]
section
variable {x:bj}{k:a2.cB}{zX W0 B:Nat}{a b cc d ov nv fv gv uv:ae}{n:Nat}
def aah(l:Nat){v w:ae}(a:v.one=C)(hw:w.one=C):gd P l 31 2 [(0,v),(1,w)]=D (.aD l 0 2 1 (D 2),.row Z 1 [[v],[w]]):=by
 have u:P.underlying 31=D (.slice 30):=aF;have d:cp P 30=D 1:=aF;have z3:e2 P 30=D .aB:=aF;have c:=dx a;have cw:=dx hw;have b:ae.aB.cells=[ae.aB]:=rfl;have on:ae.aB.one=true:=rfl;simp[gd,u,d,z3,ks,c,cw,b,a,hw,on,List.replicate]
def rT(fs:List (List Int))(r:List Int):(aX (dS fs r)).length<=fs.length:=by rw[hx];exact j_ _ _
def JI(au:right x=C)(e:gg (ck x) x.sites.length k){cw:ae}{N:Nat}(a6:900000<N):∀(j i q:Nat) (H:ad) (v:ae),i+j=x.ay.length->j<q->hA x k zX W0 B a b cc d n ov nv fv gv uv H->aO fC H (· <B) x.ay cw->bq (b1 aT) B (B<= ·) H ((List.range i).map λf=>aX (iU x k f)) v->
  W (tk (aQ P aK) N q (.ptr W0 0 0) v cw (J X x.ay.length) (J X (i:Nat)) H) λr H'=>bq (b1 aT) B (B<= ·) H' ((List.range x.ay.length).map λf=>aX (iU x k f)) r/\cT B H H'
 |_,_,0,_,_,_,aN,_,_,_=>aa
 |0,i,q+1,H,v,a8,_,s,_,al=>by
  have Y:¬(i:Int)<(x.ay.length:Int):=aa;simp-implicitDefEqProofs(disch:=try exact ai)only[tk,xD,qP,aj,aC,Y,decide_false];obtain rfl:i=x.ay.length:=aa;exact aG.2 ⟨al,.refl _ _⟩
 |j+1,i,q+1,H,v,a8,aN,s,ao,al=>by
  have E:=gA au;have bd:=E.sites;have bH:=E.ay;have bN:=e.ez;have bM:=e.l3;have Y:(i:Int)<(x.ay.length:Int):=aa;have G:i<x.ay.length:=aa;have az:x.ay[i]? =D x.ay[i]:=by simp[G]
  have bK:=qw au;have bL:=r0 (List.getElem_mem G);have bI:=(jZ (E.code az)).vars;have on:=JI au e (cw:=cw) a6 j (i+1) q;have bc:iU x k i=mc x k i x.ay[i]:=by unfold iU;rw[az]
  have bb:cS x k i=jo x k i x.ay[i]:=by unfold cS;rw[az]
  have a2:=Wj (x:=x) (k:=k) (f:=i) (co:=x.ay[i]);have bv:=cq (show i<=1000000000 by omega);obtain⟨L,nn,V,gw,bn,bo,bR,b0⟩:∃L n v w,cm P 24 cw (J X i)=D (.ptr L n 0)/\(∀H',av H H'->aI P H' 49 (.ptr L n 0)=D (.agg (cW x.ay[i] v w)))/\aO eV H (· <B) x.ay[i].vars v/\aO fD H (· <B) x.ay[i].ins w:=by
   obtain⟨L,n,ro,els,cs,af,_,ah,an,v,w,rfl,bR,b0⟩:=ao.at_ (K:=fC) cI (j:=(i:Int)) (a:=x.ay[i]) aa (by simp[G]);exact⟨L,n,v,w,af,λH' p=>gY (n:=7) (c:=0) aF aF (p.get ah) an (by exact bC 7),bR,b0⟩
  generalize x.ay[i]=co at*;have st:=pv (c:=co) (v:=V) (w:=gw) (ad.a_ H (.row Z 7 [[J X 0,.aB,A Z,J X 0,J X 0,J X 0,.aB]])) bR.one b0.one;have pp:=av.push H (.row Z 7 [cW co V gw]);have cg:=ad.a_ H (.row Z 7 [cW co V gw]);have T:=s.aE pp;simp-implicitDefEqProofs(disch:=try exact ai)only[tk,xD,Nat.reduceAdd,aj,aJ,aC,Y,decide_true,bn,bo _ (av.refl _),st,ad.ga];refine aZ (MM au e T.du T.aA T.aH T.aq az) ?_;rintro v1 H1 ⟨bg,O,_⟩;refine⟨O.1,?_⟩;refine aZ (F3 bg (by simp[h2];omega)) ?_;rintro v2 aU ⟨bh,Q,_⟩;refine⟨Q.1,?_⟩;have M:=(pp.trans O).trans Q;have s2:=s.aE M
  have a4:=Q.get (O.get cg);have bO:=(pp.trans O).1;have a9:=Q.1;have mO:=s.mO;simp-implicitDefEqProofs(disch:=try exact ai)only[br,aj,aJ,aL,hH a4,b0.len eA];refine JJ E e az (B:=B) (R:=H1.next) aa s2 (b0.aE M) aa co.ins.length 0 N aU _ v2 aa aa (.refl _ _) a9 bh (by simp[h2];omega) ?_;intro aV v3 aM bP ap;rw[List.drop_zero]at ap;have ag:av H aV:=⟨by have:=M.1;have:=aM.1;omega,λz be=>by rw[aM.2 z aa,M.2 z be]⟩;have hc:=s.aE ag;have bj:hC (.ptr W0 0 0)=D (.ptr W0 0 0):=rfl;have bf:∀l:List In,(l.flatMap λi=>aX (gZ x k i)).length<=60*l.length:=λl=>by
   induction l with
   |nil=>simp
   |cons z l bT=>
    have:=I9 e z;rw[List.flatMap_cons,List.length_append,hx,List.length_cons];omega
  have bJ:=bf co.ins;have bS:(h2 x k i co).length=co.vars.length:=by simp[h2]
  simp-implicitDefEqProofs(disch:=try exact ai)only[xF,aj];refine aZ (y0 e bd hc.du hc.az ap.aD (by rw[List.length_append];omega)) ?_;rintro v4 u ⟨bi,ar⟩;refine⟨ar.1,?_⟩;have m:=ag.trans ar;have aS:=s.aE m;obtain⟨L5,i5,bU,bG,bE,bw,_,bx,bz,h,rfl,ak⟩:=s.hu.at_ (K:=b1 aT) e4 (j:=(i:Int)) (a:=aX (cS x k i)) aa (by simp[G]);have lw:∀{H':ad},av H H'->aI P H' 30 (.ptr L5 i5 0)=D h:=λp=>by rw[e_ yV (p.get bx) bz];rfl
  have S:=av.push u (.row Z 1 [[gv],[h]]);have a7:=s.aP.one;have ba:=ak.one;have bl:aO (b1 aT) (u.push (.row Z 1 [[gv],[h]])) bk [aX (gu x k),aX (cS x k i)] (.aD u.next 0 2 1 (D 2)):= .inr (.inl ⟨u.next,0,D 2,Z,_,rfl,trivial,ad.a_ _ _,by simp,λj y t=>by
   match j,t with
   |0,t=>cases t;exact⟨[gv],rfl,gv,rfl,((s.aP.aE m).aE S).any⟩
   |1,t=>cases t;exact⟨[h],rfl,h,rfl,((ak.aE m).aE S).any⟩⟩)
  have bQ:=sm e i;simp-implicitDefEqProofs(disch:=try exact ai)only[aj,aJ,aL,bj,hs aS.du,bw,lw m,aah _ a7 ba];refine aZ (IX (by have:=rT k.fields (h2 x k i co++co.ins.flatMap λi=>aX (gZ x k i));omega) (by simp) (λo aR=>by
   simp only[List.mem_cons,List.not_mem_nil,or_false]at aR;rcases aR with rfl|rfl
   ·have:=rT k.fields ((List.range x.globals.length).map λg=>k.node (fl x g));exact Nat.le_trans this aa
   ·rw[hx];omega) (bi.aD.aE S) bl) ?_
  rintro v6 aW ⟨ab,ax⟩;refine⟨ax.1,?_⟩;have a1:lz (aX (dS k.fields (h2 x k i co++co.ins.flatMap λi=>aX (gZ x k i)))) [aX (gu x k),aX (cS x k i)]=aX (iU x k i):=by
   rw[bc,bb];exact a2
  rw[a1]at ab;have aw:=m.trans S;have bm:=aw.trans ax;have a5:=aw.1;obtain⟨bu,H',aY,am,U,a0⟩:=al.N5 e4 mO bm ((ab.q7 fP).keep (.le λq aN=>Nat.le_trans a5 aN)) (by simp;omega);have hle:(aW.push (.row Z 1 [[v6]])).next<=H'.next:=by rw[ad.dm];exact a0
  have bp:bF (D gv) gv=true:=eI s.aP;have bs:bF (D uv) uv=true:=eI s.hu;have bt:bF (D h) h=true:=eI ak;simp-implicitDefEqProofs(disch:=try exact ai)only[aj,aJ,aC,DU _ ab.aD.one,aY,hs hc.du,hs aS.du,lw ag,lw m,bp,bs,bt,tj,bv];have a3:((List.range i).map λf=>aX (iU x k f))++[aX (iU x k i)]=(List.range (i+1)).map λf=>aX (iU x k f):=by rw[List.range_succ,List.map_append];rfl
  rw[a3]at am;refine(on H' bu aa aa (s.gy U) (ao.keep λq c (aN:q<B) g=>⟨aN,by rw[U.2 q aN];exact g⟩) am).mono ?_;rintro r bD ⟨bA,bB⟩;exact⟨bA,U.trans bB⟩
def Wk{H:ad}{ok:Nat->Prop}(au:right x=C){V:ae}(aA:cM H ok x V):
  W (aQ P aK 20 [V] H) λr H'=>aO (b1 aT) H' bk ((List.range x.ay.length).map λf=>aX (iU x (a2.hR x) f)) r/\av H H':=by
 have j:=aA;have h:=gA au;have i:=va x;have t:=h.ay;obtain⟨_,rfl,a,b,cc,d,rfl,af,ah,an,aM⟩:=aA;refine X7 1000000 ?_;have e:=av.push H (.row Z 5 [[a,b,cc,d,J X x.main]]);have c:=ad.a_ H (.row Z 5 [[a,b,cc,d,J X x.main]]);simp-implicitDefEqProofs(disch:=try exact ai)only[Cx,aj,dV af ah an aM,cH c];refine aZ (y1 au (j.aE e)) ?_;rintro _ K ⟨zX,W0,E,b8,b',o,q,n,ov,nv,fv,gv,uv,rfl,s,p⟩;refine⟨p.1,?_⟩;have ne:bm P .eql 73 C (.ptr W0 0 0) .gI=D (A Z):=aF;have k:aI P K 24 (.ptr H.next 0 2)=D cc:=qj (p.get c);have lc:∀H0,bL P H0 .len [24] [cc]=D (J X x.ay.length):=λH0=>an.len cI
 have sv:=s.MO;have g:=e.trans p;simp-implicitDefEqProofs(disch:=try exact ai)only[br,aj,aJ,aL,ne,k,lc];refine(JI au i (B:=K.next) aa x.ay.length 0 _ K .aB aa aa sv (an.aE g).below (bq.nil _ _ _ _)).mono ?_;rintro r H' ⟨l,m⟩;exact⟨l.aD.any,g.trans m.aE⟩
end
end
section
set_option maxRecDepth 100000
set_option maxHeartbeats 4000000
noncomputable section
def hc(G:aw):gM Tryz.f3 G:=⟨_,λN=>nx ao (x:=trivial)⟩
def lK(G:aw)(N:Nat):g5 Tryz.f5 G N (·.ag.ag.ag.ag.ag.ag) (bg Tryz.f5) []:=⟨_,v0 ao⟩
def ig(G:aw)(N:Nat)(L1:dr):iz 1 3 4 5 6 7 Tryz.f5 G N (·.ag.ag.ag.ag.ag.ax.ag.ax.ax.ag.ag) (cy L1 1 3 4 5 6 7) [(0,(bh (lK G N)))]:=⟨_,v6 ao⟩
def kg(G:aw)(N:Nat)(L1:dr)(L3:iy):EI 1 3 4 5 6 7 8 9 Tryz.f5 G N (·.ag.ag.ag.ag.ag.ax.ag.ax.ax.ag.ax.ax.ag.ag.ag.ax.ax.ag.ag) (e3 L3 1 3 4 5 6 7 8 9) [(2,(cy (ig G N L1) 1 3 4 5 6 7)),(1,(cy (ig G N L1) 1 3 4 5 6 7)),(0,(bh (lK G N)))]:=⟨_,yX ao⟩
def m2(G:aw)(N:Nat)(L1:dr)(L3:iy)(L5:hf):pJ 1 3 4 5 6 7 8 9 10 11 Tryz.f5 G N (·.ag.ag.ag.ag.ag.ax.ag.ax.ax.ag.ax.ax.ag.ag.ag.ax.ax.ag.ax.ax.ag.ag.ax.ax.ag.ag) (jX L5 1 3 4 5 6 7 8 9 10 11) [(4,(e3 (kg G N L1 L3) 1 3 4 5 6 7 8 9)),(3,(e3 (kg G N L1 L3) 1 3 4 5 6 7 8 9)),(2,(cy (ig G N L1) 1 3 4 5 6 7)),(1,(cy (ig G N L1) 1 3 4 5 6 7)),(0,(bh (lK G N)))]:=⟨_,v10 ao⟩
def Dq(G:aw)(N:Nat)(L1:dr)(L3:iy)(L5:hf):uL 1 3 4 5 6 7 8 9 10 11 12 Tryz.f5 G N (·.ag.ag.ag.ag.ag.ax.ag.ax.ax.ag.ax.ax.ag.ag.ag.ax.ax.ag.ax.ax.ag.ag.ax.ax.ag.ax.ax.ag.ag.ag.ag) (jX (m2 G N L1 L3 L5) 1 3 4 5 6 7 8 9 10 11) [(5,(jX (m2 G N L1 L3 L5) 1 3 4 5 6 7 8 9 10 11)),(4,(e3 (kg G N L1 L3) 1 3 4 5 6 7 8 9)),(3,(e3 (kg G N L1 L3) 1 3 4 5 6 7 8 9)),(2,(cy (ig G N L1) 1 3 4 5 6 7)),(1,(cy (ig G N L1) 1 3 4 5 6 7)),(0,(bh (lK G N)))]:=⟨_,v11 ao⟩
def Dp(G:aw)(N:Nat)(L1:dr)(L3:iy)(L5:hf):uL 1 3 4 5 6 7 8 9 10 11 12 Tryz.f5 G N (·.ag.ag.ag.ag.ag.ax.ag.ax.ax.ag.ax.ax.ag.ag.ag.ax.ax.ag.ax.ax.ag.ag.ax.ax.ag.ax.ax.ag.ag.ag) (jX (m2 G N L1 L3 L5) 1 3 4 5 6 7 8 9 10 11) [(5,(jX (m2 G N L1 L3 L5) 1 3 4 5 6 7 8 9 10 11)),(4,(e3 (kg G N L1 L3) 1 3 4 5 6 7 8 9)),(3,(e3 (kg G N L1 L3) 1 3 4 5 6 7 8 9)),(2,(cy (ig G N L1) 1 3 4 5 6 7)),(1,(cy (ig G N L1) 1 3 4 5 6 7)),(0,(bh (lK G N)))]:=⟨_,v11 (ak ((Dq G N L1 L3 L5).2) ao)⟩
def Dn(G:aw)(N:Nat)(L1:dr)(L3:iy)(L5:hf):uL 1 3 4 5 6 7 8 9 10 11 12 Tryz.f5 G N (·.ag.ag.ag.ag.ag.ax.ag.ax.ax.ag.ax.ax.ag.ag.ag.ax.ax.ag.ax.ax.ag.ag.ax.ax.ag.ax.ax.ag.ag) (jX (m2 G N L1 L3 L5) 1 3 4 5 6 7 8 9 10 11) [(5,(jX (m2 G N L1 L3 L5) 1 3 4 5 6 7 8 9 10 11)),(4,(e3 (kg G N L1 L3) 1 3 4 5 6 7 8 9)),(3,(e3 (kg G N L1 L3) 1 3 4 5 6 7 8 9)),(2,(cy (ig G N L1) 1 3 4 5 6 7)),(1,(cy (ig G N L1) 1 3 4 5 6 7)),(0,(bh (lK G N)))]:=⟨_,v11 (ak ((Dp G N L1 L3 L5).2) ao)⟩
def yr(G:aw)(N:Nat)(L1:dr)(L3:iy)(L5:hf):pJ 1 3 4 5 6 7 8 9 10 11 Tryz.f5 G N (·.ag.ag.ag.ag.ag.ax.ag.ax.ax.ag.ax.ax.ag.ag.ag.ax.ax.ag.ax.ax.ag.ag.ax.ax) (jX L5 1 3 4 5 6 7 8 9 10 11) [(4,(e3 (kg G N L1 L3) 1 3 4 5 6 7 8 9)),(3,(e3 (kg G N L1 L3) 1 3 4 5 6 7 8 9)),(2,(cy (ig G N L1) 1 3 4 5 6 7)),(1,(cy (ig G N L1) 1 3 4 5 6 7)),(0,(bh (lK G N)))]:=⟨_,v10 (ak (ak ((m2 G N L1 L3 L5).2) (bD (ak (ak ((Dn G N L1 L3 L5).2) ao) ao))) ao)⟩
def pj(G:aw)(N:Nat)(L1:dr)(L3:iy):Nat->hf
 |0=>uD
 |n+1=>yr G N L1 L3 (pj G N L1 L3 n)
def yq(G:aw)(N:Nat)(L1:dr)(L3:iy):EI 1 3 4 5 6 7 8 9 Tryz.f5 G N (·.ag.ag.ag.ag.ag.ax.ag.ax.ax.ag.ax.ax.ag.ag.ag.ax.ax) (e3 L3 1 3 4 5 6 7 8 9) [(2,(cy (ig G N L1) 1 3 4 5 6 7)),(1,(cy (ig G N L1) 1 3 4 5 6 7)),(0,(bh (lK G N)))]:=⟨_,z2 (ak (ak ((kg G N L1 L3).2) (bD (ak (ak (bD (b3 (λm=>(yr G N L1 L3 (pj G N L1 L3 m)).2))) ao) ao))) ao)⟩
def uc(G:aw)(N:Nat)(L1:dr):Nat->iy
 |0=>M4
 |n+1=>yq G N L1 (uc G N L1 n)
def yp(G:aw)(N:Nat)(L1:dr):iz 1 3 4 5 6 7 Tryz.f5 G N (·.ag.ag.ag.ag.ag.ax.ag.ax.ax) (cy L1 1 3 4 5 6 7) [(0,(bh (lK G N)))]:=⟨_,v6 (ak (ak ((ig G N L1).2) (bD (ak (ak (ak (bD (b3 (λm=>(yq G N L1 (uc G N L1 m)).2))) ao) ao) ao))) ao)⟩
def ub(G:aw)(N:Nat):Nat->dr
 |0=>lO
 |n+1=>yp G N (ub G N n)
def tY(G:aw)(N:Nat):fU Tryz.f5 G N:=⟨_,nx (ak (ak (ak (ak (ak (ak ((lK G N).2) (ak (bD (b3 (λm=>(yp G N (ub G N m)).2))) ao)) ao) ao) ao) ao) ao) (x:=trivial)⟩
def q5(G:aw)(N:Nat):g5 Tryz.f9 G N (·.ag.ag.ag) (bg Tryz.f9) []:=⟨_,v0 ao⟩
def q4(G:aw)(N:Nat)(L1:T2):g6 1 3 Tryz.f9 G N (·.ag.ag.ax.ag.ax.ax) (bo L1 1 3) [(0,(bh (q5 G N)))]:=⟨_,v2 ao⟩
def pk(G:aw)(N:Nat):Nat->T2
 |0=>mu
 |n+1=>q4 G N (pk G N n)
def n3(G:aw)(N:Nat):fU Tryz.f9 G N:=⟨_,t1 (ak (ak (ak ((q5 G N).2) (ak (bD (b3 (λm=>(q4 G N (pk G N m)).2))) ao)) ao) ao)⟩
def Zh(N:Nat):=dZ Tryz.func9 λG=>(n3 G N).2
def K3(G:aw):rp Tryz.f16 G:=⟨λH=>dW H (G 33 [F [114,101,99,111,114,100,32,82,32,123,32,110,58,32,82,59,32,125,32,102,117,110,99,32,102,40,114,58,32,82,41,58,32,82,32,123,32,114,101,116,117,114,110,32,114,46,110,59,32,125,32,102,117,110,99,32,109,97,105,110,40,41,32,123,32,108,101,116,32,97,58,32,82,32,61,32,110,101,119,32,82,59,32,97,46,110,32,61,32,110,101,119,32,82,59,32,108,101,116,32,98,58,32,82,32,61,32,102,40,97,41,59,32,105,102,32,98,32,61,61,32,110,117,108,108,32,82,32,123,32,112,114,105,110,116,32,49,59,32,125,32,112,114,105,110,116,32,50,59,32,125]] H) λx7 af=>aU (jD x7 0) λx8=>aU (jD x7 1) λaC=>fu af [ae.aB,ae.aB,ae.aB] λx1 ah=>fu ah [J X 0,J X 0] λx2 an=>fw an (cD P an 62 x1 x8) λaM=>fw aM (cD P aM 65 x2 aC) λn=>aU (aI P n 62 x1) λx11=>dW n (G 34 [x11] n) λx12 R=>aU (jD x12 0) λT=>aU (jD x12 1) λU=>fu R [ae.aB,ae.aB,ae.aB,ae.aB,J X 0] λb S=>fu S [J X 0,J X 0] λx4 E=>fw E (cD P E 27 b T) λK=>fw K (cD P K 65 x4 U) λe=>aU (aI P e 27 b) λx15=>dW e (G 11 [x15] e) λx16 M=>fu M [J X 0,ae.aB,ae.aB,ae.aB] λx5 o=>fw o (cD P o 33 x5 x16) λf=>aU (bN P 33 x5 0) λx17=>aU (aI P f 3 x17) λV=>aU (bm P .eql 3 C V (J X 2)) λc=>bQ c C f (qr (aI P f 27 b)) λW g=>bQ c C g (λq=>dD g (G 22 [W,J X 0] g) q) λY p=>bQ c C p (λq=>im (D (.aD (p).next 0 2 1 (D 2),.row Z 1 [[J X 0],[J X 1]])) q) λaa h=>bQ c C h (λq=>dD h (G 13 [Y,aa] h) q) λab r=>aU (da c (D ab) (D (A Z))) λx25=>bQ x25 C r (qr (aI P r 27 b)) λad i=>bQ x25 C i (λq=>dD i (G 20 [ad] i) q) λag s=>bQ x25 C s (λq=>im (D (.aD (s).next 0 0 1 (D 0),.row Z 1 [])) q) λai t=>bQ x25 C t (λq=>im (D (.aD (t).next 0 2 1 (D 2),.row Z 1 [[J X 0],[J X 1]])) q) λaj u=>bQ x25 C u (λq=>im (gd P (u).next 31 2 [(0,ai),(1,aj)]) q) λak j=>bQ x25 C j (λq=>dD j (G 17 [ag,ak] j) q) λal v=>aU (da x25 (D al) (D (A Z))) λa=>bQ a C v (qr (aI P v 27 b)) λam k=>bQ a C k (λq=>dD k (G 18 [am] k) q) λap w=>bQ a C w (λq=>im (D (.aD (w).next 0 0 1 (D 0),.row Z 1 [])) q) λaq x=>bQ a C x (λq=>im (D (.aD (x).next 0 0 1 (D 0),.row Z 1 [])) q) λar y=>bQ a C y (λq=>im (gd P (y).next 31 2 [(0,aq),(1,ar)]) q) λau l=>bQ a C l (λq=>dD l (G 17 [ap,au] l) q) λav z=>aU (da a (D av) (D (A Z))) λd=>bQ d C z (qr (aI P z 27 b)) λax m=>bQ d C m (λq=>dD m (G 14 [ax] m) q) λL B=>bQ d C B (λq=>hM (bL P .empty .len [30] [L]) (bL P B .len [30] [L]) q) λay O=>bQ d C O (b2 (bm P .eql 3 C ay (J X 0))) λaz Q=>aU (da d (D az) (D (A Z))) λaA=>D (aA,Q),λN=>H6 ao⟩
end
end
section
open Go.a2
set_option maxRecDepth 2000
structure Small(x:bj):Prop where
 bV:x.bV.length<=20
 globals:x.globals.length<=20
 ay:x.ay.length<=20
 sites:x.sites.length<=80
 code:∀c∈x.ay,c.vars.length<=150/\c.ins.length<=150
def Small.GR{x:bj}(h:Small x):M7 x:=⟨λc aq=>by have:=(h.code c aq).1;omega,λc aq=>by have:=(h.code c aq).2;omega⟩
section
variable {x:bj}{H:ad}{ok:Nat->Prop}
def Hq{a b cc d:ae}{zX:Nat}(p:x.ay.length<=20)(aA:aO fC H ok x.ay cc)(aS:H.get zX=D (.row Z 5 [[a,b,cc,d,J X x.main]])){N:Nat}:∀(j k m:Nat),k+j=x.ay.length->j<m->(∀c∈x.ay.take k,c.vars.length<=150/\c.ins.length<=150)->
  W (pk (aQ P aK) N m (.ptr zX 0 0) (J X (k:Nat)) H) λr H'=>(∃q,r= A q/\(q=Z->∀c∈x.ay,c.vars.length<=150/\c.ins.length<=150))/\H'=H
 |_,_,0,_,hm,_=>aa
 |0,k,m+1,s,_,f=>by
  have e:¬(k:Int)<(x.ay.length:Int):=aa;have lc:∀H0,bL P H0 .len [24] [cc]=D (J X x.ay.length):=λH0=>aA.len cI
  simp-implicitDefEqProofs(disch:=try exact ai)only[q5,q4,pk,br,aj,aJ,aC,aL,dA aS,lc,e,decide_false];refine aG.2 ⟨⟨Z,rfl,λ_=> ?_⟩,rfl⟩;rw[List.take_of_length_le aa]at f;exact f
 |j+1,k,m+1,s,t,f=>by
  have e:(k:Int)<(x.ay.length:Int):=aa;have o:k<x.ay.length:=aa;have lc:∀H0,bL P H0 .len [24] [cc]=D (J X x.ay.length):=λH0=>aA.len cI
  obtain⟨L,n,gv,gw,i,l,bR,b0⟩:=aA.oC (j:=(k:Int)) (g:=x.ay[k]) aa (by simp[o]);have lv:∀H0,bL P H0 .len [23] [gv]=D (J X x.ay[k].vars.length):=λH0=>bR.len cX
  have li:∀H0,bL P H0 .len [47] [gw]=D (J X x.ay[k].ins.length):=λH0=>b0.len eA
  have on:=Hq p aA aS (N:=N) j (k+1) m aa aa;by_cases a8:(150:Int)<(x.ay[k].vars.length:Int)
  ·simp-implicitDefEqProofs(disch:=try exact ai)only[q5,q4,pk,br,aj,aJ,aC,aL,dA aS,lc,e,decide_true,i,l _ (av.refl _),lv,a8];exact aG.2 ⟨⟨C,rfl,λh=>by cases h⟩,rfl⟩
  ·by_cases bo:(150:Int)<(x.ay[k].ins.length:Int)
   ·simp-implicitDefEqProofs(disch:=try exact ai)only[q5,q4,pk,br,aj,aJ,aC,aL,dA aS,lc,e,decide_true,i,l _ (av.refl _),lv,li,a8,bo,decide_false];exact aG.2 ⟨⟨C,rfl,λh=>by cases h⟩,rfl⟩
   ·simp-implicitDefEqProofs(disch:=try exact ai)only[q5,q4,pk,br,aj,aJ,aC,aL,dA aS,lc,e,decide_true,i,l _ (av.refl _),lv,li,a8,bo,decide_false,cq (show k<=1000000000 by omega)];refine on λc aq=> ?_
    rw[List.take_add_one,List.getElem?_eq_getElem o]at aq;rcases List.mem_append.1 aq with aq|aq
    ·exact f c aq
    ·simp only[Option.toList_some,List.mem_singleton]at aq;subst aq;omega
def SN{V:ae}(aA:cM H ok x V):W (aQ P aK 9 [V] H) λr H'=>(∃q,r= A q/\(q=Z->Small x))/\av H H':=by
 obtain⟨_,rfl,a,b,cc,d,rfl,af,ah,an,aM⟩:=aA;refine Zh (x.ay.length+1) ?_;have g:=av.push H (.row Z 5 [[a,b,cc,d,J X x.main]]);have aS:=ad.a_ H (.row Z 5 [[a,b,cc,d,J X x.main]]);have c9:∀H0,bL P H0 .len [22] [a]=D (J X x.bV.length):=λH0=>af.len eG
 have f:∀H0,bL P H0 .len [23] [b]=D (J X x.globals.length):=λH0=>ah.len cX
 have lc:∀H0,bL P H0 .len [24] [cc]=D (J X x.ay.length):=λH0=>an.len cI
 have eM:∀H0,bL P H0 .len [25] [d]=D (J X x.sites.length):=λH0=>aM.len fO
 have c:=dV af ah an aM x.main;have yes:W (D (ae.bool C,H.push (.row Z 5 [[a,b,cc,d,J X x.main]]))) λr H'=>(∃q,r= A q/\(q=Z->Small x))/\av H H':=aG.2 ⟨⟨C,rfl,λh=>by cases h⟩,g⟩
 by_cases bh:(20:Int)<(x.bV.length:Int)
 ·simp-implicitDefEqProofs(disch:=try exact ai)only[n3,br,aj,aJ,aC,aL,c,dA aS,c9,bh,decide_true];exact yes
 by_cases a8:(20:Int)<(x.globals.length:Int)
 ·simp-implicitDefEqProofs(disch:=try exact ai)only[n3,br,aj,aJ,aC,aL,c,dA aS,c9,f,bh,a8,decide_true,decide_false];exact yes
 by_cases bo:(20:Int)<(x.ay.length:Int)
 ·simp-implicitDefEqProofs(disch:=try exact ai)only[n3,br,aj,aJ,aC,aL,c,dA aS,c9,f,lc,bh,a8,bo,decide_true,decide_false];exact yes
 by_cases bJ:(80:Int)<(x.sites.length:Int)
 ·simp-implicitDefEqProofs(disch:=try exact ai)only[n3,br,aj,aJ,aC,aL,c,dA aS,c9,f,lc,eM,bh,a8,bo,bJ,decide_true,decide_false];exact yes
 simp-implicitDefEqProofs(disch:=try exact ai)only[n3,br,aj,aJ,aC,aL,c,dA aS,c9,f,lc,eM,bh,a8,bo,bJ,decide_false];refine(Hq (x:=x) (ok:=ok) aa (an.aE g) aS x.ay.length 0 (x.ay.length+1) aa aa (by simp)).mono ?_;rintro r H' ⟨⟨q,rfl,aN⟩,rfl⟩;exact⟨⟨q,rfl,λe=>⟨aa,aa,aa,aa,aN e⟩⟩,g⟩
end
end
section
open Go.a2
set_option maxRecDepth 2000
section
variable {x:bj}{H:ad}{ok ok':Nat->Prop}
def WH{fs:List (List Int)}{l:List Int}{fv lv:ae}(az:aO (b1 aT) H ok fs fv)(al:aO aT H ok' l lv)(aH:fs.length<=100000)(d:∀f∈fs,f.length<=1000000)(g:l.length<=1000000)(aq:∀a∈aX (dS fs l),a∈l):W (aQ P aK 26 [fv,lv] H) λr H'=>r= A C/\av H H':=by
 refine YA 0 ?_;simp-implicitDefEqProofs(disch:=try exact ai)only[K9];refine aZ (Kh az al aH d g) ?_;rintro r H1 ⟨h,c⟩;refine⟨c.1,?_⟩;refine aZ (J5 h.aD (al.aE c) (by have:=rT fs l;omega) aa) ?_;rintro _ i ⟨b,rfl,e,rfl⟩;have:b=true:=e.2 aq;subst this;exact⟨bC _,aG.2 ⟨rfl,c⟩⟩
def Zo(au:right x=C){V:ae}(aA:cM H ok x V){f v:Nat}{c:bH}(az:x.ay[f]? =D c)(u:v<c.vars.length):W (aQ P aK 30 [V,J X (f:Nat),J X (v:Nat)] H) λr H'=>r= J X (bK x.ay f+v:Nat)/\av H H':=by
 have k:=aA;have h:=gA au;have t:=(List.getElem?_eq_some_iff.1 az).1;have w:=(jZ (h.code az)).vars;obtain⟨_,rfl,a,b,cc,d,rfl,af,ah,an,aM⟩:=aA;refine YK 0 ?_;have m:=av.push H (.row Z 5 [[a,b,cc,d,J X x.main]]);have e:=ad.a_ H (.row Z 5 [[a,b,cc,d,J X x.main]]);simp-implicitDefEqProofs(disch:=try exact ai)only[Lc,aj,dV af ah an aM,cH e];refine aZ (Bv (k.aE m) (mV h) (mW au)) ?_;rintro _ K ⟨rfl,p⟩;refine⟨p.1,?_⟩;have i:=m.trans p;obtain⟨L,n,gv,gw,o,q,bR,b0⟩:=an.oC (j:=(f:Int)) (g:=c) aa (by simpa using az);have a8:¬(f:Int)<0:=aa;have bo:¬(x.ay.length:Int)<=(f:Int):=aa;have bJ:¬(v:Int)<0:=aa
 have bT:¬(c.vars.length:Int)<=(v:Int):=aa;have lc:∀H0,bL P H0 .len [24] [cc]=D (J X x.ay.length):=λH0=>an.len cI
 rw[au];simp-implicitDefEqProofs(disch:=try exact ai)only[aj,aJ,aC,aL,Bool.not_true,a8,bo,bJ,bT,decide_false,dA (p.get e),cH (p.get e),lc,o,q _ i,bR.len cX];refine aZ (Zn h (k.aE i) (f:=f) (v:=v) aa aa) ?_;rintro _ s ⟨rfl,l⟩;exact⟨l.1,aG.2 ⟨rfl,i.trans l⟩⟩
structure oo(x:bj)(k:a2.cB)(zX zC:Nat)(a b cc d ov nv fv gv cu c3:ae)(H:ad):Prop where
 aS:H.get zX=some (.row false 5 [[a,b,cc,d,.int .i64 x.main]])
 cg:H.get zC=some (.row false 4 [bP k.count ov nv fv])
 aA:cM H bk x (.agg [a,b,cc,d,.int .i64 x.main])
 aq:aO fC H bk x.ay cc
 aH:aO aT H bk k.nodes nv
 az:aO (b1 aT) H bk k.fields fv
 aP:aO aT H bk (aX (gu x k)) gv
 a1:aO (b1 aT) H bk ((List.range x.ay.length).map λf=>aX (m5 x k f)) cu
 hw:aO (b1 aT) H bk ((List.range x.ay.length).map λf=>aX (iU x k f)) c3
def oo.aE{k:a2.cB}{zX zC:Nat}{a b cc d ov nv fv gv cu c3:ae}{H H':ad}(s:oo x k zX zC a b cc d ov nv fv gv cu c3 H)(p:av H H'):oo x k zX zC a b cc d ov nv fv gv cu c3 H':=
 ⟨p.get s.aS,p.get s.cg,s.aA.aE p,s.aq.aE p,s.aH.aE p,s.az.aE p,s.aP.aE p,s.a1.aE p,s.hw.aE p⟩
section
variable {k:a2.cB}{zX zC:Nat}{a b cc d ov nv fv gv cu c3:ae}{G:aw}
def Aj(a:gg (ck x) x.sites.length k):(gu x k).length<=k.count:=by
 unfold gu dS;rw[a.ez];exact j_ _ _
def Wi(a:gg (ck x) x.sites.length k)(f:Nat):(iU x k f).length<=k.count:=by
 unfold iU;split
 ·unfold mc;rw[a.ez];exact j_ _ _
 ·simp
def LQ(m:∀g ak H,g≠16->G g ak H=aQ P aK g ak H)(h:gg (ck x) x.sites.length k)(ag:x.sites.length<=60)(T:x.ay.length<=1000){f:Nat}{co:bH}(az:x.ay[f]? =D co){ow lv:ae}{L1:ae->ae->ae->ae->ae->ae->ad->O}{L3:ae->ae->ae->ae->ae->ae->ae->ae->ad->O}{v:Nat}(M:v<co.vars.length){Q:ae->ad->Prop}{N:Nat}(s:oo x k zX zC a b cc d ov nv fv gv cu c3 H)(aR:aO aT H bk (aX (cS x k f)) ow)(al:aO aT H bk (aX (dS k.fields [k.node (bK x.ay f+v)])) lv)
  (fin:W (kg G N L1 L3 (.ptr zX 0 0) (.ptr zC 0 0) gv cu c3 (J X (f:Nat)) ow (J X (v:Nat)) H) Q):∀(j i q:Nat),i+j=(dS k.fields [k.node (bK x.ay f+v)]).length->j<q->
  W (pj G N L1 L3 q (.ptr zX 0 0) (.ptr zC 0 0) gv cu c3 (J X (f:Nat)) ow (J X (v:Nat)) lv (J X (i:Nat)) H) Q
 |_,_,0,_,aN=>aa
 |0,i,q+1,Y,_=>by
  have p:¬(i:Int)<((dS k.fields [k.node (bK x.ay f+v)]).length:Int):=aa;have t:∀H0,bL P H0 .len [30] [lv]=D (J X (dS k.fields [k.node (bK x.ay f+v)]).length):=λH0=>by rw[al.len b6,hx]
  simp-implicitDefEqProofs(disch:=try exact ai)only[pj,yr,br,aj,aC,t,p,decide_false];exact fin
 |j+1,i,q+1,Y,aN=>by
  have p:(i:Int)<((dS k.fields [k.node (bK x.ay f+v)]).length:Int):=aa;have K:i<(dS k.fields [k.node (bK x.ay f+v)]).length:=aa;have t:∀H0,bL P H0 .len [30] [lv]=D (J X (dS k.fields [k.node (bK x.ay f+v)]).length):=λH0=>by rw[al.len b6,hx]
  have U:=(List.getElem?_eq_some_iff.1 az).1;have ap:=h.l3;have aq:=h.ez;have ab:=rT k.fields [k.node (bK x.ay f+v)];rw[hx]at ab;have on:=LQ m h ag T az (L1:=L1) (L3:=L3) M s aR al fin j (i+1) q aa aa;have hm:=List.getElem_mem K;have law:=Wl (x:=x) (k:=k) (f:=f) (v:=v) (c:=co) M hm;have V:(aX (dS k.fields [k.node (bK x.ay f+v)]))[i]? =D (((dS k.fields [k.node (bK x.ay f+v)])[i]:Nat):Int):=abS (List.getElem?_eq_getElem K);obtain⟨ar,w,y⟩:=al.int (j:=(i:Int)) aa (by simpa using V);obtain⟨au,av,am,an,ao⟩:=s.hw.list (j:=(f:Int)) (a:=aX (iU x k f)) aa (by simp[U]);have af:cS x k f=jo x k f co:=by unfold cS;rw[az]
  have ah:iU x k f=mc x k f co:=by unfold iU;rw[az]
  rw[<-af,<-ah]at law;have rX:=Aj h;have ol:=sm h f;have wl:=Wi h f;generalize (dS k.fields [k.node (bK x.ay f+v)])[i]=z at*;have S:=cq (show i<=1000000000 by omega);have w0:IntKind.i64.wrap (0+1)=1:=bU;have aw:IntKind.i64.wrap (1+1)=2:=bU;have u:∀{l:List Nat},decide ((z:Int)∈aX l)=decide (z∈l):=λ{l}=>decide_eq_decide.2 qn
  simp-implicitDefEqProofs(disch:=try exact ai)only[pj,yr,br,aj,aC,t,p,decide_true,w,y];rw[m _ _ _ bU];refine eu (sC s.aP (by rw[hx];omega)) ?_;rw[u];have part:∀c4:Int,c4=(if z∈gu x k then 1 else 0)->W (Dn G N L1 L3 (pj G N L1 L3 q) (.ptr zX 0 0) (.ptr zC 0 0) gv cu c3 (J X (f:Nat)) ow (J X (v:Nat)) lv (J X (i:Nat)) (J X c4) H) Q:=by
   intro c4 r;simp-implicitDefEqProofs(disch:=try exact ai)only[Dn,aj,w,y];rw[m _ _ _ bU];refine eu (sC aR (by rw[hx];omega)) ?_;rw[u];have R:∀cJ:Int,cJ=c4+(if z∈cS x k f then 1 else 0)->W (Dp G N L1 L3 (pj G N L1 L3 q) (.ptr zX 0 0) (.ptr zC 0 0) gv cu c3 (J X (f:Nat)) ow (J X (v:Nat)) lv (J X (i:Nat)) (J X cJ) H) Q:=by
    intro cJ L;simp-implicitDefEqProofs(disch:=try exact ai)only[Dp,aj,am,an,w,y];rw[m _ _ _ bU];refine eu (sC ao (by rw[hx];omega)) ?_;rw[u];by_cases e:z∈iU x k f
    ·rw[if_pos e]at law;have n:cJ=0:=by
      rw[L,r];split<;>split<;>rename_i B E<;>simp only[B,E,if_true,if_false]at law<;>omega
     have o:((1:Int) != 1)=false:=bU;rw[n];simp-implicitDefEqProofs(disch:=try exact ai)only[Dq,m2,aj,aC,e,decide_true,w0,o,S];exact on
    ·rw[if_neg e]at law;have n:cJ=1:=by
      rw[L,r];split<;>split<;>rename_i B E<;>simp only[B,E,if_true,if_false]at law<;>omega
     have o:((1:Int) != 1)=false:=bU;rw[n];simp-implicitDefEqProofs(disch:=try exact ai)only[Dq,m2,aj,aC,e,decide_false,o,S];exact on
   by_cases e:z∈cS x k f
   ·have:=R (c4+1) (by rw[if_pos e]);have wn:IntKind.i64.wrap (c4+1)=c4+1:=by
     rw[r];split<;>decide
    simp-implicitDefEqProofs(disch:=try exact ai)only[aj,aC,e,decide_true,wn];exact this
   ·have:=R c4 (by rw[if_neg e,Int.add_zero]);simp-implicitDefEqProofs(disch:=try exact ai)only[aj,e,decide_false];exact this
  by_cases e:z∈gu x k
  ·have:=part 1 (by rw[if_pos e]);simp-implicitDefEqProofs(disch:=try exact ai)only[aj,aC,e,decide_true,w0];exact this
  ·have:=part 0 (by rw[if_neg e]);simp-implicitDefEqProofs(disch:=try exact ai)only[aj,e,decide_false];exact this
end
end
end
section
open Go.a2
set_option maxRecDepth 2000
section
variable {x:bj}{k:a2.cB}{zX zC:Nat}{a b cc d ov nv fv gv cu c3:ae}{G:aw}
def LR(e:∀g ak H,g≠16->G g ak H=aQ P aK g ak H)(au:right x=C)(c:gg (ck x) x.sites.length k){f:Nat}{co:bH}(az:x.ay[f]? =D co){ow:ae}{L1:ae->ae->ae->ae->ae->ae->ad->O}{Q:ae->ad->Prop}{N:Nat}(E:100<N){H0:ad}(fin:∀H',av H0 H'->W (ig G N L1 (.ptr zX 0 0) (.ptr zC 0 0) gv cu c3 (J X (f:Nat)) H') Q):∀(j i q:Nat) (H:ad),i+j=co.vars.length->j<q->av H0 H->oo x k zX zC a b cc d ov nv fv gv cu c3 H->aO aT H bk (aX (cS x k f)) ow->
  W (uc G N L1 q (.ptr zX 0 0) (.ptr zC 0 0) gv cu c3 (J X (f:Nat)) ow (J X (i:Nat)) H) Q
 |_,_,0,_,_,aN,_,_,_=>aa
 |j,i,q+1,H,m,aN,t,s,aR=>by
  have l:=gA au;have al:=(List.getElem?_eq_some_iff.1 az).1;have ao:=(jZ (l.code az)).vars;have M:=l.sites;have ah:=l.ay;have an:=c.ez;have am:=c.l3;obtain⟨L,n,ag,gw,w,T,bR,b0⟩:=s.aq.oC (j:=(f:Int)) (g:=co) aa (by simpa using az);have y:=(T _ (av.refl _)).2.1
  match j,m,aN with
  |0,m,_=>
   have p:¬(i:Int)<(co.vars.length:Int):=aa;simp-implicitDefEqProofs(disch:=try exact ai)only[uc,yq,br,aj,aJ,aC,aL,dA s.aS,w,y,bR.len cX,p,decide_false];exact fin H t
  |j+1,m,aN=>
   have p:(i:Int)<(co.vars.length:Int):=aa;have o:i<co.vars.length:=aa;have on:=LR e au c az (ow:=ow) E fin j (i+1) q;have af:=cq (show i<=1000000000 by omega);have R:bK x.ay f+i<ck x:=by
    have:=ra az o;unfold ck;omega
   simp-implicitDefEqProofs(disch:=try exact ai)only[uc,yq,br,aj,aJ,aC,aL,dA s.aS,w,y,bR.len cX,p,decide_true,cH s.aS];rw[e _ _ _ bU];refine aZ (Zo au s.aA az o) ?_;rintro _ H1 ⟨rfl,r⟩;refine⟨r.1,?_⟩;have s1:=s.aE r;obtain⟨ap,U,V⟩:=s1.aH.int (j:=((bK x.ay f+i:Nat):Int)) (a:=k.node (bK x.ay f+i)) aa (by rw[Int.toNat_natCast];exact Ba c R);have v:=av.push H1 (.row Z 1 [[J X (k.node (bK x.ay f+i))]]);have z:=s1.aE v;simp-implicitDefEqProofs(disch:=try exact ai)only[aj,aJ,aL,hV s1.cg,U,V,ej];rw[e _ _ _ bU];refine aZ (Kh z.az (gB H1 bk trivial (k.node (bK x.ay f+i))) aa (λf az=>by have:=c.f8 f az;omega) (by simp)) ?_
   rintro lv B ⟨S,u⟩;refine⟨u.1,?_⟩;have h:=(r.trans v).trans u;have s2:=s.aE h;have Y:bF (D fv) fv=true:=eI s.az;have ab:bF (D nv) nv=true:=eI s.aH;have K:=rT k.fields [k.node (bK x.ay f+i)];rw[hx]at K;simp-implicitDefEqProofs(disch:=try exact ai)only[aj,aJ,hV s.cg,hV s1.cg,hV z.cg,Y,ab];refine LQ e c M aa az o s2 (aR.aE h) S.aD.any ?_ (dS k.fields [k.node (bK x.ay f+i)]).length 0 N aa aa;simp-implicitDefEqProofs(disch:=try exact ai)only[kg,aj,aC,af];exact on B aa aa (t.trans h) s2 (aR.aE h)
def LP(h:∀g ak H,g≠16->G g ak H=aQ P aK g ak H)(v:∀H,G 16 [] H=D (A C,H))(au:right x=C)(e:gg (ck x) x.sites.length k)(w:k=a2.hR x){N:Nat}(Q:100000<=N):∀(j i q:Nat) (H:ad),i+j=x.ay.length->j<q->oo x k zX zC a b cc d ov nv fv gv cu c3 H->
  W (ub G N q (.ptr zX 0 0) (.ptr zC 0 0) gv cu c3 (J X (i:Nat)) H) λr H'=>r= A C/\av H H'
 |_,_,0,_,_,aN,_=>aa
 |0,i,q+1,H,S,_,s=>by
  have n:¬(i:Int)<(x.ay.length:Int):=aa;have lc:∀H0,bL P H0 .len [24] [cc]=D (J X x.ay.length):=λH0=>s.aq.len cI
  simp-implicitDefEqProofs(disch:=try exact ai)only[ub,yp,lK,br,aj,aJ,aC,aL,dA s.aS,lc,n,decide_false];refine eu (x:= A C) (by rw[v];exact aG.2 ⟨rfl,rfl⟩) ?_;exact aG.2 ⟨rfl,.refl _⟩
 |j+1,i,q+1,H,S,aN,s=>by
  have m:=gA au;have ao:=m.sites;have al:=m.ay;have an:=e.ez;have am:=e.l3;have n:(i:Int)<(x.ay.length:Int):=aa;have y:i<x.ay.length:=aa;have az:x.ay[i]? =D x.ay[i]:=by simp[y]
  have ap:=(jZ (m.code az)).vars;have lc:∀H0,bL P H0 .len [24] [cc]=D (J X x.ay.length):=λH0=>s.aq.len cI
  have on:=LP h v au e w Q j (i+1) q;have ah:=cq (show i<=1000000000 by omega);have T:cS x k i=jo x k i x.ay[i]:=by unfold cS;rw[az]
  have B:=Wg x k i x.ay[i];rw[<-T]at B;generalize x.ay[i]=co at*;have rX:=Aj e;have ol:=sm e i;have aw:(m5 x k i).length<=k.count:=j_ _ _;simp-implicitDefEqProofs(disch:=try exact ai)only[ub,yp,br,aj,aJ,aC,aL,dA s.aS,lc,n,decide_true,cH s.aS];rw[h _ _ _ bU];refine aZ (aao au s.aA (f:=(i:Int))) ?_;rintro ow H1 ⟨l,o⟩;refine⟨o.1,?_⟩;rw[if_pos aa,Int.toNat_natCast,<-w]at l;have s1:=s.aE o;obtain⟨ar,ax,ae,af,ag⟩:=s1.a1.list (j:=(i:Int)) (a:=aX (m5 x k i)) aa (by simp[y]);simp-implicitDefEqProofs(disch:=try exact ai)only[aj,ae,af];rw[h _ _ _ bU];refine aZ (WD ag l (by rw[hx];omega) (by rw[hx];omega)) ?_
  rintro _ _ ⟨M,rfl,R,rfl⟩;have:M=true:=R.2 λz U=>by
   obtain⟨c,aq,rfl⟩:=List.mem_map.1 U;exact List.mem_map.2 ⟨c,abM aq,rfl⟩
  subst this;refine⟨bC _,?_⟩;simp-implicitDefEqProofs(disch:=try exact ai)only[aj,Bool.not_true];rw[h _ _ _ bU];refine cx (Xd l s1.aP (by rw[hx];omega) (by rw[hx];omega)) ?_;rintro ab u ⟨E,t⟩;refine⟨t.1,?_⟩;have em:kE (aX (cS x k i)) (aX (gu x k))=aX (cS x k i):=by
   have:=Vh (cS x k i) (gu x k);rw[B]at this;exact this
  rw[em]at E;have V:∀H0,bL P H0 .len [30] [ab]=D (J X (cS x k i).length):=λH0=>by rw[E.aD.len b6,hx]
  have Y:∀H0,bL P H0 .len [30] [ow]=D (J X (cS x k i).length):=λH0=>by rw[l.len b6,hx]
  have O:(((cS x k i).length:Int) != ((cS x k i).length:Int))=false:=bne_self_eq_false _;have p:=o.trans t;simp-implicitDefEqProofs(disch:=try exact ai)only[aj,aC,V,Y,O];refine LR h au e az aa (H0:=u) (λL K=> ?_) co.vars.length 0 N u aa aa (.refl _) (s.aE p) (l.aE t);simp-implicitDefEqProofs(disch:=try exact ai)only[ig,aj,aC,ah];refine(on L aa aa (s.aE (p.trans K))).mono ?_;rintro r H' ⟨rfl,z⟩;exact⟨rfl,(p.trans K).trans z⟩
end
end
section
open Go.a2
set_option maxRecDepth 2000
section
variable {x:bj}{H:ad}{ok:Nat->Prop}
def Wm{V:ae}(aA:cM H ok x V){N:Nat}(aY:100000<=N):W (tY (nB P aK 16 C) N V H) λr H'=>r= A C/\av H H':=by
 have ax:=aA;obtain⟨_,rfl,a,b,cc,d,rfl,af,ah,an,aM⟩:=aA;have u:=av.push H (.row Z 5 [[a,b,cc,d,J X x.main]]);have aS:=ad.a_ H (.row Z 5 [[a,b,cc,d,J X x.main]]);have bc:bF (D (.agg [a,b,cc,d,J X x.main])) (.agg [a,b,cc,d,J X x.main])=true:=by simp[bF,ae.beq,er.beq,af.rd,ah.rd,an.rd,aM.rd]
 simp-implicitDefEqProofs(disch:=try exact ai)only[tY,aj,dV af ah an aM,cH aS];rw[mK bU];refine aZ (SN (ax.aE u)) ?_;rintro _ bd ⟨⟨q,rfl,aN⟩,m⟩;refine⟨m.1,?_⟩;cases q with
 |true=>
  simp-implicitDefEqProofs(disch:=try exact ai)only[aj];exact aG.2 ⟨rfl,u.trans m⟩
 |false=>
 have aw:=aN rfl;have ag:=m.get aS;have T:=(ax.aE u).aE m;simp-implicitDefEqProofs(disch:=try exact ai)only[aj,cH ag];rw[mK bU];refine cx (Bv T aw.GR.1 aw.GR.2) ?_;rintro _ be ⟨rfl,o⟩;refine⟨o.1,?_⟩;by_cases au:right x=C
 case neg=>
  have a0:right x=false:=by simpa using au
  rw[a0];simp-implicitDefEqProofs(disch:=try exact ai)only[aj,Bool.not_false];exact aG.2 ⟨rfl,(u.trans m).trans o⟩
 have ap:=gA au;rw[au];have al:=o.get ag;simp-implicitDefEqProofs(disch:=try exact ai)only[aj,Bool.not_true,cH al];rw[mK bU];refine aZ (ZD au (T.aE o)) ?_;rintro _ e ⟨⟨ov,nv,fv,rfl,a8,bo,bJ,bT⟩,t⟩;refine⟨t.1,?_⟩;have j:=va x;have aW:=t.get al;obtain⟨k,y⟩:∃k,k=a2.hR x:=⟨_,rfl⟩;rw[<-y]at a8 bo bJ j ⊢;have aV:=ad.a_ e (.row Z 4 [bP 0 .aB .aB .aB]);have st:cD P (e.push (.row Z 4 [[J X 0,.aB,.aB,.aB]])) 33 (.ptr e.next 0 0) (.agg (bP k.count ov nv fv))=D ((e.push (.row Z 4 [[J X 0,.aB,.aB,.aB]])).set e.next (.row Z 4 [bP k.count ov nv fv])):=mm (n:=k.count) aV rfl a8.one bo.one bJ.one
 rw[ad.kH]at st;have bp:(e.push (.row Z 4 [[J X 0,.aB,.aB,.aB]])).next<=(e.push (.row Z 4 [bP k.count ov nv fv])).next:=Nat.le.refl
 have s:=av.push e (.row Z 4 [bP k.count ov nv fv]);have cg:=ad.a_ e (.row Z 4 [bP k.count ov nv fv]);have R:=s.get aW;have bb:=(((u.trans m).trans o).trans t).trans s;simp-implicitDefEqProofs(disch:=try exact ai)only[Nat.reduceAdd,aj,aJ,st,cH R];rw[mK bU];have bk:=t.1;obtain⟨zC,aX⟩:∃zC,zC=e.next:=⟨_,rfl⟩
 rw[<-aX]at cg ⊢;have B:=((T.aE o).aE t).aE s;have bj:=a8.aE s;have Y:=bo.aE s;have a3:=bJ.aE s;have aQ:=(((((an.aE u).aE m).aE o).aE t).aE s).any;generalize e.push (.row Z 4 [bP k.count ov nv fv])=bf at*;refine aZ (ZP au B) ?_;rintro gv bg ⟨cn,E⟩;refine⟨E.1,?_⟩;rw[<-y]at cn;have am:=E.get R;simp-implicitDefEqProofs(disch:=try exact ai)only[aj,cH am];rw[mK bU];refine aZ (abN au (B.aE E)) ?_;rintro cu bh ⟨cy,O⟩;refine⟨O.1,?_⟩;rw[<-y]at cy;have ao:=O.get am;have U:=E.trans O;simp-implicitDefEqProofs(disch:=try exact ai)only[aj,cH ao];rw[mK bU];refine aZ (Wk au (B.aE U)) ?_;rintro c3 aI ⟨ea,G⟩
 refine⟨G.1,?_⟩;rw[<-y]at ea;have l:=U.trans G;have S:=G.get ao;have ab:=l.get cg;have w:oo x k H.next zC a b cc d ov nv fv gv cu c3 aI:=⟨S,ab,(B.aE l).keep (.le λ_ _=>trivial),aQ.aE l,Y.aE l,a3.aE l,(cn.aE O).aE G,cy.aE G,ea⟩
 have a5:∀H0,bL P H0 .len [31] [cu]=D (J X x.ay.length):=λH0=>by rw[w.a1.len e4];simp
 have a6:∀H0,bL P H0 .len [31] [c3]=D (J X x.ay.length):=λH0=>by rw[w.hw.len e4];simp
 have a7:∀H0,bL P H0 .len [24] [cc]=D (J X x.ay.length):=λH0=>w.aq.len cI
 have a9:∀H0,bL P H0 .len [31] [fv]=D (J X k.count):=λH0=>by rw[w.az.len e4,j.ez]
 have ba:∀H0,bL P H0 .len [30] [nv]=D (J X (ck x:Nat)):=λH0=>by rw[w.aH.len b6,j.nl]
 have aR:(((ck x:Nat):Int) != ((ck x:Nat):Int))=false:=bne_self_eq_false _;have aT:((x.ay.length:Int) != (x.ay.length:Int))=false:=bne_self_eq_false _;have aU:((k.count:Int) != (k.count:Int))=false:=bne_self_eq_false _;simp-implicitDefEqProofs(disch:=try exact ai)only[aj];refine cO (cP aF ?_) ?_
 ·refine py ?_ ?_
  ·simp only[ct,bz.K.heap,List.forall_mem_cons]
   repeat' first|exact av.refl _|exact E|exact U|exact l|(intro _ h;cases h;done)|refine ar ?_ ?_
  ·simp only[List.forall_mem_cons]
   repeat' first|(intro v i;cases i;done)|(intro v i;exact .inl rfl)|(intro v i;cases i;refine .inr λH' p=> ?_;simp only[cH (p.get R),bc];done)|(intro _ h;cases h;done)|refine ar ?_ ?_
 simp-implicitDefEqProofs(disch:=try exact ai)only[aj,aJ,aC,aL,cH S,dA S,a5,a6,a7,aT,il];rw[mK bU];refine cx (WI au (B.aE l)) ?_;rintro _ bi ⟨rfl,L⟩;refine⟨L.1,?_⟩;have Q:=w.aE L;simp-implicitDefEqProofs(disch:=try exact ai)only[aj,aJ,aC,aL,hV Q.cg,ba,a9,aR,aU,il];rw[mK bU];have bq:=ap.sites;have bn:=j.ez;have bm:=j.l3;have rX:=Aj j;refine cx (WH Q.az Q.aP aa (λf az=>by have:=j.f8 f az;omega) (by rw[hx];omega) λz a4=>by
  obtain⟨c,aq,rfl⟩:=List.mem_map.1 a4;exact List.mem_map.2 ⟨c,SK x k aq,rfl⟩) ?_
 rintro _ aO ⟨rfl,M⟩;refine⟨M.1,?_⟩;have n3:=Q.aE M;simp-implicitDefEqProofs(disch:=try exact ai)only[aj,Bool.not_true,il];refine cO (cP aF ?_) ?_
 ·refine py ?_ ?_
  ·simp only[ct,bz.K.heap,List.forall_mem_cons]
   repeat' first|exact av.refl _|exact L|exact M|exact L.trans M|(intro _ h;cases h;done)|refine ar ?_ ?_
  ·simp only[List.forall_mem_cons]
   repeat' first|(intro v i;cases i;done)|(intro v i;exact .inl rfl)|(intro v i;cases i;refine .inr λH' p=> ?_;simp only[hV (p.get ab),eI Y];done)|(intro _ h;cases h;done)|refine ar ?_ ?_
 ·have bl:=ap.ay;refine(LP (λg ak H aP=>mK aP) (λ_=>Qn _) au j y aY x.ay.length 0 N aO aa aa n3).mono λr H' z=>⟨z.1,?_⟩
  exact(((bb.trans l).trans L).trans M).trans z.2
end
end
end Go.Proofs.YtmhhnnklfcbgfaaGreat
namespace Go.bz
abbrev Ep:=aw->List ae->ad->O
inductive h5 where
 |leaf (n:Nat) (b:Ep)
 |node (m:Nat) (a b:h5)
noncomputable section
def h5.run(aK:aw)(t:h5)(G:aw)(f:Nat)(args:List ae)(H:ad):O:=@h5.rec (λ_=>O) (λn b=> @Bool.rec (λ_=>O) (aK f args H) (b G args H) (Nat.beq f n)) (λm _ _ x y=> @Bool.rec (λ_=>O) y x (Nat.ble f m)) t
def GG(aK:aw)(t:h5)(n:Nat):aw:= @Nat.rec (λ_=>aw) (λ_ _ _=>I) (λ_ a f args H=>t.run aK a f args H) n
def uR(l:List ae)(k:O):O:= @List.rec ae (λ_=>O) k (λ_ _ _=>I) l
def uS(l:List ae)(k:ae->O):O:= @List.rec ae (λ_=>O) I (λa r _=>uR r (k a)) l
def uT(l:List ae)(k:ae->ae->O):O:= @List.rec ae (λ_=>O) I (λa r _=>uS r (k a)) l
def uU(l:List ae)(k:ae->ae->ae->O):O:= @List.rec ae (λ_=>O) I (λa r _=>uT r (k a)) l
def uV(l:List ae)(k:ae->ae->ae->ae->O):O:= @List.rec ae (λ_=>O) I (λa r _=>uU r (k a)) l
def zz(l:List ae)(k:ae->ae->ae->ae->ae->O):O:= @List.rec ae (λ_=>O) I (λa r _=>uV r (k a)) l
def E2{l:List ae}{k:O}{r}(h:uR l k=D r):l=[]/\k=D r:=by
 cases l with
 |nil=>exact⟨rfl,h⟩
 |cons a l=>cases h
def E3{l:List ae}{k:ae->O}{r}(h:uS l k=D r):∃a,l=[a]/\k a=D r:=by
 cases l with
 |nil=>cases h
 |cons a l=>obtain⟨rfl,h⟩:=E2 h;exact⟨a,rfl,h⟩
def E4{l:List ae}{k:ae->ae->O}{r}(h:uT l k=D r):∃a b,l=[a,b]/\k a b=D r:=by
 cases l with
 |nil=>cases h
 |cons a l=>obtain⟨b,rfl,h⟩:=E3 h;exact⟨a,b,rfl,h⟩
def E5{l:List ae}{k:ae->ae->ae->O}{r}(h:uU l k=D r):∃a b c,l=[a,b,c]/\k a b c=D r:=by
 cases l with
 |nil=>cases h
 |cons a l=>obtain⟨b,c,rfl,h⟩:=E4 h;exact⟨a,b,c,rfl,h⟩
def E6{l:List ae}{k:ae->ae->ae->ae->O}{r}(h:uV l k=D r):∃a b c d,l=[a,b,c,d]/\k a b c d=D r:=by
 cases l with
 |nil=>cases h
 |cons a l=>obtain⟨b,c,d,rfl,h⟩:=E5 h;exact⟨a,b,c,d,rfl,h⟩
def Ob{l:List ae}{k:ae->ae->ae->ae->ae->O}{r}(h:zz l k=D r):∃a b c d e,l=[a,b,c,d,e]/\k a b c d e=D r:=by
 cases l with
 |nil=>cases h
 |cons a l=>obtain⟨b,c,d,e,rfl,h⟩:=E6 h;exact⟨a,b,c,d,e,rfl,h⟩
def og(E:Env)(P:Program)(n:Nat)(b:Ep):Prop:=∀G,ed E P G->∀args H v H',b G args H=D (v,H')->gL E P n args H v H'
def h5.Ok(E:Env)(P:Program):h5->Prop
 | .leaf n b=>og E P n b
 | .node _ a b=>a.Ok E P/\b.Ok E P
section
variable {E:Env}{P:Program}{aK G:aw}
def h5.BF(e:ed E P aK)(d:ed E P G):∀{t:h5},t.Ok E P->∀{f:Nat} {args:List ae} {H:ad} {v:ae} {H':ad},t.run aK G f args H=D (v,H')->gL E P f args H v H'
 | .leaf n b,a1,f,args,H,v,H',h=>by
  have ah: @Bool.rec (λ_=>O) (aK f args H) (b G args H) (Nat.beq f n)=D (v,H'):=h;cases c:Nat.beq f n with
  |false=>rw[c]at ah;exact e _ _ _ _ _ ah
  |true=>
   rw[c]at ah;obtain rfl:=Nat.eq_of_beq_eq_true c;exact a1 G d _ _ _ _ ah
 | .node m a b,a1,f,args,H,v,H',h=>by
  have ah: @Bool.rec (λ_=>O) (b.run aK G f args H) (a.run aK G f args H) (Nat.ble f m)=D (v,H'):=h;cases c:Nat.ble f m with
  |false=>rw[c]at ah;exact h5.BF e d a1.2 ah
  |true=>rw[c]at ah;exact h5.BF e d a1.1 ah
def nC(a:ed E P aK){t:h5}(a1:t.Ok E P):∀n,ed E P (GG aK t n)
 |0=>λ_ _ _ _ _ h=>by cases h
 |n+1=>λ_ _ _ _ _ h=>h5.BF a (nC a a1 n) a1 h
abbrev pY(P:Program)(fn:Func)(G:aw)(N:Nat):bI:=bM P G N (bw fn) (kd P fn.results.toList) [] (kd P fn.results.toList)
structure pD(P:Program)(n:Nat)(fn:Func)(k:Nat):Prop where
 f:P.funcs[n]? =some fn
 b:fn.body=some (bw fn)
 d:fV fn.ntmps (bw fn)=true
 n:Nat.ble k fn.ntmps=true
variable {n N:Nat}{fn:Func}
def Up(c:jB P)(w:pD P n fn 0){s:aw->ad->O}(h:∀G H,pY P fn G N (cG []) H=s G H):og E P n λG l H=>uR l (s G H):=by
 intro G a l H v H' e;obtain⟨rfl,e⟩:=E2 e;exact oD (args:=[]) c a w.f w.b w.d w.n ((h G H).trans e)
def Uq(g:jB P)(w:pD P n fn 1){s:aw->ae->ad->O}(h:∀G a H,pY P fn G N (cG [a]) H=s G a H):og E P n λG l H=>uS l λa=>s G a H:=by
 intro G c l H v H' e;obtain⟨a,rfl,e⟩:=E3 e;exact oD (args:=[a]) g c w.f w.b w.d w.n ((h G a H).trans e)
def Ur(g:jB P)(w:pD P n fn 2){s:aw->ae->ae->ad->O}(h:∀G a b H,pY P fn G N (cG [a,b]) H=s G a b H):og E P n λG l H=>uT l λa b=>s G a b H:=by
 intro G c l H v H' e;obtain⟨a,b,rfl,e⟩:=E4 e;exact oD (args:=[a,b]) g c w.f w.b w.d w.n ((h G a b H).trans e)
def Us(i:jB P)(w:pD P n fn 3){s:aw->ae->ae->ae->ad->O}(h:∀G a b c H,pY P fn G N (cG [a,b,c]) H=s G a b c H):og E P n λG l H=>uU l λa b c=>s G a b c H:=by
 intro G g l H v H' e;obtain⟨a,b,c,rfl,e⟩:=E5 e;exact oD (args:=[a,b,c]) i g w.f w.b w.d w.n ((h G a b c H).trans e)
def Ut(i:jB P)(w:pD P n fn 4){s:aw->ae->ae->ae->ae->ad->O}(h:∀G a b c d H,pY P fn G N (cG [a,b,c,d]) H=s G a b c d H):og E P n λG l H=>uV l λa b c d=>s G a b c d H:=by
 intro G g l H v H' e;obtain⟨a,b,c,d,rfl,e⟩:=E6 e;exact oD (args:=[a,b,c,d]) i g w.f w.b w.d w.n ((h G a b c d H).trans e)
def Uu(i:jB P)(w:pD P n fn 5){s:aw->ae->ae->ae->ae->ae->ad->O}(h:∀G a b c d x H,pY P fn G N (cG [a,b,c,d,x]) H=s G a b c d x H):og E P n λG l H=>zz l λa b c d x=>s G a b c d x H:=by
 intro G g l H v H' e;obtain⟨a,b,c,d,x,rfl,e⟩:=Ob e;exact oD (args:=[a,b,c,d,x]) i g w.f w.b w.d w.n ((h G a b c d x H).trans e)
def r1(b:Bool)(o:O):Bool:= @Option.rec _ (λ_=>Bool) Z (λp=> @Prod.rec _ _ (λ_=>Bool) (λv _=>match v with
 | .bool c=>c==b
 |_=>Z) p) o
def Tv{b:Bool}{o:O}(h:r1 b o=C):∃H,o=D (A b,H):=by
 match o,h with
 |some (A c,H),h=>
  have:c=b:=by simpa [r1]using h
  exact⟨H,by rw[this]⟩
def PI(a:ed E P aK){t:h5}(a1:t.Ok E P){m f:Nat}{args:List ae}{H:ad}{b:Bool}(h:r1 b (GG aK t m f args H)=C):∃H',gL E P f args H (A b) H':=by
 obtain⟨H',e⟩:=Tv h;exact⟨H',nC a a1 m _ _ _ _ _ e⟩
end
end
def u6:List (List ae)->List (List ae)->Bool
 |[],[]=>C
 |a::us,b::bs=>er.beq a b&&u6 us bs
 |_,_=>Z
def FP:∀{a b:List (List ae)},u6 a b=C->a=b
 |[],[],_=>rfl
 |[],_::_,h=>by cases h
 |_::_,[],h=>by cases h
 |a::us,b::bs,h=>by
  simp only[u6,Bool.and_eq_true]at h;rw[er.beq_eq h.1,FP h.2]
def zJ(o:Option bn)(b:bn):Bool:=match o,b with
 |some (.row r e els),.row r' a c=>(r==r')&&(Nat.beq e a&&u6 els c)
 |_,_=>Z
def OT{o:Option bn}{b:bn}(h:zJ o b=C):o=D b:=by
 unfold zJ at h;split at h
 ·simp only[Bool.and_eq_true,beq_iff_eq]at h;obtain⟨rfl,ah,an⟩:=h;rw[Nat.eq_of_beq_eq_true ah,FP an]
 ·cases h
def nO:List (Nat×bn)->bu bn
 |[]=> .leaf
 |p::db=>bu.put p.2 0 (nO db) p.1
def nM(ls:List (Nat×bn))(n:Nat):ad:=⟨nO ls,n⟩
def IY{l:Nat}{b:bn}:∀{ls:List (Nat×bn)},(nO ls).get l=D b->(l,b)∈ls
 |[],h=>by rw[nO,bu.qd]at h;cases h
 |p::db,h=>by
  by_cases e:p.1=l
  ·subst e;rw[nO,bu.put,bu.get,bu.vp]at h;cases h;simp
  ·have:(bu.put p.2 0 (nO db) p.1).get l=(nO db).get l:=bu.qf _ _ _ _ _ e;rw[nO,this]at h;exact List.mem_cons_of_mem _ (IY h)
def Vj{ls:List (Nat×bn)}{n l:Nat}{b:bn}(h:(nM ls n).get l=D b):(l,b)∈ls:=by
 unfold ad.get at h;split at h
 ·exact IY h
 ·cases h
def vr(H:ad)(ls:List (Nat×bn)):Bool:=ls.all λp=>zJ (H.get p.1) p.2
structure Sub(A B:ad):Prop where
 next:A.next=B.next
 get:∀l b,A.get l=some b->B.get l=some b
def L_{H:ad}{ls:List (Nat×bn)}{n:Nat}(h:vr H ls=C)(aH:Nat.beq H.next n=C):Sub (nM ls n) H:=by
 refine⟨(Nat.eq_of_beq_eq_true aH).symm,λl b aP=> ?_⟩;unfold vr at h;rw[List.all_eq_true]at h;exact OT (h _ (Vj aP))
def Sub.rw{A B:ad}(h:Sub A B){l:Nat}(al:A.rw l):B.rw l:=by
 rcases al with⟨e,s,g⟩|⟨es,g⟩|⟨t,e,s,g⟩
 ·exact .inl ⟨e,s,h.get _ _ g⟩
 ·exact .inr (.inl ⟨es,h.get _ _ g⟩)
 ·exact .inr (.inr ⟨t,e,s,h.get _ _ g⟩)
def Sub.live{A B:ad}(h:Sub A B){l:Nat}(al:A.live l):B.live l:=by
 rcases al with⟨r,e,s,g⟩|⟨es,g⟩|⟨t,e,s,g⟩
 ·exact .inl ⟨r,e,s,h.get _ _ g⟩
 ·exact .inr (.inl ⟨es,h.get _ _ g⟩)
 ·exact .inr (.inr ⟨t,e,s,h.get _ _ g⟩)
def Sub.owned{ρ:Env}{A B:ad}{b:Nat}(h:Sub A B):d_ ρ A b->d_ ρ B b:=λ⟨l,loc,af,ah,an⟩=>⟨l,loc,h.rw af,ah,an⟩
def Sub.rel{ρ:Env}{A B:ad}{w:World}(h:Sub A B)(r:Rel ρ B w):Rel ρ A w:=
 ⟨λl ro esz els g=>r.row l ro esz els (h.get _ _ g),λl es g=>r.map l es (h.get _ _ g),λl t esz els g=>r.dz l t esz els (h.get _ _ g),λl d a b af ah=>r.apart l d a b (h.rw af) (h.live ah),λl s esz els g=>by
  obtain⟨loc,f,e,i⟩:=r.old _ _ _ _ (h.get _ _ g);exact⟨loc,f,e,i.imp id λc=>⟨c.1,λq=>c.2 (h.owned q)⟩⟩⟩
def gL.narrow{E:Env}{P:Program}{g:Nat}{args:List ae}{v:ae}{H H0 H1 d:ad}(h:gL E P g args H0 v H1)(a:Sub H0 H)(af:Sub d H1):gL E P g args H v d:=by
 intro ρ w xs n az o aH next p
 refine h ρ w xs (a.rel n) (by rw[a.next,<-af.next];exact az) o (by rw[a.next,<-af.next];exact aH) next λx r t aA s=>p x r t aA ⟨s.le,by have:=s.next;rw[a.next,<-af.next]at this;exact this,λl al=>s.keep l (by rw[a.next,<-af.next];exact al),af.rel s.rel,s.os,s.tape,s.output,s.size,λb c aR=>s.frame b c λbY=>aR (a.owned bY),λb c=>(s.own b (af.owned c)).imp a.owned id,λl esz els g=>a.get _ _ (s.ro l esz els (af.get _ _ g)),λk q esz els g=>(s.olds k q esz els (af.get _ _ g)).imp (λ⟨s1,m,j,e⟩=>⟨s1,m,j,a.get _ _ e⟩) λ⟨loc,f,i⟩=>⟨loc,f,i.imp a.owned id⟩⟩
structure fH where
 f:Nat
 args:List ae
 c4:Nat
 AT:List (Nat×bn)
 v:ae
 cJ:Nat
 vR:List (Nat×bn)
def zS(o:O)(v:ae)(n:Nat)(ls:List (Nat×bn)):Bool:=match o with
 |some (w,H)=>ae.beq w v&&(Nat.beq H.next n&&vr H ls)
 |none=>Z
def Pw{o:O}{v:ae}{n:Nat}{ls:List (Nat×bn)}(h:zS o v n ls=C):∃H,o=D (v,H)/\Sub (nM ls n) H:=by
 unfold zS at h;split at h
 ·rename_i w H;simp only[Bool.and_eq_true]at h;exact⟨H,by rw[ae.beq_eq h.1],L_ h.2.2 h.2.1⟩
 ·cases h
def fH.Ok(E:Env)(P:Program)(s:fH):Prop:=gL E P s.f s.args (nM s.AT s.c4) s.v (nM s.vR s.cJ)
def fH.mS{E:Env}{P:Program}{s:fH}{G:aw}(a:ed E P G)(h:zS (G s.f s.args (nM s.AT s.c4)) s.v s.cJ s.vR=C):s.Ok E P:=by
 obtain⟨H,e,b⟩:=Pw h;exact gL.narrow (a _ _ _ _ _ e) ⟨rfl,λ_ _ g=>g⟩ b
def fH.fits(s:fH)(f:Nat)(args:List ae)(H:ad):Bool:=Nat.beq s.f f&&(Nat.beq H.next s.c4&&(er.beq args s.args&&vr H s.AT))
def D3(aK:aw):List fH->aw
 |[],f,args,H=>aK f args H
 |s::a,f,args,H=>bif s.fits f args H then D (s.v,nM s.vR s.cJ)else D3 aK a f args H
def D4{E:Env}{P:Program}{aK:aw}(c:ed E P aK):∀{b:List fH},(∀s∈b,s.Ok E P)->ed E P (D3 aK b)
 |[],_=>c
 |s::b,h=>by
  intro f args H v H' e;have a:(bif s.fits f args H then D (s.v,nM s.vR s.cJ)else D3 aK b f args H)=D (v,H'):=e;cases az:s.fits f args H with
  |true=>
   rw[az]at a;cases a;unfold fH.fits at az;simp only[Bool.and_eq_true]at az;obtain⟨af,ah,an,aM⟩:=az;obtain rfl:=Nat.eq_of_beq_eq_true af;rw[er.beq_eq an];exact gL.narrow (h s (by simp)) (L_ aM ah) ⟨rfl,λ_ _ g=>g⟩
  |false=>
   rw[az]at a;exact D4 c (λt a1=>h t (by simp[a1])) _ _ _ _ _ a
end Go.bz
namespace Go.Proofs.YtmhhnnklfcbgfaaGreat
open Go.bz
section
set_option maxRecDepth 100000
set_option maxHeartbeats 4000000
noncomputable section
def Ln(G:aw)(N:Nat):gj 0 3 4 Tryz.f58 G N (·.ag.ag.ag.ag.ag) (bg Tryz.f58) []:=⟨_,v3 ao⟩
def Lm(G:aw)(N:Nat)(L1:b_):en 0 3 4 5 Tryz.f58 G N (·.ag.ag.ag.ag.ax.ax.ax) (bT L1 0 3 4 5) [(0,(bJ (Ln G N) 0 3 4))]:=⟨_,v4 ao⟩
def Lo(G:aw)(N:Nat):Nat->b_
 |0=>fk
 |n+1=>Lm G N (Lo G N n)
def Zz(G:aw)(N:Nat):fU Tryz.f58 G N:=⟨_,t1 (ak (ak (ak (ak (ak ((Ln G N).2) (bD (b3 (λm=>(Lm G N (Lo G N m)).2)))) ao) ao) ao) ao)⟩
def BL(G:aw)(N:Nat):et 1 Tryz.f112 G N (·.ag.ag) (bg Tryz.f112) []:=⟨_,v1 ao⟩
def KF(G:aw)(N:Nat)(L1:T2)(L2:T2):g6 0 1 Tryz.f112 G N (·.ag.ax.ax.ax.ag.ax.ax.ag.ag.ag.ax.ax.ax) (bo L2 0 1) [(3,(bo L1 0 1)),(2,(bo L1 0 1)),(1,(bo L1 0 1)),(0,(a8 (BL G N) 1))]:=⟨_,v2 ao⟩
def KH(G:aw)(N:Nat)(L1:T2):Nat->T2
 |0=>mu
 |n+1=>KF G N L1 (KH G N L1 n)
def KE(G:aw)(N:Nat)(L1:T2):g6 0 1 Tryz.f112 G N (·.ag.ax.ax.ax) (bo L1 0 1) [(0,(a8 (BL G N) 1))]:=⟨_,v2 (ak (bD (bD (ak (dp ao (ak (dp (bD (b3 (λm=>(KF G N L1 (KH G N L1 m)).2))) ao) ao)) ao))) ao)⟩
def KG(G:aw)(N:Nat):Nat->T2
 |0=>mu
 |n+1=>KE G N (KG G N n)
def Zp(G:aw)(N:Nat):fJ Tryz.f112 G N:=⟨_,t2 (ak (ak ((BL G N).2) (bD (b3 (λm=>(KE G N (KG G N m)).2)))) ao)⟩
def Zq(G:aw):ev Tryz.f113 G:=⟨_,λN=>t2 ao⟩
def Zr(G:aw):gM Tryz.f149 G:=⟨_,λN=>t1 ao⟩
def KO(G:aw)(N:Nat):et 7 Tryz.f150 G N (·.ag.ag.ag) (bg Tryz.f150) []:=⟨_,v1 ao⟩
def KN(G:aw)(N:Nat)(L1:b_):en 0 1 2 7 Tryz.f150 G N (·.ag.ag.ax.ax.ax) (bT L1 0 1 2 7) [(0,(a8 (KO G N) 7))]:=⟨_,v4 ao⟩
def KP(G:aw)(N:Nat):Nat->b_
 |0=>fk
 |n+1=>KN G N (KP G N n)
def Zs(G:aw)(N:Nat):oq Tryz.f150 G N:=⟨_,t3 (ak (ak (ak ((KO G N).2) (bD (b3 (λm=>(KN G N (KP G N m)).2)))) ao) ao)⟩
def KR(G:aw)(N:Nat):g5 Tryz.f151 G N (·.ag.ag.ag) (bg Tryz.f151) []:=⟨_,v0 ao⟩
def KQ(G:aw)(N:Nat)(L1:c6):gj 0 3 4 Tryz.f151 G N (·.ag.ag.ax.ag.ax.ax) (bJ L1 0 3 4) [(0,(bh (KR G N)))]:=⟨_,v3 ao⟩
def KS(G:aw)(N:Nat):Nat->c6
 |0=>iq
 |n+1=>KQ G N (KS G N n)
def Zt(G:aw)(N:Nat):fU Tryz.f151 G N:=⟨_,t1 (ak (ak (ak ((KR G N).2) (ak (bD (b3 (λm=>(KQ G N (KS G N m)).2))) ao)) ao) ao)⟩
def KU(G:aw)(N:Nat):g5 Tryz.f152 G N (·.ag.ag.ag) (bg Tryz.f152) []:=⟨_,v0 ao⟩
def KT(G:aw)(N:Nat)(L1:T2):g6 0 3 Tryz.f152 G N (·.ag.ag.ax.ag.ax.ax) (bo L1 0 3) [(0,(bh (KU G N)))]:=⟨_,v2 ao⟩
def KV(G:aw)(N:Nat):Nat->T2
 |0=>mu
 |n+1=>KT G N (KV G N n)
def Zu(G:aw)(N:Nat):fU Tryz.f152 G N:=⟨_,t1 (ak (ak (ak ((KU G N).2) (ak (bD (b3 (λm=>(KT G N (KV G N m)).2))) ao)) ao) ao)⟩
def Zv(G:aw):gM Tryz.f153 G:=⟨_,λN=>t1 ao⟩
def B2(G:aw)(N:Nat):et 4 Tryz.f154 G N (·.ag.ag.ag) (bg Tryz.f154) []:=⟨_,v1 ao⟩
def KW(G:aw)(N:Nat)(L1:c6):gj 0 4 5 Tryz.f154 G N (·.ag.ag.ax.ag.ax.ax) (bJ L1 0 4 5) [(0,(a8 (B2 G N) 4))]:=⟨λa x4 x5 H=>br P .len [9] [a] H λf=>aU (bm P .lss 3 Z x5 f) λx10=>dF (D x10) (aU (ou P 9 a x5) λx15=>aU (bm P .sub 5 C x15 (J .u8 48)) λx16=>En P 5 3 x16 H λx17=>aU (bm P .sub 3 C (J X 9223372036854775807) x17) λb=>aU (bm P .quo 3 C b (J X 10)) λc=>aU (bm P .gtr 3 Z x4 c) λd=>dF (D d) (D (.tuple [J X 0,A Z],H)) (aU (bm P .mul 3 C (J X 10) x4) λe=>aU (bm P .add 3 Z e x17) λx26=>aU (bm P .add 3 C x5 (J X 1)) λx12=>L1 a x26 x12 H)) (B2 G N x4 H),cr ao⟩
def KX(G:aw)(N:Nat):Nat->c6
 |0=>iq
 |n+1=>KW G N (KX G N n)
def Zw(G:aw)(N:Nat):fU Tryz.f154 G N:=⟨_,t1 (ak (ak (ak ((B2 G N).2) (ak (bD (b3 (λm=>(KW G N (KX G N m)).2))) ao)) ao) ao)⟩
def K1(G:aw)(N:Nat):g5 Tryz.f155 G N (·.ag.ag.ag.ag.ag) (bg Tryz.f155) []:=⟨_,v0 ao⟩
def KY(G:aw)(N:Nat)(L2:b_):en 0 1 7 8 Tryz.f155 G N (·.ag.ag.ag.ag.ax.ag.ax.ax) (bT L2 0 1 7 8) [(2,(bh (K1 G N)))]:=⟨_,v4 ao⟩
def K2(G:aw)(N:Nat):Nat->b_
 |0=>fk
 |n+1=>KY G N (K2 G N n)
def K0(G:aw)(N:Nat):g6 0 1 Tryz.f155 G N (·.ag.ag.ag) (bg Tryz.f155) []:=⟨_,v2 (ak (ak ((K1 G N).2) (ak (bD (b3 (λm=>(KY G N (K2 G N m)).2))) ao)) ao)⟩
def KZ(G:aw)(N:Nat)(L3:b_):en 0 1 5 6 Tryz.f155 G N (·.ag.ag.ax.ag.ax.ax) (bT L3 0 1 5 6) [(0,(bo (K0 G N) 0 1))]:=⟨_,v4 ao⟩
def B3(G:aw)(N:Nat):Nat->b_
 |0=>fk
 |n+1=>KZ G N (B3 G N n)
def Zx(G:aw)(N:Nat):fJ Tryz.f155 G N:=⟨λa x1 H=>eK H (D (.aD (H).next 0 5 1 (D 5),.row Z 1 [[F [60,61]],[F [61,61]],[F [33,61]],[F [38,38]],[F [124,124]]])) λb af=>B3 G N N a x1 b (J X 0) af,H7 (ak (ak (ak ((K0 G N).2) (ak (bD (b3 (λm=>(KZ G N (B3 G N m)).2))) ao)) ao) ao)⟩
def Zy(G:aw):rp Tryz.f206 G:=⟨λH=>eK H (D (.aD (H).next 0 18 1 (D 18),.row Z 1 [[F [114,101,99,111,114,100]],[F [103,108,111,98,97,108]],[F [102,117,110,99]],[F [118,97,114]],[F [108,101,116]],[F [105,102]],[F [101,108,115,101]],[F [119,104,105,108,101]],[F [114,101,116,117,114,110]],[F [112,114,105,110,116]],[F [110,117,108,108]],[F [110,101,119]],[F [108,101,110]],[F [114,101,97,100]],[F [116,114,117,101]],[F [102,97,108,115,101]],[F [105,110,116]],[F [98,111,111,108]]])) λx1 af=>D (x1,af),λN=>H6 ao⟩
end
end
section
set_option maxRecDepth 100000
noncomputable section
abbrev j:Nat:=1000000
abbrev lV:={t:h5 // t.Ok eL P}
def a6(m:Nat)(a b:lV):lV:=⟨.node m a.1 b.1,a.2,b.2⟩
def vA{n:Nat}{f:Func}{s:aw->T0}(az:P.funcs[n]? =D f)(h:∀G H,dB f G j (cG []) H=s G H)(a:f.body=D (bw f):=by first|kernel_rfl)(b:fV f.ntmps (bw f)=true:=by first|kernel_rfl)(aH:Nat.ble 0 f.ntmps=true:=by first|kernel_rfl):lV:=⟨.leaf n λG l H=>uR l (s G H),Up (N:=j) ka ⟨az,a,b,aH⟩ h⟩
def eb{n:Nat}{f:Func}{s:aw->T1}(az:P.funcs[n]? =D f)(h:∀G a H,dB f G j (cG [a]) H=s G a H)(b:f.body=D (bw f):=by first|kernel_rfl)(c:fV f.ntmps (bw f)=true:=by first|kernel_rfl)(aH:Nat.ble 1 f.ntmps=true:=by first|kernel_rfl):lV:=⟨.leaf n λG l H=>uS l λa=>s G a H,Uq (N:=j) ka ⟨az,b,c,aH⟩ h⟩
def di{n:Nat}{f:Func}{s:aw->T2}(az:P.funcs[n]? =D f)(h:∀G a b H,dB f G j (cG [a,b]) H=s G a b H)(c:f.body=D (bw f):=by first|kernel_rfl)(d:fV f.ntmps (bw f)=true:=by first|kernel_rfl)(aH:Nat.ble 2 f.ntmps=true:=by first|kernel_rfl):lV:=⟨.leaf n λG l H=>uT l λa b=>s G a b H,Ur (N:=j) ka ⟨az,c,d,aH⟩ h⟩
def hU{n:Nat}{f:Func}{s:aw->c6}(az:P.funcs[n]? =D f)(h:∀G a b c H,dB f G j (cG [a,b,c]) H=s G a b c H)(d:f.body=D (bw f):=by first|kernel_rfl)(e:fV f.ntmps (bw f)=true:=by first|kernel_rfl)(aH:Nat.ble 3 f.ntmps=true:=by first|kernel_rfl):lV:=⟨.leaf n λG l H=>uU l λa b c=>s G a b c H,Us (N:=j) ka ⟨az,d,e,aH⟩ h⟩
def vB{n:Nat}{f:Func}{s:aw->b_}(az:P.funcs[n]? =D f)(h:∀G a b c d H,dB f G j (cG [a,b,c,d]) H=s G a b c d H)(e:f.body=D (bw f):=by first|kernel_rfl)(g:fV f.ntmps (bw f)=true:=by first|kernel_rfl)(aH:Nat.ble 4 f.ntmps=true:=by first|kernel_rfl):lV:=⟨.leaf n λG l H=>uV l λa b c d=>s G a b c d H,Ut (N:=j) ka ⟨az,e,g,aH⟩ h⟩
def H3{n:Nat}{f:Func}{s:aw->dj}(az:P.funcs[n]? =D f)(h:∀G a b c d x H,dB f G j (cG [a,b,c,d,x]) H=s G a b c d x H)(e:f.body=D (bw f):=by first|kernel_rfl)(g:fV f.ntmps (bw f)=true:=by first|kernel_rfl)(aH:Nat.ble 5 f.ntmps=true:=by first|kernel_rfl):lV:=⟨.leaf n λG l H=>zz l λa b c d x=>s G a b c d x H,Uu (N:=j) ka ⟨az,e,g,aH⟩ h⟩
def H9:lV:=(a6 155 (a6 84 (a6 43 (a6 20 (a6 14 (a6 11 (eb Tryz.func11 λG=>(BK G).2 j) (a6 13 (di Tryz.func13 λG=>(KI G j).2) (eb Tryz.func14 λG=>(BZ G).2 j))) (a6 17 (a6 16 (vA Tryz.func16 λG=>(K3 G).2 j) (di Tryz.func17 λG=>(K4 G j).2)) (a6 18 (eb Tryz.func18 λG=>(Ce G j).2) (eb Tryz.func20 λG=>(Cx G j).2)))) (a6 38 (a6 35 (a6 22 (di Tryz.func22 λG=>(CB G).2 j) (eb Tryz.func35 λG=>(kL G).2 j)) (a6 36 (eb Tryz.func36 λG=>(C9 G j).2) (eb Tryz.func38 λG=>(Da G j).2))) (a6 41 (a6 40 (hU Tryz.func40 λG=>(Dc G j).2) (eb Tryz.func41 λG=>(Dd G).2 j)) (a6 42 (eb Tryz.func42 λG=>(De G).2 j) (eb Tryz.func43 λG=>(tU G).2 j))))) (a6 74 (a6 46 (a6 44 (di Tryz.func44 λG=>(Df G).2 j) (a6 45 (di Tryz.func45 λG=>(Dg G).2 j) (di Tryz.func46 λG=>(Dh G j).2))) (a6 58 (a6 47 (di Tryz.func47 λG=>(Dj G).2 j) (eb Tryz.func58 λG=>(Zz G j).2)) (a6 73 (eb Tryz.func73 λG=>(Dr G j).2) (di Tryz.func74 λG=>(Ds G j).2)))) (a6 78 (a6 76 (a6 75 (eb Tryz.func75 λG=>(Du G j).2) (eb Tryz.func76 λG=>(Dw G j).2)) (a6 77 (eb Tryz.func77 λG=>(Dy G j).2) (di Tryz.func78 λG=>(Dz G).2 j))) (a6 80 (a6 79 (eb Tryz.func79 λG=>(DA G j).2) (eb Tryz.func80 λG=>(DH G j).2)) (a6 81 (di Tryz.func81 λG=>(yB G j).2) (di Tryz.func84 λG=>(DJ G).2 j)))))) (a6 128 (a6 100 (a6 94 (a6 85 (di Tryz.func85 λG=>(DK G).2 j) (a6 93 (hU Tryz.func93 λG=>(DL G).2 j) (di Tryz.func94 λG=>(DM G).2 j))) (a6 98 (a6 97 (di Tryz.func97 λG=>(ZA G j).2) (hU Tryz.func98 λG=>(DN G).2 j)) (a6 99 (di Tryz.func99 λG=>(DO G).2 j) (di Tryz.func100 λG=>(BH G).2 j)))) (a6 124 (a6 112 (a6 101 (di Tryz.func101 λG=>(BI G j).2) (di Tryz.func112 λG=>(Zp G j).2)) (a6 113 (di Tryz.func113 λG=>(Zq G).2 j) (di Tryz.func124 λG=>(mZ G).2 j))) (a6 126 (a6 125 (eb Tryz.func125 λG=>(BM G).2 j) (di Tryz.func126 λG=>(BN G j).2)) (a6 127 (eb Tryz.func127 λG=>(BO G j).2) (eb Tryz.func128 λG=>(BQ G).2 j))))) (a6 146 (a6 131 (a6 129 (di Tryz.func129 λG=>(BR G).2 j) (a6 130 (vB Tryz.func130 λG=>(BS G j).2) (eb Tryz.func131 λG=>(BT G).2 j))) (a6 133 (a6 132 (eb Tryz.func132 λG=>(BU G j).2) (di Tryz.func133 λG=>(xa G).2 j)) (a6 134 (di Tryz.func134 λG=>(BY G j).2) (di Tryz.func146 λG=>(B0 G j).2)))) (a6 151 (a6 149 (a6 147 (di Tryz.func147 λG=>(xe G).2 j) (eb Tryz.func149 λG=>(Zr G).2 j)) (a6 150 (hU Tryz.func150 λG=>(Zs G j).2) (eb Tryz.func151 λG=>(Zt G j).2))) (a6 153 (a6 152 (eb Tryz.func152 λG=>(Zu G j).2) (eb Tryz.func153 λG=>(Zv G).2 j)) (a6 154 (eb Tryz.func154 λG=>(Zw G j).2) (di Tryz.func155 λG=>(Zx G j).2))))))) (a6 220 (a6 181 (a6 173 (a6 169 (a6 167 (vA Tryz.func167 λG=>(B4 G).2 j) (a6 168 (hU Tryz.func168 λG=>(B5 G).2 j) (H3 Tryz.func169 λG=>(B6 G).2 j))) (a6 171 (a6 170 (di Tryz.func170 λG=>(B7 G).2 j) (di Tryz.func171 λG=>(B8 G j).2)) (a6 172 (di Tryz.func172 λG=>(xg G).2 j) (di Tryz.func173 λG=>(B_ G).2 j)))) (a6 177 (a6 175 (a6 174 (di Tryz.func174 λG=>(Ca G).2 j) (di Tryz.func175 λG=>(Cb G).2 j)) (a6 176 (di Tryz.func176 λG=>(xh G).2 j) (di Tryz.func177 λG=>(Cc G).2 j))) (a6 179 (a6 178 (vB Tryz.func178 λG=>(Cd G).2 j) (vB Tryz.func179 λG=>(o7 G).2 j)) (a6 180 (di Tryz.func180 λG=>(o8 G j).2) (di Tryz.func181 λG=>(xk G).2 j))))) (a6 188 (a6 184 (a6 182 (eb Tryz.func182 λG=>(Cf G j).2) (a6 183 (eb Tryz.func183 λG=>(Ch G j).2) (hU Tryz.func184 λG=>(Cj G).2 j))) (a6 186 (a6 185 (eb Tryz.func185 λG=>(Ck G j).2) (eb Tryz.func186 λG=>(Cm G j).2)) (a6 187 (di Tryz.func187 λG=>(Co G j).2) (di Tryz.func188 λG=>(Cq G j).2)))) (a6 206 (a6 190 (a6 189 (eb Tryz.func189 λG=>(Cs G j).2) (di Tryz.func190 λG=>(xB G).2 j)) (a6 191 (hU Tryz.func191 λG=>(Cv G j).2) (vA Tryz.func206 λG=>(Zy G).2 j))) (a6 218 (a6 217 (eb Tryz.func217 λG=>(gV G).2 j) (eb Tryz.func218 λG=>(Cy G).2 j)) (a6 219 (di Tryz.func219 λG=>(Cz G j).2) (hU Tryz.func220 λG=>(xH G).2 j)))))) (a6 246 (a6 227 (a6 223 (a6 221 (hU Tryz.func221 λG=>(tp G).2 j) (a6 222 (di Tryz.func222 λG=>(CC G).2 j) (eb Tryz.func223 λG=>(tq G).2 j))) (a6 225 (a6 224 (eb Tryz.func224 λG=>(CE G).2 j) (hU Tryz.func225 λG=>(CF G j).2)) (a6 226 (di Tryz.func226 λG=>(CH G j).2) (hU Tryz.func227 λG=>(CJ G).2 j)))) (a6 242 (a6 240 (a6 228 (di Tryz.func228 λG=>(CK G j).2) (H3 Tryz.func240 λG=>(eT G).2 j)) (a6 241 (di Tryz.func241 λG=>(CM G).2 j) (di Tryz.func242 λG=>(CN G).2 j))) (a6 244 (a6 243 (di Tryz.func243 λG=>(tw G).2 j) (hU Tryz.func244 λG=>(CO G j).2)) (a6 245 (eb Tryz.func245 λG=>(CQ G).2 j) (vB Tryz.func246 λG=>(CR G).2 j))))) (a6 253 (a6 249 (a6 247 (hU Tryz.func247 λG=>(CS G).2 j) (a6 248 (hU Tryz.func248 λG=>(qS G).2 j) (eb Tryz.func249 λG=>(CT G).2 j))) (a6 251 (a6 250 (di Tryz.func250 λG=>(CV G j).2) (hU Tryz.func251 λG=>(CW G j).2)) (a6 252 (di Tryz.func252 λG=>(CX G).2 j) (di Tryz.func253 λG=>(CY G).2 j)))) (a6 261 (a6 259 (a6 258 (eb Tryz.func258 λG=>(CZ G j).2) (di Tryz.func259 λG=>(xT G).2 j)) (a6 260 (hU Tryz.func260 λG=>(tJ G).2 j) (di Tryz.func261 λG=>(C0 G j).2))) (a6 282 (a6 281 (hU Tryz.func281 λG=>(C2 G).2 j) (hU Tryz.func282 λG=>(C3 G).2 j)) (a6 283 (eb Tryz.func283 λG=>(C4 G).2 j) (di Tryz.func284 λG=>(C5 G).2 j))))))))
def H_:lV:=(a6 13 (di Tryz.func13 λG=>(KI G j).2) (a6 16 (vA Tryz.func16 λG=>(K3 G).2 j) (di Tryz.func17 λG=>(K4 G j).2)))
abbrev T3:h5:=H9.1
def qi:T3.Ok eL P:=H9.2
abbrev T4:h5:=H_.1
def T5:T4.Ok eL P:=H_.2
