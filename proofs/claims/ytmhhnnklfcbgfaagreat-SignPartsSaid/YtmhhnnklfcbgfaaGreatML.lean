/-
  Texts of one proof, laid together: ShD SgF Pa Pb Pc Pd ShG SgL.
-/
import Derived.Test.YtmhhnnklfcbgfaaGreatMK
set_option linter.unusedVariables false
set_option linter.unusedSimpArgs false
set_option linter.defProp false
open Option renaming some→D,none→I
open Bool renaming true→C,false→Z
open Go.bz.ae renaming int→J,bool→A
open Go.IntKind renaming i64→X
namespace Go.Proofs.YtmhhnnklfcbgfaaGreat
open Go.bz
section
set_option maxRecDepth 100000
set_option maxHeartbeats 4000000
noncomputable section
def uj(G:aw)(N:Nat):et 3 Tryz.f77 G N (·.ag.ag.ag.ag) (bg Tryz.f77) []:=⟨_,v1 ao⟩
def uk(G:aw)(N:Nat)(L1:b_):en 3 20 21 22 Tryz.f77 G N (·.ag.ag.ag.ax.ag.ax.ax.ag.ag.ag) (bT L1 3 20 21 22) [(0,(a8 (uj G N) 3))]:=⟨_,v4 ao⟩
def yx(G:aw)(N:Nat)(L1:b_)(L3:fI):kX 3 20 21 22 36 37 38 Tryz.f77 G N (·.ag.ag.ag.ax.ag.ax.ax.ag.ag.ax.ax.ag.ag.ag.ax.ax) (ea L3 3 20 21 22 36 37 38) [(2,(bT (uk G N L1) 3 20 21 22)),(1,(bT (uk G N L1) 3 20 21 22)),(0,(a8 (uj G N) 3))]:=⟨_,kQ ao⟩
def uo(G:aw)(N:Nat)(L1:b_):Nat->fI
 |0=>pB
 |n+1=>yx G N L1 (uo G N L1 n)
def yw(G:aw)(N:Nat)(L1:b_):en 3 20 21 22 Tryz.f77 G N (·.ag.ag.ag.ax.ag.ax.ax) (bT L1 3 20 21 22) [(0,(a8 (uj G N) 3))]:=⟨_,mJ (ak (ak (ak ((uk G N L1).2) (bD (ak (ak (ak (bD (b3 (λm=>(yx G N L1 (uo G N L1 m)).2))) ao) ao) ao))) ao) ao)⟩
def um(G:aw)(N:Nat):Nat->b_
 |0=>fk
 |n+1=>yw G N (um G N n)
def Dy(G:aw)(N:Nat):fU Tryz.f77 G N:=⟨_,nx (ak (ak (ak (ak ((uj G N).2) (ak (bD (b3 (λm=>(yw G N (um G N m)).2))) ao)) ao) ao) ao)⟩
def Za(N:Nat):=dZ Tryz.func77 λG=>(Dy G N).2
def DJ(G:aw):ev Tryz.f84 G:=⟨_,λN=>p6 ao (x:=trivial)⟩
def Zf(N:Nat):=dc Tryz.func84 λG=>(DJ G).2 N
def DK(G:aw):ev Tryz.f85 G:=⟨_,λN=>t2 ao⟩
def Zg(N:Nat):=dc Tryz.func85 λG=>(DK G).2 N
def DN(G:aw):iB Tryz.f98 G:=⟨_,λN=>t3 ao⟩
def Zk(N:Nat):=g0 Tryz.func98 λG=>(DN G).2 N
def BP(G:aw)(N:Nat):et 3 Tryz.f127 G N (·.ag.ag.ag) (bg Tryz.f127) []:=⟨_,v1 ao⟩
def wQ(G:aw)(N:Nat)(L1:b_):en 3 8 9 10 Tryz.f127 G N (·.ag.ag.ax.ag.ax.ax) (bT L1 3 8 9 10) [(0,(a8 (BP G N) 3))]:=⟨_,mJ ao (x:=trivial)⟩
def qF(G:aw)(N:Nat):Nat->b_
 |0=>fk
 |n+1=>wQ G N (qF G N n)
def BO(G:aw)(N:Nat):fU Tryz.f127 G N:=⟨λa H=>eK H (fe (H).next a) λx1 af=>eK af (D (.aD (af).next 0 1 1 (D 1),.row Z 1 [[J X 0]])) λx6 ah=>aU (bN P 27 x1 2) λx7=>aU (aI P ah 24 x7) λx8=>br P .len [24] [x8] ah λb=>qF G N N x6 x8 b (J X 0) ah,vC (ak (ak (ak ((BP G N).2) (ak (bD (b3 (λm=>(wQ G N (qF G N m)).2))) ao)) ao) ao)⟩
def Xv(N:Nat):=dZ Tryz.func127 λG=>(BO G N).2
def BQ(G:aw):gM Tryz.f128 G:=⟨_,λN=>nx ao (x:=trivial)⟩
def Xw(N:Nat):=dZ Tryz.func128 λG=>(BQ G).2 N
def BT(G:aw):gM Tryz.f131 G:=⟨_,λN=>nx ao (x:=trivial)⟩
def Xz(N:Nat):=dZ Tryz.func131 λG=>(BT G).2 N
def nZ(G:aw):nk 0 3 5 9 Tryz.f129 G (·.ag.ag.ax.ag) (bg Tryz.f129) [(0,(bg Tryz.f129))]:=⟨_,λN=>mJ ao⟩
def BR(G:aw):ev Tryz.f129 G:=⟨_,λN=>t2 (ak (ak (bD (ak ((nZ G).2 N) ao)) ao) ao)⟩
def Xx(N:Nat):=dc Tryz.func129 λG=>(BR G).2 N
def B6(G:aw):EK Tryz.f169 G:=⟨_,λN=>t5 ao⟩
def XI(N:Nat):=Kp Tryz.func169 λG=>(B6 G).2 N
def B7(G:aw):ev Tryz.f170 G:=⟨_,λN=>t2 ao⟩
def XJ(N:Nat):=dc Tryz.func170 λG=>(B7 G).2 N
def sZ(G:aw)(N:Nat):g6 0 3 Tryz.f171 G N (·.ag.ag) (bg Tryz.f171) []:=⟨_,hk ao⟩
def B9(G:aw)(N:Nat)(L1:dj):gk 0 3 7 8 9 Tryz.f171 G N (·.ag.ax.ag.ax.ax.ag.ag.ag) (cn L1 0 3 7 8 9) [(0,(bo (sZ G N) 0 3))]:=⟨_,v5 ao⟩
def xf(G:aw)(N:Nat)(L1:dj):gk 0 3 7 8 9 Tryz.f171 G N (·.ag.ax.ag.ax.ax) (cn L1 0 3 7 8 9) [(0,(bo (sZ G N) 0 3))]:=⟨_,ny (ak (ak (ak ((B9 G N L1).2) ao) ao) ao)⟩
def s0(G:aw)(N:Nat):Nat->dj
 |0=>jc
 |n+1=>xf G N (s0 G N n)
def B8(G:aw)(N:Nat):fJ Tryz.f171 G N:=⟨_,t2 (ak (ak ((sZ G N).2) (ak (bD (b3 (λm=>(xf G N (s0 G N m)).2))) ao)) ao)⟩
def XK(N:Nat):=dc Tryz.func171 λG=>(B8 G N).2
def xg(G:aw):ev Tryz.f172 G:=⟨_,λN=>t2 ao⟩
def XL(N:Nat):=dc Tryz.func172 λG=>(xg G).2 N
def B_(G:aw):ev Tryz.f173 G:=⟨_,λN=>t2 ao⟩
def XM(N:Nat):=dc Tryz.func173 λG=>(B_ G).2 N
def Ca(G:aw):ev Tryz.f174 G:=⟨_,λN=>t2 ao⟩
def XN(N:Nat):=dc Tryz.func174 λG=>(Ca G).2 N
def Cb(G:aw):ev Tryz.f175 G:=⟨_,λN=>p6 ao⟩
def XO(N:Nat):=dc Tryz.func175 λG=>(Cb G).2 N
end
end
end Go.Proofs.YtmhhnnklfcbgfaaGreat
namespace Go.a2
open Go.bz
structure kT(x:bj)(f:Nat)(c:bH):Prop where
 r:eO x
 at_:x.ay[f]? =some c
def kT.ok{x:bj}{f:Nat}{c:bH}(h:kT x f c):Et x f c:=jZ (h.r.code h.at_)
section
variable {x:bj}{f:Nat}{c:bH}{i:In}
def abf(h:dy x f c i=C):1<=i.op/\i.op<=20:=by
 unfold dy at h;simp only[Bool.and_eq_true]at h;obtain⟨_,h⟩:=h;split at h<;>first|omega|cases h
def DY(aR:i.op=3)(h:dy x f c i=C):aY c i.a≠bl/\aY c i.a=aY c i.b:=by
 unfold dy at h;simp only[Bool.and_eq_true,aR,decide_eq_true_eq]at h;exact h.2
def DZ(aR:i.op=6)(h:dy x f c i=C):aY c i.a≠bl/\aY c i.a=eD x (aY c i.b) i.c:=by
 unfold dy at h;simp only[Bool.and_eq_true,aR,decide_eq_true_eq]at h;exact h.2
def D0(aR:i.op=7)(h:dy x f c i=C):aY c i.b≠bl/\aY c i.b=eD x (aY c i.a) i.c:=by
 unfold dy at h;simp only[Bool.and_eq_true,aR,decide_eq_true_eq]at h;exact h.2
def D1(aR:i.op=8)(h:dy x f c i=C):aY c i.a≠bl/\0<(aY c i.b).d/\aY c i.c=cL/\aY c i.a=less (aY c i.b):=by
 unfold dy at h;simp only[Bool.and_eq_true,aR,decide_eq_true_eq]at h;exact h.2
def D2(aR:i.op=9)(h:dy x f c i=C):aY c i.c≠bl/\0<(aY c i.a).d/\aY c i.b=cL/\aY c i.c=less (aY c i.a):=by
 unfold dy at h;simp only[Bool.and_eq_true,aR,decide_eq_true_eq]at h;exact h.2
def uy(aR:i.op=11)(h:dy x f c i=C):(aY c i.a≠bl/\(aY c i.a).b=3/\(aY c i.a).d=0)/\hP x f i.n (aY c i.a)=true:=by
 unfold dy at h;simp only[Bool.and_eq_true,aR,decide_eq_true_eq]at h;exact h.2
def uz(aR:i.op=12)(h:dy x f c i=C):(0<(aY c i.a).d/\aY c i.b=cL)/\hP x f i.n (aY c i.a)=true:=by
 unfold dy at h;simp only[Bool.and_eq_true,aR,decide_eq_true_eq]at h;exact h.2
def uA(aR:i.op=13)(h:dy x f c i=C):∃g,Er x c i g:=by
 unfold dy at h;simp only[Bool.and_eq_true,aR]at h;exact O8 h.2
def aa6(aR:i.op=18)(h:dy x f c i=C):(c.has=C/\aY c i.a≠bl/\aY c i.a=c.res)\/(c.has=Z/\i.a= -1):=by
 unfold dy at h;simp only[Bool.and_eq_true,aR]at h;obtain⟨_,h⟩:=h;cases aq:c.has with
 |true=>rw[aq]at h;simp only[gP,decide_eq_true_eq]at h;exact .inl ⟨rfl,h⟩
 |false=>rw[aq]at h;simp only[jY,beq_iff_eq]at h;exact .inr ⟨rfl,h⟩
def yO(aR:i.op=19)(h:dy x f c i=C):aY c i.a≠bl/\dI x.globals i.n=D (aY c i.a):=by
 unfold dy at h;simp only[Bool.and_eq_true,aR,decide_eq_true_eq]at h;exact h.2
def yP(aR:i.op=20)(h:dy x f c i=C):aY c i.a≠bl/\dI x.globals i.n=D (aY c i.a):=by
 unfold dy at h;simp only[Bool.and_eq_true,aR,decide_eq_true_eq]at h;exact h.2
def p5{t:cv}(h:0<t.d):t≠bl:=by rintro rfl;revert h;decide
def vi{k:Int}{t:cv}(h:eD x t k≠bl):t≠bl:=by
 rintro rfl;revert h;simp[eD,lE,bl]
def kT.node(w:kT x f c){v:Int}(h:aY c v≠bl):bK x.ay f+v.toNat<ck x:=by
 have:=ra w.at_ (Jm h).2.1;unfold ck;omega
def kT.res(w:kT x f c):fQ x f<ck x:=by
 have:=(List.getElem?_eq_some_iff.1 w.at_).1;unfold fQ ck;omega
def Hn{t:cv}{n:Int}(h:dI x.globals n=D t):fl x n.toNat<ck x:=by
 have:=(l1 h).2.1;unfold fl ck;omega
def E_{at_ to:Nat}{k:bB}:∀{l:List Int} {j:Nat},k∈jd c at_ to l j->∃(m:Nat) (v:Int),l[m]? =D v/\ep c v=C/\k= .copy (to+(j+m)) (at_+v.toNat)
 |[],j,h=>by simp[jd]at h
 |v::l,j,h=>by
  simp only[jd,List.mem_append]at h;rcases h with h|h
  ·cases a:ep c v with
   |true=>
    rw[a]at h;simp only[gP,List.mem_singleton]at h;exact⟨0,v,rfl,a,h⟩
   |false=>rw[a]at h;simp at h
  ·obtain⟨m,w,af,ah,an⟩:=E_ h;exact⟨m+1,w,by simpa using af,ah,by rw[an];congr 1;omega⟩
def mR{α:Type}{b:Bool}{a k:α}(h:k∈(bif b then[a]else[])):b=C/\k=a:=by
 cases b with
 |true=>exact⟨rfl,by simpa using h⟩
 |false=>simp at h
def kT.acR(w:kT x f c)(h:dy x f c i=C):gE (ck x) x.sites.length (ei x f c i):=by
 intro k d;unfold ei at d;simp only at d;split at d
 ·rename_i aR;obtain⟨af,ah⟩:=DY aR h;obtain⟨_,rfl⟩:=mR d;exact⟨w.node af,w.node (ah▸af)⟩
 ·rename_i aR;obtain⟨af,ah⟩:=DZ aR h;obtain⟨_,rfl⟩:=mR d;have an:eD x (aY c i.b) i.c≠bl:=ah▸af;exact⟨w.node af,w.node (vi an),(vh w.r an).2⟩
 ·rename_i aR;obtain⟨af,ah,_,_⟩:=D1 aR h;obtain⟨_,rfl⟩:=mR d;exact⟨w.node af,w.node (p5 ah),by omega⟩
 ·rename_i aR;obtain⟨af,ah⟩:=D0 aR h;obtain⟨_,rfl⟩:=mR d;have an:eD x (aY c i.a) i.c≠bl:=ah▸af;exact⟨w.node (vi an),w.node af,(vh w.r an).2⟩
 ·rename_i aR;obtain⟨af,ah,_,_⟩:=D2 aR h;obtain⟨_,rfl⟩:=mR d;exact⟨w.node (p5 ah),w.node af,by omega⟩
 ·rename_i aR;obtain⟨af,ah⟩:=uy aR h;simp only[List.mem_singleton]at d;subst d;exact⟨w.node af.1,(nq ah).2.1⟩
 ·rename_i aR;obtain⟨af,ah⟩:=uz aR h;simp only[List.mem_singleton]at d;subst d;exact⟨w.node (p5 af.1),(nq ah).2.1⟩
 ·rename_i aR;obtain⟨g,aP⟩:=uA aR h;have j:kT x i.c.toNat g:=⟨w.r,aP.at_.2⟩;rcases List.mem_append.1 d with d|d
  ·obtain⟨m,v,af,ah,rfl⟩:=E_ d;obtain⟨an,aM⟩:=aP.arg af;have e:=(List.getElem?_eq_some_iff.1 aM).1;have l:=ra aP.at_.2 e;refine⟨?_,w.node an⟩;unfold ck;omega
  ·obtain⟨af,rfl⟩:=mR d;simp only[Bool.and_eq_true]at af;exact⟨w.node (wy af.2),j.res⟩
 ·rename_i aR;obtain⟨af,rfl⟩:=mR d;simp only[Bool.and_eq_true]at af;exact⟨w.res,w.node (wy af.2)⟩
 ·rename_i aR;obtain⟨af,ah⟩:=yO aR h;obtain⟨_,rfl⟩:=mR d;exact⟨w.node af,Hn ah⟩
 ·rename_i aR;obtain⟨af,ah⟩:=yP aR h;obtain⟨_,rfl⟩:=mR d;exact⟨Hn ah,w.node af⟩
 ·simp at d
def Gf{k:bB}:∀{cs:List bH} {f:Nat},k∈k8 x cs f->∃j c i,cs[j]? =D c/\i∈c.ins/\k∈ei x (f+j) c i
 |[],f,h=>by simp[k8]at h
 |c::cs,f,h=>by
  simp only[k8,List.mem_append,vc,List.mem_flatMap]at h;rcases h with⟨i,af,ah⟩|h
  ·exact⟨0,c,i,rfl,af,ah⟩
  ·obtain⟨j,d,i,af,ah,an⟩:=Gf h;exact⟨j+1,d,i,by simpa using af,ah,by rwa[show f+(j+1)=f+1+j by omega]⟩
def Gh(au:eO x):gE (ck x) x.sites.length (cons x):=by
 intro k a;obtain⟨j,c,i,af,ah,an⟩:=Gf a;rw[Nat.zero_add]at an;have w:kT x j c:=⟨au,af⟩;exact w.acR (w.ok.ins ah) k an
end
end Go.a2
namespace Go.Proofs.YtmhhnnklfcbgfaaGreat
open Go.bz
section
open Go.a2
set_option maxRecDepth 2000
section
variable {H:ad}{ok:Nat->Prop}{x:bj}
def py{cE:List Nat}{T:List eP}{H:ad}:∀{S:List eP},(∀H'∈ct T H,av H H')->(∀t∈S,∀v,t.k= .read v->cE.contains t.i=C\/∀H',av H H'->bF (t.rd H') v=C)->re cE T H S
 |[],_,_=>trivial
 |t::ts,af,ah=>⟨λv a=>(ah t (by simp) v a).imp id λh H' hm=>h H' (af H' hm),py af λb a1=>ah b (by simp[a1])⟩
def wD(au:eO x){g:bH}(aP:g∈x.ay):g.vars.length<=4000:=by
 obtain⟨f,az⟩:=List.getElem?_of_mem aP;exact(jZ (au.code az)).vars
def mV(au:eO x):∀g∈x.ay,g.vars.length<=1000000000:=λg aP=>by have:=wD au aP;omega
def r0:∀{cs:List bH} {c:bH},c∈cs->c.ins.length<=fW cs
 |[],_,h=>by simp at h
 |d::cs,c,h=>by
  rw[fW];rcases List.mem_cons.1 h with rfl|h
  ·omega
  ·have:=r0 h;omega
def qw(h:right x=C):fW x.ay<=2500:=by
 unfold right at h;simp only[Bool.and_eq_true,decide_eq_true_eq]at h;exact h.2.2.2.2.2.1
def mW(h:right x=C):∀c∈x.ay,c.ins.length<=1000000000:=λc aq=>by have:=r0 aq;have:=qw h;omega
def rb(au:eO x):∀k,bK x.ay k<=4000*k
 |0=>by simp[bK]
 |k+1=>by
  have a:=rb au k;rw[bK];cases h:x.ay[k]? with
  |none=>simp;omega
  |some c=>have:=wD au (List.mem_of_getElem? h);simp;omega
def l0(au:eO x):fb x.ay<=64000:=by
 have:=rb au x.ay.length;have:=au.ay;unfold fb;omega
def jK(x:bj)(k:Nat):List Int:=(List.range (k+1)).map λj=>(bK x.ay j:Int)
def Je(x:bj)(k:Nat):(jK x k).length=k+1:=by simp[jK]
def qp(x:bj){k j:Nat}(h:j<=k):(jK x k)[j]? =D (bK x.ay j:Int):=by
 unfold jK;rw[List.getElem?_map,List.getElem?_range aa];rfl
def VM(x:bj)(k:Nat):jK x (k+1)=jK x k++[(bK x.ay (k+1):Int)]:=by
 unfold jK;rw[List.range_succ (n:=k+1),List.map_append];rfl
def Jg(au:eO x){cc:ae}{B:Nat}{N:Nat}:∀(j k m:Nat) (H:ad) (v:ae),k+j=x.ay.length->j<m->bq aT B bk H (jK x k) v->B<=H.next->aO fC H (· <B) x.ay cc->
  W (qF (aQ P aK) N m v cc (J X x.ay.length) (J X k) H) λr H'=>bq aT B bk H' (jK x x.ay.length) r/\cT B H H'
 |_,_,0,_,_,_,hm,_,_,_=>aa
 |0,k,m+1,H,v,u,_,al,h,an=>by
  have b:¬(k:Int)<(x.ay.length:Int):=aa;simp-implicitDefEqProofs(disch:=try exact ai)only[qF,wQ,BP,aj,aC,b,decide_false];have e:k=x.ay.length:=aa;subst e;exact aG.2 ⟨al,.refl _ _⟩
 |j+1,k,m+1,H,v,u,R,al,h,an=>by
  have b:(k:Int)<(x.ay.length:Int):=aa;have d:k<x.ay.length:=aa;have Q:=au.ay;obtain⟨pp,gv,gw,E,G,bR,b0⟩:=an.p3 (j:=(k:Int)) (g:=x.ay[k]) aa (by simp[d]);have y:bK x.ay (k+1)=bK x.ay k+x.ay[k].vars.length:=yZ (by simp[d]);have T:=wD au (List.getElem_mem d);have S:=rb au k;have on:=Jg au (cc:=cc) (B:=B) (N:=N) j (k+1) m;rw[VM,y]at on;generalize x.ay[k]=c at*;have st:=pv (c:=c) (v:=gv) (w:=gw) (ad.a_ H (.row Z 7 [[J X 0,.aB,A Z,J X 0,J X 0,J X 0,.aB]])) bR.one b0.one;have l:=av.push H (.row Z 7 [cW c gv gw]);have cg:=ad.a_ H (.row Z 7 [cW c gv gw]);have z:=hH cg
  have i:=al.aE l;obtain⟨p,i1,i2⟩:=i.aD.int (j:=(k:Int)) (a:=(bK x.ay k:Int)) aa (by simpa using qp x (bC k));have L:IntKind.i64.wrap (((k+1:Nat):Int)-1)=(k:Int):=by rw[wrap_i64 aa aa];omega
  have M:IntKind.i64.wrap ((bK x.ay k:Int)+(c.vars.length:Int))=((bK x.ay k+c.vars.length:Nat):Int):=by rw[wrap_i64 aa aa];omega
  have hlen:=al.aD.len b6 (H0:= .empty);rw[Je]at hlen;obtain⟨K,H',f,n,o,q,_⟩:=i.l6 (a:=((bK x.ay k+c.vars.length:Nat):Int)) (by simp;omega) (by rw[Je];omega);have hle:((H.push (.row Z 7 [cW c gv gw])).push (.row Z 1 [[J X ((bK x.ay k+c.vars.length:Nat):Int)]])).next<=H'.next:=by simp;simp at q;omega
  simp only[kG]at f;simp-implicitDefEqProofs(disch:=try exact ai)only[qF,wQ,br,Nat.reduceAdd,aj,aJ,aC,aL,ad.dm,b,decide_true,E,G _ (av.refl _),st,ad.ga,hlen,L,i1,i2,z,bR.len cX,M,ej,f];have pu:cT B H H':=(eH l h).trans o;simp-implicitDefEqProofs(disch:=try exact ai)only[cq (show k<=1000000000 by omega)];refine(on H' K aa aa n (by have:=pu.1;omega) (an.gy pu)).mono ?_;rintro r O ⟨s,t⟩;exact⟨s,pu.trans t⟩
def Bb(au:eO x){V:ae}(aA:cM H ok x V):W (aQ P aK 127 [V] H) λr H'=>bq aT H.next bk H' (jK x x.ay.length) r/\av H H':=by
 obtain⟨_,rfl,a,b,cc,d,rfl,af,ah,an,aM⟩:=aA;refine Xv (x.ay.length+1) ?_;have s:=av.push H (.row Z 5 [[a,b,cc,d,J X x.main]]);have o:=ad.a_ H (.row Z 5 [[a,b,cc,d,J X x.main]]);have j:=av.push (H.push (.row Z 5 [[a,b,cc,d,J X x.main]])) (.row Z 1 [[J X 0]]);have f:=s.trans j;simp-implicitDefEqProofs(disch:=try exact ai)only[BO,br,aj,aJ,aL,ad.dm,dV af ah an aM,dA (j.get o),an.len cI];have q:bq aT H.next bk ((H.push (.row Z 5 [[a,b,cc,d,J X x.main]])).push (.row Z 1 [[J X 0]])) (jK x 0) (.aD (H.next+1) 0 1 1 (D 1)):=⟨.inr ⟨H.next+1,[[J X 0]],D 1,rfl,trivial,ad.a_ _ _,by simp[jK],.inr rfl,λi a h=>by
  rcases i with _|i
  ·cases h;exact⟨_,rfl,rfl⟩
  ·simp[jK]at h⟩,λL n c e=>by cases e;omega⟩
 refine(Jg au (B:=H.next) x.ay.length 0 (x.ay.length+1) _ _ aa aa q f.1 (an.below.keep λk b p g=>⟨p,f.get g⟩)).mono ?_;rintro r t ⟨l,m⟩;exact⟨l,cT.aE ((eH f (bC _)).trans m)⟩
def yY(au:eO x){V:ae}(aA:cM H ok x V):W (aQ P aK 128 [V] H) λr H'=>r= J X (fb x.ay)/\av H H':=by
 have i:=aA;obtain⟨_,rfl,a,b,cc,d,rfl,af,ah,an,aM⟩:=aA;refine Xw 0 ?_;have f:=av.push H (.row Z 5 [[a,b,cc,d,J X x.main]]);have e:=ad.a_ H (.row Z 5 [[a,b,cc,d,J X x.main]]);simp-implicitDefEqProofs(disch:=try exact ai)only[BQ,aj,dV af ah an aM,cH e];refine aZ (Bb au (i.aE f)) ?_;rintro nv K ⟨g,p⟩;refine⟨p.1,?_⟩;obtain⟨q,i1,i2⟩:=g.aD.int (j:=(x.ay.length:Int)) (a:=(fb x.ay:Int)) aa (by simpa [fb]using qp x (bC x.ay.length));have k:bF (D (.agg [a,b,cc,d,J X x.main])) (.agg [a,b,cc,d,J X x.main])=true:=by simp[bF,ae.beq,er.beq,af.rd,ah.rd,an.rd,aM.rd]
 simp-implicitDefEqProofs(disch:=try exact ai)only[aj,aJ,aL,dA (p.get e),an.len cI,i1,i2];refine cO (cP aF ?_) (aG.2 ⟨rfl,f.trans p⟩);refine py ?_ ?_
 ·simp only[ct,bz.K.heap,List.forall_mem_cons]
  repeat' first|exact av.refl _|exact p|(intro _ h;cases h;done)|refine ar ?_ ?_
 ·simp only[List.forall_mem_cons]
  repeat' first|(intro v c;cases c;done)|(intro v c;exact .inl rfl)|(intro v c;cases c;refine .inr λH' p=> ?_;simp only[dA (p.get e),eI an];done)|(intro _ h;cases h;done)|refine ar ?_ ?_
def P1(au:right x=C){V:ae}(aA:cM H ok x V):W (aQ P aK 131 [V] H) λr H'=>r= J X (ck x:Nat)/\av H H':=by
 have j:=aA;have c:=gA au;have o:=l0 c;have q:=c.ay;have s:=c.globals;obtain⟨_,rfl,a,b,cc,d,rfl,af,ah,an,aM⟩:=aA;refine Xz 0 ?_;have i:=av.push H (.row Z 5 [[a,b,cc,d,J X x.main]]);have e:=ad.a_ H (.row Z 5 [[a,b,cc,d,J X x.main]]);have t:bF (D (.agg [a,b,cc,d,J X x.main])) (.agg [a,b,cc,d,J X x.main])=true:=by simp[bF,ae.beq,er.beq,af.rd,ah.rd,an.rd,aM.rd]
 simp-implicitDefEqProofs(disch:=try exact ai)only[BT,aj,dV af ah an aM,cH e];refine aZ (oO (j.aE i) (mV c) (mW au)) ?_;rintro _ K ⟨rfl,p⟩;refine⟨p.1,?_⟩;rw[au];simp-implicitDefEqProofs(disch:=try exact ai)only[aj,Bool.not_true,cH (p.get e)];refine aZ (yY c ((j.aE i).aE p)) ?_;rintro _ n ⟨rfl,g⟩;refine⟨g.1,?_⟩;have k:=p.trans g;have l:IntKind.i64.wrap ((fb x.ay:Int)+(x.ay.length:Int))=((fb x.ay+x.ay.length:Nat):Int):=by rw[wrap_i64 aa aa];omega
 have m:IntKind.i64.wrap (((fb x.ay+x.ay.length:Nat):Int)+(x.globals.length:Int))=((ck x:Nat):Int):=by rw[wrap_i64 aa aa,ck];omega
 simp-implicitDefEqProofs(disch:=try exact ai)only[aj,aJ,aC,aL,dA (k.get e),an.len cI,ah.len cX,l,m];refine cO (cP aF ?_) (aG.2 ⟨rfl,i.trans k⟩);refine py ?_ ?_
 ·simp only[ct,bz.K.heap,List.forall_mem_cons]
  repeat' first|exact av.refl _|exact g|(intro _ h;cases h;done)|refine ar ?_ ?_
 ·simp only[List.forall_mem_cons]
  repeat' first|(intro v f;cases f;done)|(intro v f;exact .inl rfl)|(intro v f;cases f;refine .inr λH' p=> ?_;simp only[dA (p.get (av.get ‹_› e)),eI an,eI ah];done)|(intro _ h;cases h;done)|refine ar ?_ ?_
def SL(au:right x=C){V:ae}(aA:cM H ok x V){g:Nat}(aP:g<x.globals.length):W (aQ P aK 84 [V,J X (g:Nat)] H) λr H'=>r= J X (fl x g:Nat)/\av H H':=by
 have k:=aA;have e:=gA au;have t:=l0 e;have u:=e.ay;have w:=e.globals;obtain⟨_,rfl,a,b,cc,d,rfl,af,ah,an,aM⟩:=aA;refine Zf 0 ?_;have j:=av.push H (.row Z 5 [[a,b,cc,d,J X x.main]]);have c:=ad.a_ H (.row Z 5 [[a,b,cc,d,J X x.main]]);have y:bF (D (.agg [a,b,cc,d,J X x.main])) (.agg [a,b,cc,d,J X x.main])=true:=by simp[bF,ae.beq,er.beq,af.rd,ah.rd,an.rd,aM.rd]
 simp-implicitDefEqProofs(disch:=try exact ai)only[DJ,aj,dV af ah an aM,cH c];refine aZ (oO (k.aE j) (mV e) (mW au)) ?_;rintro _ K ⟨rfl,p⟩;refine⟨p.1,?_⟩;rw[au];have m:¬(g:Int)<0:=aa;have n:¬(x.globals.length:Int)<=(g:Int):=aa;simp-implicitDefEqProofs(disch:=try exact ai)only[aj,aJ,aC,aL,Bool.not_true,m,n,decide_false,cH (p.get c),dA (p.get c),ah.len cX];refine aZ (yY e ((k.aE j).aE p)) ?_;rintro _ s ⟨rfl,i⟩;refine⟨i.1,?_⟩;have l:=p.trans i;have o:IntKind.i64.wrap ((fb x.ay:Int)+(x.ay.length:Int))=((fb x.ay+x.ay.length:Nat):Int):=by rw[wrap_i64 aa aa];omega
 have q:IntKind.i64.wrap (((fb x.ay+x.ay.length:Nat):Int)+(g:Int))=((fl x g:Nat):Int):=by rw[wrap_i64 aa aa,fl];omega
 simp-implicitDefEqProofs(disch:=try exact ai)only[aj,aJ,aC,aL,dA (l.get c),an.len cI,o,q];refine cO (cP aF ?_) (aG.2 ⟨rfl,j.trans l⟩);refine py ?_ ?_
 ·simp only[ct,bz.K.heap,List.forall_mem_cons]
  repeat' first|exact av.refl _|exact i|(intro _ h;cases h;done)|refine ar ?_ ?_
 ·simp only[List.forall_mem_cons]
  repeat' first|(intro v f;cases f;done)|(intro v f;exact .inl rfl)|(intro v f;cases f;refine .inr λH' p=> ?_;simp only[dA (p.get (av.get ‹_› c)),eI an];done)|(intro _ h;cases h;done)|refine ar ?_ ?_
def W3(au:right x=C){V:ae}(aA:cM H ok x V){f:Nat}(az:f<x.ay.length):W (aQ P aK 85 [V,J X (f:Nat)] H) λr H'=>r= J X (fQ x f:Nat)/\av H H':=by
 have h:=aA;have c:=gA au;have o:=l0 c;have q:=c.ay;have s:=c.globals;obtain⟨_,rfl,a,b,cc,d,rfl,af,ah,an,aM⟩:=aA;refine Zg 0 ?_;have g:=av.push H (.row Z 5 [[a,b,cc,d,J X x.main]]);have e:=ad.a_ H (.row Z 5 [[a,b,cc,d,J X x.main]]);have t:bF (D (.agg [a,b,cc,d,J X x.main])) (.agg [a,b,cc,d,J X x.main])=true:=by simp[bF,ae.beq,er.beq,af.rd,ah.rd,an.rd,aM.rd]
 simp-implicitDefEqProofs(disch:=try exact ai)only[DK,aj,dV af ah an aM,cH e];refine aZ (oO (h.aE g) (mV c) (mW au)) ?_;rintro _ K ⟨rfl,p⟩;refine⟨p.1,?_⟩;rw[au];have j:¬(f:Int)<0:=aa;have k:¬(x.ay.length:Int)<=(f:Int):=aa;simp-implicitDefEqProofs(disch:=try exact ai)only[aj,aJ,aC,aL,Bool.not_true,j,k,decide_false,cH (p.get e),dA (p.get e),an.len cI];refine aZ (yY c ((h.aE g).aE p)) ?_;rintro _ n ⟨rfl,i⟩;refine⟨i.1,?_⟩;have l:=p.trans i;have m:IntKind.i64.wrap ((fb x.ay:Int)+(f:Int))=((fQ x f:Nat):Int):=by rw[wrap_i64 aa aa,fQ];omega
 simp-implicitDefEqProofs(disch:=try exact ai)only[aj,aC,m];exact aG.2 ⟨rfl,g.trans l⟩
def acD(au:right x=C){V:ae}(aA:cM H ok x V){f v:Nat}{c:bH}(az:x.ay[f]? =D c)(y:v<c.vars.length):W (aQ P aK 98 [V,J X (f:Nat),J X (v:Nat)] H) λr H'=>r= J X (bK x.ay f+v:Nat)/\av H H':=by
 have k:=aA;have g:=gA au;have M:=l0 g;have N:=g.ay;have Q:=g.globals;obtain⟨_,rfl,a,b,cc,d,rfl,af,ah,an,aM⟩:=aA;refine Zk 0 ?_;have h:=av.push H (.row Z 5 [[a,b,cc,d,J X x.main]]);have i:=ad.a_ H (.row Z 5 [[a,b,cc,d,J X x.main]]);have T:bF (D (.agg [a,b,cc,d,J X x.main])) (.agg [a,b,cc,d,J X x.main])=true:=by simp[bF,ae.beq,er.beq,af.rd,ah.rd,an.rd,aM.rd]
 simp-implicitDefEqProofs(disch:=try exact ai)only[DN,aj,dV af ah an aM,cH i];refine aZ (oO (k.aE h) (mV g) (mW au)) ?_;rintro _ K ⟨rfl,p⟩;refine⟨p.1,?_⟩;rw[au];have O:=(List.getElem?_eq_some_iff.1 az).1;have S:=ra az y;have m:¬(f:Int)<0:=aa;have o:¬(x.ay.length:Int)<=(f:Int):=aa;have s:¬(v:Int)<0:=aa;have t:¬(c.vars.length:Int)<=(v:Int):=aa;obtain⟨L,n,ro,els,G,z,_,u,e,gv,gw,rfl,bR,b0⟩:=((an.aE h).aE p).at_ (K:=fC) cI (j:=(f:Int)) (a:=c) aa (by simpa using az);have w:K.get L=D (.row ro 7 els):=u;have lv:aI P K 23 (.ptr L n 1)=D gv:=by simp-implicitDefEqProofs(disch:=try exact ai)only[R,w,e]
 simp-implicitDefEqProofs(disch:=try exact ai)only[aj,aJ,aC,aL,Bool.not_true,m,o,s,t,decide_false,cH (p.get i),dA (p.get i),an.len cI,z,lv,bR.len cX];refine aZ (Bb g ((k.aE h).aE p)) ?_;rintro nv E ⟨cJ,l⟩;refine⟨l.1,?_⟩;obtain⟨q,i1,i2⟩:=cJ.aD.int (j:=(f:Int)) (a:=(bK x.ay f:Int)) aa (by simpa using qp x (show f<=x.ay.length by omega));have B:IntKind.i64.wrap ((bK x.ay f:Int)+(v:Int))=((bK x.ay f+v:Nat):Int):=by rw[wrap_i64 aa aa];omega
 simp-implicitDefEqProofs(disch:=try exact ai)only[aj,aC,i1,i2,B];exact aG.2 ⟨rfl,h.trans (p.trans l)⟩
end
end
section
open Go.a2
set_option maxRecDepth 2000
def dk:bB->List ae
 | .base a b=>[J X 1,J X (a:Nat),J X (b:Nat),J X 0]
 | .copy a b=>[J X 2,J X (a:Nat),J X (b:Nat),J X 0]
 | .load a b f=>[J X 3,J X (a:Nat),J X (b:Nat),J X (f:Nat)]
 | .store a b f=>[J X 4,J X (a:Nat),J X (b:Nat),J X (f:Nat)]
 | .same a b=>[J X 5,J X (a:Nat),J X (b:Nat),J X 0]
def e0:ek bB:=⟨4,λ_ _ c cs=>cs=dk c,by rintro _ _ c _ rfl;cases c<;>exact⟨rfl,rfl⟩,λ_ h=>h⟩
def ly:eW 53 56 4:=⟨aF,aF,⟨32,aF,bU⟩,⟨.agg [J X 0,J X 0,J X 0,J X 0],aF,rfl,rfl⟩,bU⟩
def hJ(x:bj)(f:Nat)(c:bH)(gv gw ch cc rv:ae):List ae:=[J X c.params,gv,A c.has,J X c.res.b,J X c.res.r,J X c.res.d,gw,ch,J X f,J X (fb x.ay),cc,rv]
structure fy(x:bj)(f:Nat)(c:bH)(gv gw ch cc:ae)(M:Nat)(l:List bB)(H:ad)(rv:ae):Prop where
 g:H.get M=some (.row false 12 [hJ x f c gv gw ch cc rv])
 r:bq e0 (M+1) bk H l rv
 bR:aO eV H (· <M) c.vars gv
 b0:aO fD H (· <M) c.ins gw
 aH:aO aT H (· <M) (jK x x.ay.length) ch
 aq:aO fC H (· <M) x.ay cc
section
variable {H:ad}{x:bj}{f:Nat}{c:bH}{gv gw ch cc rv:ae}{M:Nat}{l:List bB}
def fy.lt(m:fy x f c gv gw ch cc M l H rv):M<H.next:=ad.bE m.g
def fy.aE{H':ad}(m:fy x f c gv gw ch cc M l H rv)(p:av H H'):fy x f c gv gw ch cc M l H' rv:=
 ⟨p.get m.g,m.r.aE p,m.bR.aE p,m.b0.aE p,m.aH.aE p,m.aq.aE p⟩
def l_(g:H.get M=D (.row Z 12 [hJ x f c gv gw ch cc rv])):aI P H 23 (.ptr M 0 1)=D gv/\aI P H 30 (.ptr M 0 7)=D ch/\aI P H 3 (.ptr M 0 8)=D (J X f)/\aI P H 3 (.ptr M 0 9)=D (J X (fb x.ay))/\aI P H 24 (.ptr M 0 10)=D cc/\aI P H 53 (.ptr M 0 11)=D rv:=by
 rw[hJ]at g;simp-implicitDefEqProofs(disch:=try exact ai)only[R,g]
def zd(I:Nat)(rv:ae):Prop:=∀L n cap,rv= .aD L 0 n 4 cap->I≠L
def bq.pT{α:Type}{K:ek α}{H:ad}{ok ok':Nat->Prop}{B:Nat}{H1:ad}{t e:Nat}(y:eW t e K.esz){l:List α}{v:ae}{a:α}{cs:List ae}(h:bq K B ok H l v)(u:B<=H.next)(p:av H H1)(w:K.V H1 (λk=>H.next<=k) a cs)(i:∀k,ok k\/H.next<=k->ok' k)(al:l.length<=999999999):
  ∃d H',ee P (H1.push (.row Z K.esz [cs])) [t,t] v (.aD H1.next 0 1 K.esz (D 1))=D (d,H')/\bq K B ok' H' (l++[a]) d/\cT B H H'/\H1.next<H'.next/\(∀k,k<H1.next->(∀L n c,v= .aD L 0 n K.esz c->k≠L)->H'.get k=H1.get k)/\(d=v\/∃n,d= .aD (H1.next+1) 0 n K.esz I):=by
 have pp:=av.push H1 (.row Z K.esz [cs]);have E:=p.1;have x:∀L n c,v= .aD L 0 n K.esz c->L<H.next:=λL n c j=>h.e9.lt j
 obtain⟨d,H',o,q,m,r,s⟩:=bq.app (ok:=ok) (ok':=ok') y ((h.aE p).aE pp) (by simp;omega) (lS.one y (ad.a_ _ _) (K.keep (.aE pp) w)) (λk b f g=>⟨i k (.inr f),λL n c j=>by have:=x L n c j;omega⟩) (λk b f _=>i k (.inl f)) (i _ (.inr (by simp;omega))) (by simp;omega);refine⟨d,H',o,q,((eH p u).trans (eH pp aa)).trans m,by have:=m.1;simp at this;omega,λk f z=> ?_,by simpa using s⟩;rw[r k (by simp;omega) z,ad.dO aa]
def EN(m:fy x f c gv gw ch cc M l H rv)(al:l.length<=999999998){k a b e:Int}(d:bB)(aq:dk d=[J X k,J X a,J X b,J X e]):W (aQ P aK 169 [.ptr M 0 0,J X k,J X a,J X b,J X e] H) λr H'=>r= .tuple []/\H.next<=H'.next/\cT M H H'/\∃z,fy x f c gv gw ch cc M (l++[d]) H' z/\∀I,I<H.next->I≠M->zd I rv->zd I z/\H'.get I=H.get I:=by
 refine XI 0 ?_;have Y:=m.lt;obtain⟨o,H',E,q,w,V,N,O⟩:=bq.pT (K:=e0) (ok:=bk) (ok':=bk) ly m.r aa (av.refl H) (a:=d) (cs:=dk d) rfl (λ_ _=>trivial) aa;have hle:(H.push (.row Z 4 [dk d])).next<=H'.next:=by simp;omega
 have b7:H'.get M=D (.row Z 12 [hJ x f c gv gw ch cc rv]):=by rw[w.2 M aa];exact m.g
 have aD:=pr ly H.next (v:= .agg (dk d)) (cs:=dk d) rfl (by cases d<;>rfl) (by cases d<;>rfl)
 have B:dU P 56 [(0,J X k),(1,J X a),(2,J X b),(3,J X e)]=D (.agg (dk d)):=by rw[aq];exact Ft rfl rfl rfl rfl
 have st:cD P H' 53 (.ptr M 0 11) o=D (H'.set M (.row Z 12 [hJ x f c gv gw ch cc o])):=by
  have p:=q.aD.one;have t:=dx p;rw[gf (n:=1) aF b7 rfl (by rw[t];rfl) (by rw[t];simp[p]) bU,t];rfl
 simp-implicitDefEqProofs(disch:=try exact ai)only[B6,aj,aJ,aL,l_ m.g,B,aD];have G:ee P (H.push (.row Z 4 [dk d])) [53,53] rv (.aD H.next 0 1 4 (D 1))=D (o,H'):=E;simp-implicitDefEqProofs(disch:=try exact ai)only[aj,aJ,aL,G,st];have S:=ad.bE b7;have low:∀i,i<M->(H'.set M (.row Z 12 [hJ x f c gv gw ch cc o])).get i=H.get i:=λi j=>by rw[ad.cb aa];exact w.2 i aa
 have s:∀{α:Type} {K:ek α} {l:List α} {v:ae},aO K H (· <M) l v->aO K (H'.set M (.row Z 12 [hJ x f c gv gw ch cc o])) (· <M) l v:=λh=>h.keep λi b j g=>⟨j,by rw[low i j];exact g⟩
 refine aG.2 ⟨rfl,by simp;omega,⟨by simp;omega,low⟩,o,⟨?_,?_,s m.bR,s m.b0,s m.aH,s m.aq⟩,λI Q R j=>⟨λL n cap p=> ?_,?_⟩⟩
 ·exact ad.c8 S
 ·refine⟨?_,q.low⟩;rcases q.e9 with h|⟨L',els,cap,y,T,U,u⟩
  ·exact .inl h
  ·have:=q.low _ _ _ y;exact .inr ⟨L',els,cap,y,T,by rw[ad.cb aa];exact U,u.1,u.2.1,u.2.2⟩
 ·rcases O with rfl|⟨ab,rfl⟩
  ·exact j L n cap p
  ·cases p;omega
 ·rw[ad.cb (Ne.symm R)];exact N I Q j
def VL(au:eO x)(m:fy x f c gv gw ch cc M l H rv)(az:x.ay[f]? =D c)(n:Nat)(aH:n<c.vars.length):W (aQ P aK 170 [.ptr M 0 0,J X n] H) λr H'=>r= J X ((bK x.ay f+n:Nat):Int)/\av H H':=by
 refine XJ 0 ?_;have e:=(List.getElem?_eq_some_iff.1 az).1;have h:=ra az aH;have d:=l0 au;obtain⟨q,i1,i2⟩:=m.aH.int (j:=(f:Int)) (a:=(bK x.ay f:Int)) aa (by simpa using qp x (show f<=x.ay.length by omega));have b:IntKind.i64.wrap ((bK x.ay f:Int)+(n:Int))=((bK x.ay f+n:Nat):Int):=by rw[wrap_i64 aa aa];omega
 simp-implicitDefEqProofs(disch:=try exact ai)only[B7,aj,aJ,aC,aL,l_ m.g,i1,i2,b];exact aG.2 ⟨rfl,av.refl _⟩
def A6(m:fy x f c gv gw ch cc M l H rv)(n:Int)(aH:n<c.vars.length):W (aQ P aK 172 [.ptr M 0 0,J X n] H) λr H'=>r= A (decide (0<=n)&&ep c n)/\av H H':=by
 refine XL 0 ?_;by_cases a:0<=n
 ·have b:n.toNat<c.vars.length:=aa;obtain⟨p,d,e⟩:=m.bR.Ec (j:=n) (t:=c.vars[n.toNat]) a (by simp[b]);have aR:aY c n=c.vars[n.toNat]:=by rw[aY,iF a];simp[b]
  rw[ep,aR];simp-implicitDefEqProofs(disch:=try exact ai)only[xg,aj,aJ,aC,aL,l_ m.g,a,decide_true,d,e _ (av.refl _)];refine cx (An _) ?_;rintro _ K ⟨rfl,p⟩;refine⟨p.1,?_⟩;simp-implicitDefEqProofs(disch:=try exact ai)only[aj];exact aG.2 ⟨by rw[Bool.true_and],p⟩
 ·simp-implicitDefEqProofs(disch:=try exact ai)only[xg,aj,aC,a,decide_false];exact aG.2 ⟨by rw[Bool.false_and],av.refl _⟩
def W1(au:eO x)(m:fy x f c gv gw ch cc M l H rv)(n:Nat)(aH:n<=1000):W (aQ P aK 173 [.ptr M 0 0,J X n] H) λr H'=>r= J X (fQ x n:Nat)/\av H H':=by
 refine XM 0 ?_;have b:=l0 au;have a:IntKind.i64.wrap ((fb x.ay:Int)+(n:Int))=((fQ x n:Nat):Int):=by rw[wrap_i64 aa aa,fQ];omega
 simp-implicitDefEqProofs(disch:=try exact ai)only[B_,aj,aJ,aC,aL,l_ m.g,a];exact aG.2 ⟨rfl,av.refl _⟩
def Ve(au:eO x)(m:fy x f c gv gw ch cc M l H rv)(n:Nat)(aH:n<=1000):W (aQ P aK 174 [.ptr M 0 0,J X n] H) λr H'=>r= J X (fl x n:Nat)/\av H H':=by
 refine XN 0 ?_;have d:=l0 au;have e:=au.ay;have a:IntKind.i64.wrap ((fb x.ay:Int)+(x.ay.length:Int))=((fb x.ay+x.ay.length:Nat):Int):=by rw[wrap_i64 aa aa];omega
 have b:IntKind.i64.wrap (((fb x.ay+x.ay.length:Nat):Int)+(n:Int))=((fl x n:Nat):Int):=by rw[wrap_i64 aa aa,fl];omega
 simp-implicitDefEqProofs(disch:=try exact ai)only[Ca,br,aj,aJ,aC,aL,l_ m.g,m.aq.len cI,a,b];exact aG.2 ⟨rfl,av.refl _⟩
end
end
section
open Go.a2
set_option maxRecDepth 2000
section
variable {H:ad}{ok:Nat->Prop}{x:bj}{f:Nat}{c:bH}{i:In}{gv gw ch cc rv wi:ae}{M:Nat}{l:List bB}
def nf(x:bj)(f:Nat)(c:bH)(gv gw ch cc:ae)(M:Nat)(l:List bB)(H:ad)(r:ae)(H':ad):Prop:=r= .tuple []/\cT M H H'/\∃a,fy x f c gv gw ch cc M l H' a
def y2{v:Int}(h:aY c v≠bl):0<=v/\v.toNat<c.vars.length/\v<c.vars.length:=by
 have:=Jm h;exact⟨this.1,this.2.1,aa⟩
def ic(au:eO x)(m:fy x f c gv gw ch cc M l H rv)(az:x.ay[f]? =D c){n:Int}(aH:aY c n≠bl):W (aQ P aK 170 [.ptr M 0 0,J X n] H) λr H'=>r= J X ((bK x.ay f+n.toNat:Nat):Int)/\av H H':=by
 obtain⟨a,af,_⟩:=y2 aH;obtain⟨k,rfl⟩:∃k:Nat,n=k:=⟨n.toNat,aa⟩;exact VL au m az k (by simpa using af)
def Kf(au:eO x)(m:fy x f c gv gw ch cc M l H rv){n:Int}(a:0<=n)(aH:n<=1000):W (aQ P aK 173 [.ptr M 0 0,J X n] H) λr H'=>r= J X (fQ x n.toNat:Nat)/\av H H':=by
 obtain⟨k,rfl⟩:∃k:Nat,n=k:=⟨n.toNat,aa⟩;exact W1 au m k aa
def Hm(au:eO x)(m:fy x f c gv gw ch cc M l H rv){n:Int}(a:0<=n)(aH:n<=1000):W (aQ P aK 174 [.ptr M 0 0,J X n] H) λr H'=>r= J X (fl x n.toNat:Nat)/\av H H':=by
 obtain⟨k,rfl⟩:∃k:Nat,n=k:=⟨n.toNat,aa⟩;exact Ve au m k aa
def nV(m:fy x f c gv gw ch cc M l H rv){n:Int}(aH:aY c n≠bl):W (aQ P aK 172 [.ptr M 0 0,J X n] H) λr H'=>r= A (ep c n)/\av H H':=by
 obtain⟨a,af,ah⟩:=y2 aH;refine(A6 m n ah).mono ?_;rintro r H' ⟨rfl,p⟩;exact⟨by rw[decide_eq_true a,Bool.true_and],p⟩
def vV{n:Int}(h:0<=n):ae.int X ((n.toNat:Nat):Int)= J X n:=by rw[Int.toNat_of_nonneg h]
def k1(m:fy x f c gv gw ch cc M l H rv)(al:l.length<=999999998){k a b e:Int}(d:bB)(aq:dk d=[J X k,J X a,J X b,J X e]):W (aQ P aK 169 [.ptr M 0 0,J X k,J X a,J X b,J X e] H) λr H'=>H.next<=H'.next/\nf x f c gv gw ch cc M (l++[d]) H r H':=by
 refine(EN m al d aq).mono ?_;rintro r H' ⟨af,ah,an,g,aM,_⟩;exact⟨ah,af,an,g,aM⟩
def Vt(au:eO x)(V:fy x f c gv gw ch cc M l H rv)(az:x.ay[f]? =D c)(hw:aO aT H ok i.args wi)(w:dy x f c i=C)(al:l.length<=1000000)(ap:¬(i.op=11\/i.op=12\/i.op=13\/i.op=18\/i.op=19\/i.op=20)):W (aQ P aK 175 [.ptr M 0 0,.agg (b5 i wi)] H) (nf x f c gv gw ch cc M (l++ei x f c i) H):=by
 refine XO 0 ?_;have u:=av.push H (.row Z 6 [b5 i wi]);have d:(H.push (.row Z 6 [b5 i wi])).get H.next=D (.row Z 6 [[J X i.op,J X i.a,J X i.b,J X i.c,J X i.n,wi]]):=ad.a_ _ _
 have m:=V.aE u;have ar:=V.lt;have nil:∀{Y:ad},ei x f c i=[]->av H Y->W (D (ae.tuple [],Y)) (nf x f c gv gw ch cc M (l++ei x f c i) H):=λe p=>aG.2 ⟨rfl,eH p aa,rv,by rw[e,List.append_nil];exact V.aE p⟩
 simp-implicitDefEqProofs(disch:=try exact ai)only[Cb,aj,aJ,aL,c7 hw];generalize H.push (.row Z 6 [b5 i wi])=H0 at*;have aq:=ad.bE d;generalize am:H.next=I at*
 have G:=fA d;by_cases an:i.op=3
 ·have t:∀j:Int,(i.op==j)=(3==j):=λj=>by rw[an]
  have s:=(DY an w).1;have v:aY c i.b≠bl:=(DY an w).2▸s;have e:ei x f c i=bif ep c i.a then[bB.copy (bK x.ay f+i.a.toNat) (bK x.ay f+i.b.toNat)]else[]:=by simp only[ei,an]
  simp-implicitDefEqProofs(disch:=try exact ai)only[aj,aJ,aC,aL,G,o d,t,Int.reduceBEq];refine cx (nV m s) ?_;rintro _ K ⟨rfl,p⟩;refine⟨p.1,?_⟩;have E:=fA (p.get d);cases k:ep c i.a with
  |false=>
   simp-implicitDefEqProofs(disch:=try exact ai)only[aj,aJ,aC,aL,E,t,Int.reduceBEq];exact nil (by rw[e,k];rfl) (u.trans p)
  |true=>
   rw[k]at e;simp-implicitDefEqProofs(disch:=try exact ai)only[aj,aJ,aL,o (p.get d)];refine aZ (ic au (m.aE p) az s) ?_;rintro _ S ⟨rfl,q⟩;refine⟨q.1,?_⟩;have g:=p.trans q;simp-implicitDefEqProofs(disch:=try exact ai)only[aj,aJ,aL,o (g.get d)];refine aZ (ic au (m.aE g) az v) ?_;rintro _ T ⟨rfl,r⟩;refine⟨r.1,?_⟩;have h:=g.trans r;simp-implicitDefEqProofs(disch:=try exact ai)only[aj];refine aZ (k1 (m.aE h) aa (.copy (bK x.ay f+i.a.toNat) (bK x.ay f+i.b.toNat)) (by first|rfl|rw[dk])) ?_;rintro _ U ⟨hle,rfl,z,B,y⟩;refine⟨hle,?_⟩;simp-implicitDefEqProofs(disch:=try exact ai)only[aj,aJ,o (g.get d),o (p.get d)]
   rw[e];exact aG.2 ⟨rfl,(eH (u.trans h) aa).trans z,B,y⟩
 have ab:(i.op==3)=false:=beq_eq_false_iff_ne.2 an;by_cases L:i.op=6
 ·have t:∀j:Int,(i.op==j)=(6==j):=λj=>by rw[L]
  have s:=(DZ L w).1;have R:eD x (aY c i.b) i.c≠bl:=(DZ L w).2▸s;have v:=vi R;have rc:=(vh au R).1;have e:ei x f c i=bif ep c i.a then[bB.load (bK x.ay f+i.a.toNat) (bK x.ay f+i.b.toNat) i.c.toNat]else[]:=by simp only[ei,L]
  simp-implicitDefEqProofs(disch:=try exact ai)only[aj,aJ,aC,aL,G,o d,t,Int.reduceBEq];refine cx (nV m s) ?_;rintro _ K ⟨rfl,p⟩;refine⟨p.1,?_⟩;have E:=fA (p.get d);cases k:ep c i.a with
  |false=>
   simp-implicitDefEqProofs(disch:=try exact ai)only[aj,aJ,aC,aL,E,t,Int.reduceBEq];exact nil (by rw[e,k];rfl) (u.trans p)
  |true=>
   rw[k]at e;simp-implicitDefEqProofs(disch:=try exact ai)only[aj,aJ,aL,o (p.get d)];refine aZ (ic au (m.aE p) az s) ?_;rintro _ S ⟨rfl,q⟩;refine⟨q.1,?_⟩;have g:=p.trans q;simp-implicitDefEqProofs(disch:=try exact ai)only[aj,aJ,aL,o (g.get d)];refine aZ (ic au (m.aE g) az v) ?_;rintro _ T ⟨rfl,r⟩;refine⟨r.1,?_⟩;have h:=g.trans r;simp-implicitDefEqProofs(disch:=try exact ai)only[aj,aJ,aL,o (h.get d)];refine aZ (k1 (m.aE h) aa (.load (bK x.ay f+i.a.toNat) (bK x.ay f+i.b.toNat) i.c.toNat) (by first|rfl|rw[dk,vV rc])) ?_;rintro _ U ⟨hle,rfl,z,B,y⟩;refine⟨hle,?_⟩;simp-implicitDefEqProofs(disch:=try exact ai)only[aj,aJ,o (h.get d),o (g.get d),o (p.get d)]
   rw[e];exact aG.2 ⟨rfl,(eH (u.trans h) aa).trans z,B,y⟩
 have af:(i.op==6)=false:=beq_eq_false_iff_ne.2 L;by_cases O:i.op=8
 ·have t:∀j:Int,(i.op==j)=(8==j):=λj=>by rw[O]
  have s:=(D1 O w).1;have v:=p5 (D1 O w).2.1;have e:ei x f c i=bif ep c i.a then[bB.load (bK x.ay f+i.a.toNat) (bK x.ay f+i.b.toNat) 0]else[]:=by simp only[ei,O]
  simp-implicitDefEqProofs(disch:=try exact ai)only[aj,aJ,aC,aL,G,o d,t,Int.reduceBEq];refine cx (nV m s) ?_;rintro _ K ⟨rfl,p⟩;refine⟨p.1,?_⟩;have E:=fA (p.get d);cases k:ep c i.a with
  |false=>
   simp-implicitDefEqProofs(disch:=try exact ai)only[aj,aJ,aC,aL,E,t,Int.reduceBEq];exact nil (by rw[e,k];rfl) (u.trans p)
  |true=>
   rw[k]at e;simp-implicitDefEqProofs(disch:=try exact ai)only[aj,aJ,aL,o (p.get d)];refine aZ (ic au (m.aE p) az s) ?_;rintro _ S ⟨rfl,q⟩;refine⟨q.1,?_⟩;have g:=p.trans q;simp-implicitDefEqProofs(disch:=try exact ai)only[aj,aJ,aL,o (g.get d)];refine aZ (ic au (m.aE g) az v) ?_;rintro _ T ⟨rfl,r⟩;refine⟨r.1,?_⟩;have h:=g.trans r;simp-implicitDefEqProofs(disch:=try exact ai)only[aj];refine aZ (k1 (m.aE h) aa (.load (bK x.ay f+i.a.toNat) (bK x.ay f+i.b.toNat) 0) (by first|rfl|rw[dk])) ?_;rintro _ U ⟨hle,rfl,z,B,y⟩;refine⟨hle,?_⟩;simp-implicitDefEqProofs(disch:=try exact ai)only[aj,aJ,o (g.get d),o (p.get d)]
   rw[e];exact aG.2 ⟨rfl,(eH (u.trans h) aa).trans z,B,y⟩
 have ah:(i.op==8)=false:=beq_eq_false_iff_ne.2 O;by_cases N:i.op=7
 ·have t:∀j:Int,(i.op==j)=(7==j):=λj=>by rw[N]
  have v:=(D0 N w).1;have R:eD x (aY c i.a) i.c≠bl:=(D0 N w).2▸v;have s:=vi R;have rc:=(vh au R).1;have e:ei x f c i=bif ep c i.b then[bB.store (bK x.ay f+i.a.toNat) (bK x.ay f+i.b.toNat) i.c.toNat]else[]:=by simp only[ei,N]
  simp-implicitDefEqProofs(disch:=try exact ai)only[aj,aJ,aC,aL,G,o d,t,Int.reduceBEq];refine cx (nV m v) ?_;rintro _ K ⟨rfl,p⟩;refine⟨p.1,?_⟩;have E:=fA (p.get d);cases k:ep c i.b with
  |false=>
   simp-implicitDefEqProofs(disch:=try exact ai)only[aj,aJ,aC,aL,E,t,Int.reduceBEq];exact nil (by rw[e,k];rfl) (u.trans p)
  |true=>
   rw[k]at e;simp-implicitDefEqProofs(disch:=try exact ai)only[aj,aJ,aL,o (p.get d)];refine aZ (ic au (m.aE p) az s) ?_;rintro _ S ⟨rfl,q⟩;refine⟨q.1,?_⟩;have g:=p.trans q;simp-implicitDefEqProofs(disch:=try exact ai)only[aj,aJ,aL,o (g.get d)];refine aZ (ic au (m.aE g) az v) ?_;rintro _ T ⟨rfl,r⟩;refine⟨r.1,?_⟩;have h:=g.trans r;simp-implicitDefEqProofs(disch:=try exact ai)only[aj,aJ,aL,o (h.get d)];refine aZ (k1 (m.aE h) aa (.store (bK x.ay f+i.a.toNat) (bK x.ay f+i.b.toNat) i.c.toNat) (by first|rfl|rw[dk,vV rc])) ?_;rintro _ U ⟨hle,rfl,z,B,y⟩;refine⟨hle,?_⟩;simp-implicitDefEqProofs(disch:=try exact ai)only[aj,aJ,o (h.get d),o (g.get d),o (p.get d)]
   rw[e];exact aG.2 ⟨rfl,(eH (u.trans h) aa).trans z,B,y⟩
 have ag:(i.op==7)=false:=beq_eq_false_iff_ne.2 N;by_cases Q:i.op=9
 ·have t:∀j:Int,(i.op==j)=(9==j):=λj=>by rw[Q]
  have v:=(D2 Q w).1;have s:=p5 (D2 Q w).2.1;have e:ei x f c i=bif ep c i.c then[bB.store (bK x.ay f+i.a.toNat) (bK x.ay f+i.c.toNat) 0]else[]:=by simp only[ei,Q]
  simp-implicitDefEqProofs(disch:=try exact ai)only[aj,aJ,aC,aL,G,o d,t,Int.reduceBEq];refine cx (nV m v) ?_;rintro _ K ⟨rfl,p⟩;refine⟨p.1,?_⟩;have E:=fA (p.get d);cases k:ep c i.c with
  |false=>
   simp-implicitDefEqProofs(disch:=try exact ai)only[aj];exact nil (by rw[e,k];rfl) (u.trans p)
  |true=>
   rw[k]at e;simp-implicitDefEqProofs(disch:=try exact ai)only[aj,aJ,aL,o (p.get d)];refine aZ (ic au (m.aE p) az s) ?_;rintro _ S ⟨rfl,q⟩;refine⟨q.1,?_⟩;have g:=p.trans q;simp-implicitDefEqProofs(disch:=try exact ai)only[aj,aJ,aL,o (g.get d)];refine aZ (ic au (m.aE g) az v) ?_;rintro _ T ⟨rfl,r⟩;refine⟨r.1,?_⟩;have h:=g.trans r;simp-implicitDefEqProofs(disch:=try exact ai)only[aj];refine aZ (k1 (m.aE h) aa (.store (bK x.ay f+i.a.toNat) (bK x.ay f+i.c.toNat) 0) (by first|rfl|rw[dk])) ?_;rintro _ U ⟨hle,rfl,z,B,y⟩;refine⟨hle,?_⟩;simp-implicitDefEqProofs(disch:=try exact ai)only[aj,aJ,o (g.get d),o (p.get d)]
   rw[e];exact aG.2 ⟨rfl,(eH (u.trans h) aa).trans z,B,y⟩
 have ak:(i.op==9)=false:=beq_eq_false_iff_ne.2 Q;simp-implicitDefEqProofs(disch:=try exact ai)only[aj,aJ,aC,aL,G,ab,af,ag,ah,ak];refine nil ?_ u;have ao:=abf w;unfold ei;simp only
 split<;>first|rfl|(exfalso;omega)
def IS(au:eO x)(az:x.ay[f]? =D c){g:bH}(aP:x.ay[i.c.toNat]? =D g)(s:0<=i.c)(U:i.args.length<=6)(V:i.args.length<=g.vars.length)(E:∀{j:Nat} {v:Int},i.args[j]? =D v->aY c v≠bl){I:Nat}(y:I≠M){N:Nat}{Q:ae->ad->Prop}:
  ∀(j k n:Nat) (H:ad) (l:List bB) (rv:ae),k+j=i.args.length->j<n->l.length<=1000000+k->fy x f c gv gw ch cc M l H rv->H.get I=D (.row Z 6 [[J X i.op,J X i.a,J X i.b,J X i.c,J X i.n,wi]])->zd I rv->aO aT H (· <M) i.args wi->
  (∀H' e,cT M H H'->H'.get I=D (.row Z 6 [[J X i.op,J X i.a,J X i.b,J X i.c,J X i.n,wi]])->fy x f c gv gw ch cc M (l++jd c (bK x.ay f) (bK x.ay i.c.toNat) (i.args.drop k) k) H' e->W (sZ (aQ P aK) N (.ptr M 0 0) (.ptr I 0 0) H') Q)->
  W (s0 (aQ P aK) N n (.ptr M 0 0) (.ptr I 0 0) wi (J X i.args.length) (J X k) H) Q
 |_,_,0,_,_,_,_,hm,_,_,_,_,_,_=>aa
 |0,k,n+1,H,l,rv,T,_,_,m,d,_,hw,fin=>by
  have t:¬(k:Int)<(i.args.length:Int):=aa;have:=fin H rv (.refl _ _) d (by rw[List.drop_of_length_le aa,jd,List.append_nil];exact m);simp-implicitDefEqProofs(disch:=try exact ai)only[s0,xf,aj,aC,t,decide_false];exact this
 |j+1,k,n+1,H,l,rv,T,av,al,m,d,z,hw,fin=>by
  have t:(k:Int)<(i.args.length:Int):=aa;have u:k<i.args.length:=aa;have on:=IS (N:=N) (Q:=Q) au az aP s U V E y j (k+1) n;have aA:=m.lt;have ax:=ad.bE d;obtain⟨aG,ak,am⟩:=hw.int (j:=(k:Int)) (a:=i.args[k]) aa (by simp[u]);have B:=E (j:=k) (v:=i.args[k]) (by simp[u]);rw[List.drop_eq_getElem_cons u,jd]at fin;have aF:=fA d;simp-implicitDefEqProofs(disch:=try exact ai)only[s0,xf,aj,aC,t,decide_true,ak,am];refine aZ (nV m B) ?_;rintro _ K ⟨rfl,p⟩;refine⟨p.1,?_⟩;have aV:=cq (show k<=1000000000 by omega);cases G:ep c i.args[k]with
  |false=>
   rw[G,jY,List.nil_append]at fin;simp-implicitDefEqProofs(disch:=try exact ai)only[B9,aj,aC,aV];exact on K l rv aa aa aa (m.aE p) (p.get d) z (hw.aE p) λH' e af ah an=>fin H' e ((eH p aa).trans af) ah an
  |true=>
   rw[G,gP,<-List.append_assoc]at fin;simp-implicitDefEqProofs(disch:=try exact ai)only[aj];refine aZ (ic au (m.aE p) az B) ?_;rintro _ O ⟨rfl,L⟩;refine⟨L.1,?_⟩;have h:=p.trans L;have r:=m.aE h;have aq:=au.ay;have ar:=(List.getElem?_eq_some_iff.1 aP).1;have aw:=ra aP (v:=k) aa;have ap:=l0 au;obtain⟨ag,i1,i2⟩:=(m.aE p).aH.int (j:=i.c) (a:=(bK x.ay i.c.toNat:Int)) s (qp x aa);have i4:aI P O 3 ag=D (J X (bK x.ay i.c.toNat)):=by
    obtain⟨q,i3,i5⟩:=r.aH.int (j:=i.c) (a:=(bK x.ay i.c.toNat:Int)) s (qp x aa);rw[i1]at i3;cases i3;exact i5
   have ao:IntKind.i64.wrap ((bK x.ay i.c.toNat:Int)+(k:Int))=((bK x.ay i.c.toNat+k:Nat):Int):=by rw[wrap_i64 aa aa];omega
   simp-implicitDefEqProofs(disch:=try exact ai)only[aj,aJ,aC,aL,l_ r.g,o (h.get d),i1,i4,ao];refine aZ (EN r aa (.copy (bK x.ay i.c.toNat+k) (bK x.ay f+i.args[k].toNat)) rfl) ?_;rintro _ w ⟨rfl,hle,ab,e,Y,aM⟩;refine⟨hle,?_⟩;obtain⟨R,S⟩:=aM I (by have:=h.1;omega) y z;have pu:cT M H w:=(eH h aa).trans ab;simp-implicitDefEqProofs(disch:=try exact ai)only[B9,aj,aJ,aC,l_ r.g,l_ (m.aE p).g,o (h.get d),o (p.get d),i2,i4,eI m.aH,aV];exact on w _ e aa aa (by simp;omega) Y (by rw[S,h.get d]) R (hw.gy pu) λH' e af ah an=>fin H' e (pu.trans af) ah an
def U8(au:eO x)(s:fy x f c gv gw ch cc M l H rv)(az:x.ay[f]? =D c)(hw:aO aT H (· <M) i.args wi)(R:dy x f c i=C)(al:l.length<=1000000)(w:i.op=13):W (aQ P aK 171 [.ptr M 0 0,.agg (b5 i wi)] H) (nf x f c gv gw ch cc M (l++ei x f c i) H):=by
 obtain⟨g,aP⟩:=uA w R;have N:=jZ (au.code aP.at_.2);have hlen:=aP.len;have ao:=N.params;refine XK (i.args.length+1) ?_;have t:=av.push H (.row Z 6 [b5 i wi]);have u:(H.push (.row Z 6 [b5 i wi])).get H.next=D (.row Z 6 [[J X i.op,J X i.a,J X i.b,J X i.c,J X i.n,wi]]):=ad.a_ _ _
 have aq:=s.lt;have U:=fA u;simp-implicitDefEqProofs(disch:=try exact ai)only[B8,br,aj,aJ,aL,c7 hw,U,hw.len b6];refine IS au az aP.at_.2 aP.at_.1 aa aa (λh=>(aP.arg h).1) aa i.args.length 0 (i.args.length+1) _ l rv aa aa aa (s.aE t) u (λL n cap m=>by have:=s.r.e9.lt (K:=e0) m;omega) (hw.aE t) ?_;intro H1 ab pu j d;have ap:=ad.bE j;rw[List.drop_zero]at d;have E:cT M H H1:=(eH t aa).trans pu;have ar:=fA j;have e:ei x f c i=jd c (bK x.ay f) (bK x.ay i.c.toNat) i.args 0++(bif decide (0<=i.a)&&ep c i.a then[.copy (bK x.ay f+i.a.toNat) (fQ x i.c.toNat)]else[]):=by simp only[ei,w]
 have G:∀(at_ to:Nat) (ak:List Int) (k:Nat),(jd c at_ to ak k).length<=ak.length:=by
  intro at_ to ak
  induction ak with
  |nil=>intro k;simp[jd]
  |cons v ak S=>intro k;have:=S (k+1);rw[jd];cases ep c v<;>simp<;>omega
 have an:=G (bK x.ay f) (bK x.ay i.c.toNat) i.args 0;have Q:i.a<c.vars.length:=by
  rcases aP.res with h|h
  ·omega
  ·exact(y2 h.2.1).2.2
 simp-implicitDefEqProofs(disch:=try exact ai)only[sZ,aj,aJ,aL,o j];refine aZ (A6 d i.a Q) ?_;rintro _ K ⟨rfl,p⟩;refine⟨p.1,?_⟩;cases m:(decide (0<=i.a)&&ep c i.a)with
 |false=>
  simp-implicitDefEqProofs(disch:=try exact ai)only[aj];exact aG.2 ⟨rfl,E.trans (eH p (by have:=d.lt;omega)),ab,by rw[e,m,jY,List.append_nil];exact d.aE p⟩
 |true=>
  have O:aY c i.a≠bl:=by
   simp only[Bool.and_eq_true]at m;exact wy m.2
  simp-implicitDefEqProofs(disch:=try exact ai)only[aj,aJ,aL,o (p.get j)];refine aZ (ic au (d.aE p) az O) ?_;rintro _ ae ⟨rfl,z⟩;refine⟨z.1,?_⟩;have q:=p.trans z;have ah:=au.ay;have am:=(List.getElem?_eq_some_iff.1 aP.at_.2).1;simp-implicitDefEqProofs(disch:=try exact ai)only[aj,aJ,aL,o (q.get j)];refine aZ (Kf au (d.aE q) aP.at_.1 aa) ?_;rintro _ af ⟨rfl,B⟩;refine⟨B.1,?_⟩;have y:=q.trans B;simp-implicitDefEqProofs(disch:=try exact ai)only[aj];refine aZ (k1 (d.aE y) (by simp;omega) (.copy (bK x.ay f+i.a.toNat) (fQ x i.c.toNat)) rfl) ?_;rintro _ ag ⟨hle,rfl,V,Y,T⟩;refine⟨hle,?_⟩;simp-implicitDefEqProofs(disch:=try exact ai)only[aj,aJ,o (q.get j),o (p.get j)]
  exact aG.2 ⟨rfl,E.trans ((eH y (by have:=d.lt;omega)).trans V),Y,by rw[e,m,gP,<-List.append_assoc];exact T⟩
def Vf(au:eO x)(ab:fy x f c gv gw ch cc M l H rv)(az:x.ay[f]? =D c)(am:aO aT H (· <M) i.args wi)(q:dy x f c i=C)(al:l.length<=1000000):W (aQ P aK 129 [.ptr M 0 0,.agg (b5 i wi)] H) (nf x f c gv gw ch cc M (l++ei x f c i) H):=by
 refine Xx 0 ?_;have s:=av.push H (.row Z 6 [b5 i wi]);have d:(H.push (.row Z 6 [b5 i wi])).get H.next=D (.row Z 6 [[J X i.op,J X i.a,J X i.b,J X i.c,J X i.n,wi]]):=ad.a_ _ _
 have m:=ab.aE s;have hw:=am.aE s;have aS:=ab.lt;have aN:=(List.getElem?_eq_some_iff.1 az).1;have aM:=au.ay;have aP:=au.globals;have aU:ei x f c i=ei x f c i:=rfl;have nil:∀{Q:ad},ei x f c i=[]->av H Q->W (D (ae.tuple [],Q)) (nf x f c gv gw ch cc M (l++ei x f c i) H):=λe p=>aG.2 ⟨rfl,eH p aa,rv,by rw[e,List.append_nil];exact ab.aE p⟩
 have ap:∀{ao:List bB} {r:ae} {Q:ad},nf x f c gv gw ch cc M ao (H.push (.row Z 6 [b5 i wi])) r Q->nf x f c gv gw ch cc M ao H r Q:=λ⟨af,ah,an⟩=>⟨af,(eH s aa).trans ah,an⟩
 simp-implicitDefEqProofs(disch:=try exact ai)only[BR,aj,aJ,aL,c7 am];generalize H.push (.row Z 6 [b5 i wi])=H0 at*;have aR:=ad.bE d;generalize aI:H.next=I at*
 have L:=fA d;by_cases R:i.op=11
 ·have t:∀j:Int,(i.op==j)=(11==j):=λj=>by rw[R]
  have u:aY c i.a≠bl:=(uy R q).1.1;have c4:=(nq (uy R q).2).1;have e:ei x f c i=[bB.base (bK x.ay f+i.a.toNat) i.n.toNat]:=by simp only[ei,R]
  simp-implicitDefEqProofs(disch:=try exact ai)only[nZ,aj,aJ,aC,aL,L,o d,t,Int.reduceBEq];refine aZ (ic au m az u) ?_;rintro _ K ⟨rfl,p⟩;refine⟨p.1,?_⟩;simp-implicitDefEqProofs(disch:=try exact ai)only[aj,aJ,aL,o (p.get d)];refine aZ (k1 (m.aE p) aa (.base (bK x.ay f+i.a.toNat) i.n.toNat) (by rw[dk,vV c4])) ?_;rintro _ U ⟨hle,rfl,y,z,w⟩;refine⟨hle,?_⟩;simp-implicitDefEqProofs(disch:=try exact ai)only[aj,aJ,o (p.get d),o d];rw[e];exact aG.2 ⟨rfl,(eH (s.trans p) aa).trans y,z,w⟩
 have ar:(i.op==11)=false:=beq_eq_false_iff_ne.2 R;by_cases S:i.op=12
 ·have t:∀j:Int,(i.op==j)=(12==j):=λj=>by rw[S]
  have u:aY c i.a≠bl:=p5 (uz S q).1.1;have c4:=(nq (uz S q).2).1;have e:ei x f c i=[bB.base (bK x.ay f+i.a.toNat) i.n.toNat]:=by simp only[ei,S]
  simp-implicitDefEqProofs(disch:=try exact ai)only[nZ,aj,aJ,aC,aL,L,o d,t,Int.reduceBEq];refine aZ (ic au m az u) ?_;rintro _ K ⟨rfl,p⟩;refine⟨p.1,?_⟩;simp-implicitDefEqProofs(disch:=try exact ai)only[aj,aJ,aL,o (p.get d)];refine aZ (k1 (m.aE p) aa (.base (bK x.ay f+i.a.toNat) i.n.toNat) (by rw[dk,vV c4])) ?_;rintro _ U ⟨hle,rfl,y,z,w⟩;refine⟨hle,?_⟩;simp-implicitDefEqProofs(disch:=try exact ai)only[aj,aJ,o (p.get d),o d];rw[e];exact aG.2 ⟨rfl,(eH (s.trans p) aa).trans y,z,w⟩
 have aw:(i.op==12)=false:=beq_eq_false_iff_ne.2 S;by_cases Y:i.op=13
 ·have t:∀j:Int,(i.op==j)=(13==j):=λj=>by rw[Y]
  simp-implicitDefEqProofs(disch:=try exact ai)only[nZ,aj,aC,L,t,Int.reduceBEq,fz (i:=i) (wi:=wi) d];refine aZ (U8 au m az hw q al Y) ?_;rintro r K T;refine⟨T.2.1.1,aG.2 (ap ⟨rfl,T.2⟩)⟩
 have ax:(i.op==13)=false:=beq_eq_false_iff_ne.2 Y;by_cases V:i.op=18
 ·have t:∀j:Int,(i.op==j)=(18==j):=λj=>by rw[V]
  have e:ei x f c i=bif decide (0<=i.a)&&ep c i.a then[bB.copy (fQ x f) (bK x.ay f+i.a.toNat)]else[]:=by simp only[ei,V]
  have aq:i.a<c.vars.length:=by
   rcases aa6 V q with h|h
   ·exact(y2 h.2.1).2.2
   ·omega
  simp-implicitDefEqProofs(disch:=try exact ai)only[nZ,aj,aJ,aC,aL,L,o d,t,Int.reduceBEq];refine aZ (A6 m i.a aq) ?_;rintro _ K ⟨rfl,p⟩;refine⟨p.1,?_⟩;cases v:(decide (0<=i.a)&&ep c i.a)with
  |false=>
   simp-implicitDefEqProofs(disch:=try exact ai)only[aj];exact nil (by rw[e,v];rfl) (s.trans p)
  |true=>
   rw[v]at e;have u:aY c i.a≠bl:=by
    simp only[Bool.and_eq_true]at v;exact wy v.2
   simp-implicitDefEqProofs(disch:=try exact ai)only[aj,aJ,aL,l_ (m.aE p).g];refine aZ (Kf au (m.aE p) (n:=(f:Int)) aa aa) ?_;rintro _ ag ⟨rfl,E⟩;refine⟨E.1,?_⟩;have k:=p.trans E;simp-implicitDefEqProofs(disch:=try exact ai)only[aj,aJ,aL,o (k.get d)];refine aZ (ic au (m.aE k) az u) ?_;rintro _ ak ⟨rfl,G⟩;refine⟨G.1,?_⟩;have B:=k.trans G;simp-implicitDefEqProofs(disch:=try exact ai)only[aj];refine aZ (k1 (m.aE B) aa (.copy (fQ x f) (bK x.ay f+i.a.toNat)) rfl) ?_;rintro _ U ⟨hle,rfl,y,z,w⟩;refine⟨hle,?_⟩;simp-implicitDefEqProofs(disch:=try exact ai)only[aj,aJ,o (k.get d),o (p.get d)];rw[e];exact aG.2 ⟨rfl,(eH (s.trans B) aa).trans y,z,w⟩
 have aA:(i.op==18)=false:=beq_eq_false_iff_ne.2 V;by_cases N:i.op=19
 ·have t:∀j:Int,(i.op==j)=(19==j):=λj=>by rw[N]
  have e:ei x f c i=bif ep c i.a then[bB.copy (bK x.ay f+i.a.toNat) (fl x i.n.toNat)]else[]:=by simp only[ei,N]
  have u:=(yO N q).1;have c4:=(l1 (yO N q).2).1;have cJ:=(l1 (yO N q).2).2.1;simp-implicitDefEqProofs(disch:=try exact ai)only[nZ,aj,aJ,aC,aL,L,o d,t,Int.reduceBEq];refine aZ (nV m u) ?_;rintro _ K ⟨rfl,p⟩;refine⟨p.1,?_⟩;cases v:ep c i.a with
  |false=>
   simp-implicitDefEqProofs(disch:=try exact ai)only[aj];exact nil (by rw[e,v];rfl) (s.trans p)
  |true=>
   rw[v]at e;simp-implicitDefEqProofs(disch:=try exact ai)only[aj,aJ,aL,o (p.get d)];refine aZ (ic au (m.aE p) az u) ?_;rintro _ ag ⟨rfl,E⟩;refine⟨E.1,?_⟩;have k:=p.trans E;simp-implicitDefEqProofs(disch:=try exact ai)only[aj,aJ,aL,o (k.get d)];refine aZ (Hm au (m.aE k) c4 aa) ?_;rintro _ ak ⟨rfl,G⟩;refine⟨G.1,?_⟩;have B:=k.trans G;simp-implicitDefEqProofs(disch:=try exact ai)only[aj];refine aZ (k1 (m.aE B) aa (.copy (bK x.ay f+i.a.toNat) (fl x i.n.toNat)) rfl) ?_;rintro _ U ⟨hle,rfl,y,z,w⟩;refine⟨hle,?_⟩;simp-implicitDefEqProofs(disch:=try exact ai)only[aj,aJ,o (k.get d),o (p.get d)];rw[e];exact aG.2 ⟨rfl,(eH (s.trans B) aa).trans y,z,w⟩
 have aF:(i.op==19)=false:=beq_eq_false_iff_ne.2 N;by_cases O:i.op=20
 ·have t:∀j:Int,(i.op==j)=(20==j):=λj=>by rw[O]
  have e:ei x f c i=bif ep c i.a then[bB.copy (fl x i.n.toNat) (bK x.ay f+i.a.toNat)]else[]:=by simp only[ei,O]
  have u:=(yP O q).1;have c4:=(l1 (yP O q).2).1;have cJ:=(l1 (yP O q).2).2.1;simp-implicitDefEqProofs(disch:=try exact ai)only[nZ,aj,aJ,aC,aL,L,o d,t,Int.reduceBEq];refine aZ (nV m u) ?_;rintro _ K ⟨rfl,p⟩;refine⟨p.1,?_⟩;cases v:ep c i.a with
  |false=>
   simp-implicitDefEqProofs(disch:=try exact ai)only[aj];exact nil (by rw[e,v];rfl) (s.trans p)
  |true=>
   rw[v]at e;simp-implicitDefEqProofs(disch:=try exact ai)only[aj,aJ,aL,o (p.get d)];refine aZ (Hm au (m.aE p) c4 aa) ?_;rintro _ ag ⟨rfl,E⟩;refine⟨E.1,?_⟩;have k:=p.trans E;simp-implicitDefEqProofs(disch:=try exact ai)only[aj,aJ,aL,o (k.get d)];refine aZ (ic au (m.aE k) az u) ?_;rintro _ ak ⟨rfl,G⟩;refine⟨G.1,?_⟩;have B:=k.trans G;simp-implicitDefEqProofs(disch:=try exact ai)only[aj];refine aZ (k1 (m.aE B) aa (.copy (fl x i.n.toNat) (bK x.ay f+i.a.toNat)) rfl) ?_;rintro _ U ⟨hle,rfl,y,z,w⟩;refine⟨hle,?_⟩;simp-implicitDefEqProofs(disch:=try exact ai)only[aj,aJ,o (k.get d),o (p.get d)];rw[e];exact aG.2 ⟨rfl,(eH (s.trans B) aa).trans y,z,w⟩
 have aH:(i.op==20)=false:=beq_eq_false_iff_ne.2 O;simp-implicitDefEqProofs(disch:=try exact ai)only[nZ,aj,aC,L,ar,aw,ax,aA,aF,aH,fz (i:=i) (wi:=wi) d];refine aZ (Vt au m az hw q al aa) ?_;rintro r K T;exact⟨T.2.1.1,aG.2 (ap ⟨rfl,T.2⟩)⟩
end
end
section
open Go.a2
set_option maxRecDepth 2000
section
variable {H:ad}{ok:Nat->Prop}{x:bj}{f:Nat}{c:bH}{i:In}{gv gw ch cc rv wi:ae}{M:Nat}{l:List bB}
def bq.q6{α:Type}{K:ek α}{H:ad}{l:List α}{v:ae}{M:Nat}(h:bq K (M+1) bk H l v)(e:∀{H H':ad} {ok:Nat->Prop} {a cs},K.V H ok a cs->K.V H' ok a cs)(b:bn):bq K (M+1) bk (H.set M b) l v:=by
 refine⟨?_,h.low⟩;rcases h.e9 with af|⟨L',els,cap,c,f,g,j,k,m⟩
 ·exact .inl af
 ·have:=h.low _ _ _ c;exact .inr ⟨L',els,cap,c,f,by rw[ad.cb aa];exact g,j,k,λi a d=>by obtain⟨cs,n,o⟩:=m i a d;exact⟨cs,n,e o⟩⟩
def aO.q6{α:Type}{K:ek α}{H:ad}{l:List α}{v:ae}{M:Nat}(h:aO K H (· <M) l v)(b:bn):aO K (H.set M b) (· <M) l v:=h.keep λk b a g=>⟨a,by rw[ad.cb aa];exact g⟩
def HA(h:dy x f c i=C)(au:eO x):(ei x f c i).length<=7:=by
 have e:∀(at_ to:Nat) (ak:List Int) (k:Nat),(jd c at_ to ak k).length<=ak.length:=by
  intro at_ to ak
  induction ak with
  |nil=>intro k;simp[jd]
  |cons v ak j=>intro k;have:=j (k+1);rw[jd];cases ep c v<;>simp<;>omega
 have one:∀(b:Bool) (z:bB),(bif b then[z]else[]).length<=7:=λb z=>by cases b<;>simp
 unfold ei;simp only
 split
 case h_8 d=>
  obtain⟨g,aP⟩:=uA d h;have af:=e (bK x.ay f) (bK x.ay i.c.toNat) i.args 0;have ah:=aP.len;have an:=(jZ (au.code aP.at_.2)).params;rw[List.length_append];have aM:(bif decide (0<=i.a)&&ep c i.a then[bB.copy (bK x.ay f+i.a.toNat) (fQ x i.c.toNat)]else[]).length<=1:=by cases(decide (0<=i.a)&&ep c i.a)<;>simp
  omega
 all_goals first|exact one _ _|simp
def Vq(m:fy x f c gv gw ch cc M l H rv){k:Nat}{g:bH}{v w:ae}(bR:aO eV H (· <M) g.vars v)(b0:aO fD H (· <M) g.ins w):
  cD P (H.push (.row Z 7 [cW g v w])) 3 (.ptr M 0 8) (J X k)=D ((H.push (.row Z 7 [cW g v w])).set M (.row Z 12 [hJ x k c gv gw ch cc rv]))/\
  cD P ((H.push (.row Z 7 [cW g v w])).set M (.row Z 12 [hJ x k c gv gw ch cc rv])) 49 (.ptr M 0 0) (.agg (cW g v w))=D ((H.push (.row Z 7 [cW g v w])).set M (.row Z 12 [hJ x k g v w ch cc rv]))/\
  fy x k g v w ch cc M l ((H.push (.row Z 7 [cW g v w])).set M (.row Z 12 [hJ x k g v w ch cc rv])) rv:=by
 have e:=m.lt;have pp:=av.push H (.row Z 7 [cW g v w]);have a:=pp.get m.g;have b:=ad.bE a;have d:((H.push (.row Z 7 [cW g v w])).set M (.row Z 12 [hJ x k c gv gw ch cc rv])).get M=D (.row Z 12 [hJ x k c gv gw ch cc rv]):=ad.c8 b;have af:=bR.one;have ah:=b0.one;refine⟨?_,?_,?_⟩
 ·rw[gf (n:=1) aF a rfl rfl rfl bU];rfl
 ·rw[gf (n:=7) aF d rfl rfl (by simp[cW,ae.cells,af,ah];simp[ae.one]) bU,ad.set_set];rfl
 ·exact⟨ad.c8 b,(m.r.aE pp).q6 (λh=>h) _,(bR.aE pp).q6 _,(b0.aE pp).q6 _,(m.aH.aE pp).q6 _,(m.aq.aE pp).q6 _⟩
def IM(au:eO x)(az:x.ay[f]? =D c){R q:Nat}{L1:ae->ae->ae->ae->ad->O}{Q:ae->ad->Prop}{N:Nat}:∀(j k n:Nat) (H:ad) (l:List bB) (rv:ae),k+j=c.ins.length->j<n->c.ins.length<=1000000->l.length+7*j+R<=1000000->fy x f c gv gw ch cc M l H rv->
  (∀H' e a,cT M H H'->a=l++(c.ins.drop k).flatMap (ei x f c)->a.length+R<=1000000->fy x f c gv gw ch cc M a H' e->W (uk (aQ P aK) N L1 (.ptr M 0 0) cc (J X x.ay.length) (J X q) H') Q)->
  W (uo (aQ P aK) N L1 n (.ptr M 0 0) cc (J X x.ay.length) (J X q) gw (J X c.ins.length) (J X k) H) Q
 |_,_,0,_,_,_,_,hm,_,_,_,_=>aa
 |0,k,n+1,H,l,rv,r,_,_,al,m,fin=>by
  have b:¬(k:Int)<(c.ins.length:Int):=aa;have:=fin H rv l (.refl _ _) (by rw[List.drop_of_length_le aa];simp) aa m;simp-implicitDefEqProofs(disch:=try exact ai)only[uo,yx,aj,aC,b,decide_false];exact this
 |j+1,k,n+1,H,l,rv,r,z,v,al,m,fin=>by
  have b:(k:Int)<(c.ins.length:Int):=aa;have d:k<c.ins.length:=aa;have B:=m.lt;obtain⟨L,nn,wi,s,t,h⟩:=m.b0.rZ (j:=(k:Int)) (i:=c.ins[k]) aa (by simp[d]);have g:dy x f c c.ins[k]=true:=(jZ (au.code az)).ins (List.getElem_mem d);have on:=IM au az (R:=R) (q:=q) (L1:=L1) (Q:=Q) (N:=N) j (k+1) n;rw[List.drop_eq_getElem_cons d,List.flatMap_cons]at fin;generalize c.ins[k]=i at*;have y:=HA g au;have st:=oa (i:=i) (w:=wi) (ad.a_ H (.row Z 6 [[J X 0,J X 0,J X 0,J X 0,J X 0,.aB]])) h.one;have pp:=av.push H (.row Z 6 [b5 i wi]);have o:=ad.a_ H (.row Z 6 [b5 i wi])
  simp-implicitDefEqProofs(disch:=try exact ai)only[uo,yx,Nat.reduceAdd,aj,aJ,aC,b,decide_true,s,t _ (av.refl _),st,ad.ga,fz o];refine aZ (Vf au (m.aE pp) az (h.aE pp) g aa) ?_;rintro _ K ⟨rfl,p,e,e5⟩;refine⟨p.1,?_⟩;have pu:cT M H K:=(eH pp aa).trans p;simp-implicitDefEqProofs(disch:=try exact ai)only[aj,aC,cq (show k<=1000000000 by omega)];refine on K _ e aa aa aa (by rw[List.length_append];omega) e5 λH' u a af ah an aM=>fin H' u a (pu.trans af) (by rw[ah,List.append_assoc]) an aM
def IN(au:eO x)(hlen:∀c∈x.ay,c.ins.length<=2500){N:Nat}(s:2501<=N):∀(j k n:Nat) (H:ad) (f:Nat) (c:bH) (gv gw:ae) (l:List bB) (rv:ae),k+j=x.ay.length->j<n->l.length+7*fW (x.ay.drop k)<=1000000->fy x f c gv gw ch cc M l H rv->
  W (um (aQ P aK) N n (.ptr M 0 0) cc (J X x.ay.length) (J X k) H) λr H'=>cT M H H'/\bq e0 (M+1) bk H' (l++k8 x (x.ay.drop k) k) r
 |_,_,0,_,_,_,_,_,_,_,_,hm,_,_=>aa
 |0,k,n+1,H,f,c,gv,gw,l,rv,u,_,_,m=>by
  have h:¬(k:Int)<(x.ay.length:Int):=aa;simp-implicitDefEqProofs(disch:=try exact ai)only[um,yw,uj,aj,aJ,aC,aL,h,decide_false,l_ m.g];refine aG.2 ⟨.refl _ _,?_⟩;rw[List.drop_of_length_le aa,k8,List.append_nil];exact m.r
 |j+1,k,n+1,H,f,c,gv,gw,l,rv,u,ag,al,m=>by
  have h:(k:Int)<(x.ay.length:Int):=aa;have d:k<x.ay.length:=aa;have am:=m.lt;have V:=au.ay;obtain⟨L,nn,v,w,Q,S,bR,b0⟩:∃L n v w,cm P 24 cc (J X k)=D (.ptr L n 0)/\(∀H',av H H'->aI P H' 49 (.ptr L n 0)=D (.agg (cW x.ay[k] v w)))/\aO eV H (· <M) x.ay[k].vars v/\aO fD H (· <M) x.ay[k].ins w:=by
   obtain⟨L,n,ro,els,cs,af,_,ah,an,v,w,rfl,bR,b0⟩:=m.aq.at_ (K:=fC) cI (j:=(k:Int)) (a:=x.ay[k]) aa (by simp[d]);exact⟨L,n,v,w,af,λH' p=>gY (n:=7) (c:=0) aF aF (p.get ah) an (by exact bC 7),bR,b0⟩
  have Y:=hlen _ (List.getElem_mem d);have t:x.ay[k]? =D x.ay[k]:=by simp[d]
  have on:=IN au hlen s j (k+1) n;rw[List.drop_eq_getElem_cons d,fW]at al;rw[List.drop_eq_getElem_cons d,k8,vc];generalize x.ay[k]=g at*;have st:=pv (c:=g) (v:=v) (w:=w) (ad.a_ H (.row Z 7 [[J X 0,.aB,A Z,J X 0,J X 0,J X 0,.aB]])) bR.one b0.one;obtain⟨s1,s2,B⟩:=Vq m (k:=k) bR b0;have cg:=ad.a_ H (.row Z 7 [cW g v w]);have G:M≠H.next:=aa
  have i:∀b:bn,((H.push (.row Z 7 [cW g v w])).set M b).get H.next=D (.row Z 7 [cW g v w]):=λb=>by rw[ad.cb G];exact cg
  have rg:bF (D (.agg (cW g v w))) (.agg (cW g v w))=true:=Br bR b0;simp-implicitDefEqProofs(disch:=try exact ai)only[um,yw,br,Nat.reduceAdd,aj,aJ,aC,aL,h,decide_true,Q,S _ (av.refl _),st,ad.ga,s1,s2,AM cg,AM (i _),rg,hH (i _),b0.len eA];refine IM au t (R:=7*fW (x.ay.drop (k+1))) g.ins.length 0 N _ l rv aa aa aa aa B ?_;intro H' T z pu e y E;rw[List.drop_zero]at e;have O:cT M H H':=by
   refine cT.trans ⟨by simp,λak ab=> ?_⟩ pu;rw[ad.cb aa,ad.dO aa]
  simp-implicitDefEqProofs(disch:=try exact ai)only[uk,aj,aC,cq (show k<=1000000000 by omega)];refine(on H' k g v w z T aa aa y E).mono ?_;rintro r U ⟨o,q⟩;exact⟨O.trans o,by rw[<-List.append_assoc,<-e];exact q⟩
def PO(au:right x=C){V:ae}(aA:cM H ok x V):W (aQ P aK 77 [V] H) λr H'=>bq e0 H.next bk H' (cons x) r/\av H H':=by
 have s:=aA;have i:=gA au;obtain⟨_,rfl,a,b,cc,d,rfl,af,ah,an,aM⟩:=aA;refine Za 2501 ?_;have m:=av.push H (.row Z 5 [[a,b,cc,d,J X x.main]]);have f:=ad.a_ H (.row Z 5 [[a,b,cc,d,J X x.main]]);have N:bF (D (.agg [a,b,cc,d,J X x.main])) (.agg [a,b,cc,d,J X x.main])=true:=by simp[bF,ae.beq,er.beq,af.rd,ah.rd,an.rd,aM.rd]
 simp-implicitDefEqProofs(disch:=try exact ai)only[Dy,aj,dV af ah an aM,cH f];refine aZ (oO (s.aE m) (mV i) (mW au)) ?_;rintro _ K ⟨rfl,p⟩;refine⟨p.1,?_⟩;rw[au];simp-implicitDefEqProofs(disch:=try exact ai)only[aj,Bool.not_true,cH (p.get f)];refine aZ (Bb i ((s.aE m).aE p)) ?_;rintro ch Q ⟨cJ,v⟩;refine⟨v.1,?_⟩;have j:=p.trans v;simp-implicitDefEqProofs(disch:=try exact ai)only[aj,cH (j.get f)];refine aZ (yY i ((s.aE m).aE j)) ?_;rintro _ h ⟨rfl,u⟩;refine⟨u.1,?_⟩;have t:=j.trans u;have q:=m.trans t;have B:=an.below.keep (H':=h) (ok':=(· <h.next)) λk b E g=>⟨Nat.lt_of_lt_of_le E q.1,q.get g⟩
 have G:=(cJ.aE u).aD.below;have no:=cJ.aD.one;have co:=an.one
 let bh:bH:=⟨0,[],Z,⟨0,0,0⟩,[]⟩
 have w:dU P 196 [(1,ch),(3,J X (fb x.ay)),(4,cc)]=D (.agg (hJ x 0 bh .aB .aB ch cc .aB)):=Fl no rfl co;have y:fe h.next (.agg (hJ x 0 bh .aB .aB ch cc .aB))=D (.ptr h.next 0 0,.row Z 12 [hJ x 0 bh .aB .aB ch cc .aB]):=oA _ _ (by simp[hJ,no,co];simp[ae.one])
 have l:=av.push h (.row Z 12 [hJ x 0 bh .aB .aB ch cc .aB]);have M:fy x 0 bh .aB .aB ch cc h.next [] (h.push (.row Z 12 [hJ x 0 bh .aB .aB ch cc .aB])) .aB:=
  ⟨ad.a_ _ _,bq.nil _ _ _ _,.inl ⟨rfl,rfl⟩,.inl ⟨rfl,rfl⟩,G.aE l,B.aE l⟩
 simp-implicitDefEqProofs(disch:=try exact ai)only[br,aj,aJ,aL,dA (t.get f),dA (j.get f),dA (p.get f),cH (j.get f),cH (p.get f),N,eI an,w,y,dA (l.get (t.get f)),an.len cI];have hlen:∀c∈x.ay,c.ins.length<=2500:=λc aq=>by have:=r0 aq;have:=qw au;omega
 refine(IN i hlen (bC _) x.ay.length 0 2501 _ 0 bh .aB .aB [] .aB aa (by have:=i.ay;omega) (by rw[List.drop_zero];have:=qw au;simp;omega) M).mono ?_;rintro r O ⟨z,o⟩;rw[List.drop_zero,List.nil_append]at o;refine⟨⟨o.e9,λL n cap e=>by have:=o.low L n cap e;have:=q.1;omega⟩,q.trans (cT.aE (cT.trans (eH l (bC _)) z))⟩
end
end
section
set_option maxRecDepth 100000
set_option maxHeartbeats 4000000
noncomputable section
def qz(G:aw)(N:Nat):et 8 Tryz.f101 G N (·.ag.ag.ag.ag.ag) (bg Tryz.f101) []:=⟨_,v1 ao⟩
def BJ(G:aw)(N:Nat)(L2:b_):en 8 49 50 51 Tryz.f101 G N (·.ag.ag.ag.ag.ax.ag.ax.ax.ag.ag.ag) (bT L2 8 49 50 51) [(2,(a8 (qz G N) 8))]:=⟨_,v4 ao⟩
def sF(G:aw)(N:Nat)(L2:b_):en 8 49 50 51 Tryz.f101 G N (·.ag.ag.ag.ag.ax.ag.ax.ax) (bT L2 8 49 50 51) [(2,(a8 (qz G N) 8))]:=⟨_,v4 (ak (ak (ak ((BJ G N L2).2) ao) ao) ao)⟩
def qA(G:aw)(N:Nat):Nat->b_
 |0=>fk
 |n+1=>sF G N (qA G N n)
def wG(G:aw)(N:Nat):et 5 Tryz.f101 G N (·.ag.ag.ag) (bg Tryz.f101) []:=⟨_,v1 (ak (ak ((qz G N).2) (ak (bD (b3 (λm=>(sF G N (qA G N m)).2))) ao)) ao)⟩
def wF(G:aw)(N:Nat)(L4:c6):gj 0 5 6 Tryz.f101 G N (·.ag.ag.ax.ag.ax.ax) (bJ L4 0 5 6) [(0,(a8 (wG G N) 5))]:=⟨_,v3 ao⟩
def sG(G:aw)(N:Nat):Nat->c6
 |0=>iq
 |n+1=>wF G N (sG G N n)
def BI(G:aw)(N:Nat):fJ Tryz.f101 G N:=⟨_,t2 (ak (ak (ak ((wG G N).2) (ak (bD (b3 (λm=>(wF G N (sG G N m)).2))) ao)) ao) ao)⟩
def Xh(N:Nat):=dc Tryz.func101 λG=>(BI G N).2
def xe(G:aw):ev Tryz.f147 G:=⟨_,λN=>t2 ao⟩
def XF(N:Nat):=dc Tryz.func147 λG=>(xe G).2 N
end
end
end Go.Proofs.YtmhhnnklfcbgfaaGreat
namespace Go.a2
open Go.bz
open Classical
def kh:List (List Int)->List Bool->Nat
 |f::fs,b::bs=>(if b then 0 else f.length)+kh fs bs
 |_,_=>0
def MC:∀{fs:List (List Int)} {met:List Bool} {c:Nat} {f:List Int},fs[c]? =D f->met[c]? =D Z->kh fs (met.set c C)+f.length=kh fs met
 |[],_,_,_,h,_=>by simp at h
 |_::_,[],_,_,_,h=>by simp at h
 |g::fs,b::bs,0,f,h,ah=>by
  simp only[List.getElem?_cons_zero,bb]at h ah;subst h;subst ah;simp[kh];omega
 |g::fs,b::bs,c+1,f,h,ah=>by
  have:=MC (fs:=fs) (met:=bs) (c:=c) (by simpa using h) (by simpa using ah);simp only[List.set_cons_succ,kh];omega
structure jw(fs:List (List Int))(roots:List Int)(met:List Bool)(work:List Int):Prop where
 len:met.length=fs.length
 snd:∀c:Nat,met[c]? =some true->eX fs roots c
 Em:∀n:Nat,(n:Int)∈work->n<fs.length->eX fs roots n
 eS:∀n:Nat,(n:Int)∈roots->n<fs.length->met[n]? =some true\/(n:Int)∈work
 D5:∀c:Nat,met[c]? =some true->∀f,fs[c]? =some f->∀d:Nat,(d:Int)∈f->d<fs.length->met[d]? =some true\/(d:Int)∈work
def jw.start(fs:List (List Int))(roots:List Int):jw fs roots (List.replicate fs.length Z) roots:=
 ⟨by simp,λc h=>by rw[List.getElem?_replicate]at h;split at h<;>simp at h,λn h al=> .root h al,λn h _=> .inr h,λc h=>by rw[List.getElem?_replicate]at h;split at h<;>simp at h⟩
def jw.skip{fs:List (List Int)}{roots work:List Int}{met:List Bool}{a:Int}(h:jw fs roots met (work++[a]))(b:∀n:Nat,a=n->n<fs.length->met[n]? =D C):jw fs roots met work:=by
 have key:∀n:Nat,n<fs.length->met[n]? =D C\/(n:Int)∈work++[a]->met[n]? =D C\/(n:Int)∈work:=by
  rintro n aH (af|af)
  ·exact .inl af
  ·rcases List.mem_append.1 af with af|af
   ·exact .inr af
   ·simp only[List.mem_singleton]at af;exact .inl (b n af.symm aH)
 exact⟨h.len,h.snd,λn aH=>h.Em n (List.mem_append.2 (.inl aH)),λn aH al=>key n al (h.eS n aH al),λc aq f az d e al=>key d al (h.D5 c aq f az d e al)⟩
def jw.take{fs:List (List Int)}{roots work f:List Int}{met:List Bool}{c:Nat}(h:jw fs roots met (work++[(c:Int)]))(az:fs[c]? =D f):jw fs roots (met.set c C) (work++f):=by
 have aq:=(List.getElem?_eq_some_iff.1 az).1;have au:eX fs roots c:=h.Em c (by simp) aq;have i:c<met.length:=by rw[h.len];exact aq
 have a:∀n:Nat,(met.set c C)[n]? =D C↔n=c\/met[n]? =D true:=by
  intro n;rw[List.getElem?_set];by_cases e:c=n
  ·subst e;simp[i]
  ·simp[e,Ne.symm e]
 have key:∀n:Nat,met[n]? =D C\/(n:Int)∈work++[(c:Int)]->(met.set c C)[n]? =D C\/(n:Int)∈work++f:=by
  rintro n (af|af)
  ·exact .inl ((a n).2 (.inr af))
  ·rcases List.mem_append.1 af with af|af
   ·exact .inr (List.mem_append.2 (.inl af))
   ·simp only[List.mem_singleton,Int.ofNat_inj]at af;exact .inl ((a n).2 (.inl af))
 refine⟨by simp[h.len],?_,?_,λn aH al=>key n (h.eS n aH al),?_⟩
 ·intro n aH;rcases(a n).1 aH with rfl|af
  ·exact au
  ·exact h.snd n af
 ·intro n aH al;rcases List.mem_append.1 aH with af|af
  ·exact h.Em n (List.mem_append.2 (.inl af)) al
  ·exact .step au az af al
 ·intro n aH g aP d b al;rcases(a n).1 aH with rfl|af
  ·rw[az]at aP;cases aP;exact .inr (List.mem_append.2 (.inr b))
  ·exact key d (h.D5 n af g aP d b al)
def jw.done{fs:List (List Int)}{roots:List Int}{met:List Bool}(h:jw fs roots met [])(c:Nat):met[c]? =D C↔eX fs roots c:=by
 refine⟨h.snd c,λau=> ?_⟩
 induction au with
 |root af ah=>exact(h.eS _ af ah).elim id λh=>by simp at h
 |step _ az a al i=>exact(h.D5 _ i _ az _ a al).elim id λh=>by simp at h
def jQ:List Bool->Nat->List Int
 |[],_=>[]
 |b::bs,k=>if b then(k:Int)::jQ bs (k+1)else jQ bs (k+1)
def Ea{m:Nat}{p:Nat->Prop}:∀{bs:List Bool} {k:Nat},bs.length+k=m->(∀i,k<=i->i<m->(bs[i-k]? =D C↔p i))->jQ bs k=((cY m p).filter (λi=>decide (k<=i))).map (λ(n:Nat)=>(n:Int))
 |[],k,al,_=>by
  have:(cY m p).filter (λi=>decide (k<=i))=[]:=by
   rw[List.filter_eq_nil_iff];intro a d;have:=(fB.1 d).1;simp at al ⊢;omega
  rw[this];rfl
 |b::bs,k,al,h=>by
  simp only[List.length_cons]at al;have j:=Ea (m:=m) (p:=p) (bs:=bs) (k:=k+1) (by omega) λi l hm=>by
   have:=h i (by omega) hm;rw[show i-k=(i-(k+1))+1 by omega]at this;simpa using this
  have e:=h k (bC _) (by omega);rw[Nat.sub_self]at e;simp only[List.getElem?_cons_zero,bb]at e;have g:(cY m p).filter (λi=>decide (k<=i))=(if b then[k]else[])++(cY m p).filter (λi=>decide (k+1<=i)):=by
   refine Bw ((sr m p).filter _) ?_ λa=> ?_
   ·rw[List.pairwise_append];refine⟨by split<;>simp,(sr m p).filter _,λa d c aq=> ?_⟩;rw[List.mem_filter]at aq;split at d
    ·simp only[List.mem_singleton]at d;subst d;have:=of_decide_eq_true aq.2;omega
    ·simp at d
   ·rw[List.mem_append,List.mem_filter,List.mem_filter,fB];constructor
    ·rintro⟨⟨af,ah⟩,an⟩;have an:k<=a:=by simpa using an
     rcases Nat.lt_or_eq_of_le an with aM|rfl
     ·exact .inr ⟨⟨af,ah⟩,decide_eq_true (by omega)⟩
     ·rw[e.2 ah];exact .inl (by simp)
    ·rintro(af|⟨af,ah⟩)
     ·split at af
      ·rename_i f;simp only[List.mem_singleton]at af;subst af;exact⟨⟨by omega,e.1 f⟩,by simp⟩
      ·simp at af
     ·refine⟨af,?_⟩;have:k+1<=a:=by simpa using ah
      simp;omega
  rw[g,jQ,j];cases b<;>simp
def jw.list{fs:List (List Int)}{roots:List Int}{met:List Bool}(h:jw fs roots met []):jQ met 0=(dS fs roots).map (λ(n:Nat)=>(n:Int)):=by
 have:=Ea (m:=fs.length) (p:=eX fs roots) (bs:=met) (k:=0) (by have:=h.len;omega) λi _ _=>by rw[Nat.sub_zero];exact h.done i
 rw[this];unfold dS
 congr 1
 rw[List.filter_eq_self];intro a _;simp
