/-
  Texts of one proof, laid together: Sb Sc ShI Ta Tb Tc SgM Td.
-/
import Derived.Test.YtmhhnnklfcbgfaaGreatMN
set_option linter.unusedVariables false
set_option linter.unusedSimpArgs false
set_option linter.defProp false
open Option renaming some→A,none→Z
open Bool renaming true→J,false→I
open Go.cw.af renaming int→D,bool→C
open Go.IntKind renaming i64→F
namespace Go.Proofs.YtmhhnnklfcbgfaaGreat
open Go.cw
open Nat (reduceAdd reduceLeDiff)
section
open Go.a_
set_option maxRecDepth 2000
structure hY(n m:Nat)(k:a_.dg):Prop where
 dD:k.fields.length=k.count
 f8:∀f∈k.fields,f.length=8
 mi:k.count<=m
 FE:k.of.length=m
 nl:k.nodes.length=n
 lt:∀c∈k.of,c<k.count
def VO(n m:Nat)(l:List bp):hY n m (a_.merge (hb n m l) m):=by
 refine⟨by simp[a_.merge,qW],λf aC=> ?_,vi _ _,by simp[a_.merge,qW],by simp[a_.merge,qW,hb,il],λc aA=> ?_⟩
 ·grind[a_.merge,qW]
 ·simp only[a_.merge,qW,List.mem_map,List.mem_range]at aA;obtain⟨s,a,rfl⟩:=aA;exact Ei (bR.jO _).eqv a
def y0(x:bC):hY (cf x) x.sites.length (a_.hf x):=by
 obtain⟨k,_,_,_,h⟩:=Iw (cf x) x.sites.length (cons x);unfold a_.hf;rw[h];exact VO _ _ _
def SK{c:Nat}:∀{fs:List (List Int)} {bs:List Bool},(∀f∈fs,f.length<=c)->lk fs bs<=c*fs.length
 |[],bs,_=>by simp[lk]
 |f::fs,[],_=>by simp[lk]
 |f::fs,b::bs,h=>by
  have ah:=SK (c:=c) (fs:=fs) (bs:=bs) λg aS=>h g al
  grind[Nat.mul_succ,lk]
def gI(a b cc d:af)(ha:Int)(n:Nat)(ov nv fv gv uv:af):List af:=[a,b,cc,d,D F ha,D F (n:Nat),ov,nv,fv,gv,uv]
section
variable {H:ae}{W0:Nat}{a b cc d ov nv fv gv uv:af}{ha:Int}{n:Nat}
def mF(g:H.get W0=A (.row I 11 [gI a b cc d ha n ov nv fv gv uv])):aI P H 24 (.ptr W0 0 2)=A cc/\aI P H 30 (.ptr W0 0 6)=A ov/\aI P H 30 (.ptr W0 0 7)=A nv/\aI P H 31 (.ptr W0 0 8)=A fv/\aI P H 30 (.ptr W0 0 9)=A gv/\aI P H 31 (.ptr W0 0 10)=A uv:=by
 refine⟨?_,?_,?_,?_,?_,?_⟩<;>(rw[e0 aF g rfl];rfl)
def aaB(g:H.get W0=A (.row I 11 [gI a b cc d ha n ov nv fv gv uv])):aI P H 27 (.ptr W0 0 0)=A (.agg [a,b,cc,d,D F ha]):=hz (n:=5) (i:=0) (c:=0) aF aF g rfl bZ
theorem SR{k:a_.dg}{nn m:Nat}{ok ok':Nat->Prop}(e:hY nn m k)(hm:m<=60)(g:H.get W0=A (.row I 11 [gI a b cc d ha n ov nv fv gv uv]))(aC:aH (bu aN) H ok k.fields fv){roots:List Int}{rv:af}(ar:aH aN H ok' roots rv)(h:roots.length<=100000000):
  W (aK P aG 47 [.ptr W0 0 0,rv] H) λr H'=>aY aN H.next bb H' (aQ (fE k.fields roots)) r/\au H H':=by
 refine afh 0 ?_;have ah:=e.dD;have ai:=e.mi;have ax:=SK (c:=8) (fs:=k.fields) (bs:=List.replicate k.fields.length I) λf aC=>Nat.le_of_eq (e.f8 f aC)
 refine bG @HP.eq_1 (mF g) ?_;refine e2 (YC aC ar ad ad) λr H1 i j=> ?_
 grind[aD]
end
end
section
open Go.a_
set_option maxRecDepth 2000
section
variable {H:ae}{ok:Nat->Prop}
def aH.o0{l:List bT}{v:af}(h:aH gf H ok l v){j:Int}{g:bT}(b:0<=j)(c:l[j.toNat]? =A g):∃L n gv gw,ct P 24 v (D F j)=A (.ptr L n 0)/\(∀H',au H H'->aI P H' 3 (.ptr L n 0)=A (D F g.params)/\aI P H' 23 (.ptr L n 1)=A gv/\aI P H' 47 (.ptr L n 6)=A gw)/\aH e_ H ok g.vars gv/\aH gq H ok g.ins gw:=by
 obtain⟨L,n,ro,els,cs,d,i,e,f,gv,gw,rfl,bV,b9⟩:=aH.at_ (K:=gf) cD h b c;refine⟨L,n,gv,gw,d,λH' p=> ?_,bV,b9⟩;have a:=p.get e;refine⟨?_,?_,?_⟩<;>(rw[e0 aF a f];rfl)
theorem aH.sub{l:List Int}{v:af}(h:aH aN H ok l v)(aA:hI v){a n:Nat}(aL:0<n)(o:a+n<=l.length):∃L i cap,gu P 30 v (A (.int .i64 (a:Nat))) (A (.int .i64 ((a+n:Nat):Int))) Z=A (.az L i n 1 cap)/\aH aN H ok ((l.drop a).take n) (.az L i n 1 cap)/\∃ro els,H.get L=A (.row ro 1 els)/\i+n<=els.length/\∀q,cap=A q->n<=q:=by
 have u:P.underlying 30=A (.slice 3):=aF;have f:cE P 3=A 1:=aF;rcases h with⟨_,rfl⟩|⟨L,i,cap,ro,els,rfl,ai,ax,aM,m⟩|⟨_,_,_,_,rfl⟩
 ·grind
 ·have p:l.length<=cap.getD l.length:=by
   cases cap with
   |none=>grind
   |some c=>exact aA _ _ _ _ _ rfl
  have hlen:((l.drop a).take n).length=n:=al;refine⟨L,i+a,cap.map (· -a),?_,.inr (.inl ⟨L,i+a,cap.map (· -a),ro,els,by rw[hlen];rfl,ai,ax,ad,λj x r=> ?_⟩),ro,els,ax,ad,λq aJ=>by
   cases cap with
   |none=>grind
   |some c=>grind⟩
  ·have g:(a:Int)+(n:Int)<=(cap.getD l.length:Nat):=ad;have k:((a+n:Nat):Int)<=((cap.getD l.length:Nat):Int):=ad;have b:dL (A (.int .i64 ((a+n:Nat):Int))) l.length (cap.getD l.length)=A (a+n):=by
    grind[dL]
   have d:dL (A (.int .i64 ((a:Nat):Int))) 0 (a+n)=A a:=by
    simp only[dL];grind
   have e:aN.esz=1:=rfl;simp only[gu,u,f,e,if_true,b,d];grind
  grind
 grind
variable {x:bC}
def oI(x:bC)(k:a_.dg)(f:Nat)(c:bT):List Int:=(List.range c.vars.length).map λv=>k.node (bk x.ay f+v)
theorem ajz{k:a_.dg}{f:Nat}{c:bT}(ar:ez x)(a:hY (cf x) x.sites.length k)(aC:x.ay[f]? =A c):(k.nodes.drop (bk x.ay f)).take c.vars.length=oI x k f c/\bk x.ay f+c.vars.length<=k.nodes.length:=by
 have ah:bk x.ay f+c.vars.length<=k.nodes.length:=by
  rw[a.nl];have:=Dn aC;have ai:bk x.ay (f+1)<=fN x.ay:=IK al;grind[cf]
 refine⟨?_,ah⟩;apply List.ext_getElem?;grind[oI,dg.node]
theorem ajN(ar:right x=J){k:a_.dg}(u:hY (cf x) x.sites.length k){W0:Nat}{a b cc d ov nv fv gv uv:af}{n:Nat}(g:H.get W0=A (.row I 11 [gI a b cc d x.main n ov nv fv gv uv]))(aE:cA H ok x (.agg [a,b,cc,d,D F x.main])){ok':Nat->Prop}(aL:aH aN H ok' k.nodes nv)(aA:hI nv){f:Nat}{c:bT}(aC:x.ay[f]? =A c):
  W (aK P aG 44 [.ptr W0 0 0,D F (f:Nat)] H) λr H'=>aH aN H' ok' (oI x k f c) r/\au H H'/\((r= .ao/\c.vars.length=0)\/∃L i cap ro els,r= .az L i c.vars.length 1 cap/\H'.get L=A (.row ro 1 els)/\i+c.vars.length<=els.length/\∀q,cap=A q->c.vars.length<=q):=by
 have w:=aE;have h:=ga ar;obtain⟨o,p⟩:=ajz h u aC;obtain⟨_,aJ,M,N,a1,d1,e,ah,ai,ax,aM⟩:=aE;cases aJ;simp only[List.cons.injEq,and_true]at e;obtain⟨rfl,rfl,rfl,rfl⟩:=e;refine aff 0 ?_;obtain⟨L,i,O,Q,z,B,bV,b9⟩:=ax.o0 (j:=(f:Int)) ad (fA aC);obtain⟨V,E,Y⟩:=B H (.refl _);have U:=(ia (h.code aC)).vars;refine c_ @HL.eq_1 (mF g) z E (bV.bg cS) ?_;by_cases t:c.vars.length=0
 ·have m:(((c.vars.length:Nat):Int)==0)=true:=al;refine bP m ?_;have s:oI x k f c=[]:=al;exact aD.2 ⟨by rw[s];exact .nil,.refl _,.inl ⟨rfl,t⟩⟩
 ·have m:(((c.vars.length:Nat):Int)==0)=false:=al;refine bG m (aaB g) ?_;refine bw (ajy ar w aC (v:=0) ad) λH1 l=> ?_
  have T:=qd h f;have S:=(List.getElem?_eq_some_iff.1 aC).1;have R:=h.ay;have hw:IntKind.i64.wrap (((bk x.ay f:Nat):Int)+((c.vars.length:Nat):Int))=((bk x.ay f+c.vars.length:Nat):Int):=by grind[wrap_i64]
  obtain⟨L',y,cap,s1,s2,ro,els,gb,G,K⟩:=aL.sub aA ad p;rw[o]at s2;refine b3 (mF (l.get g)) hw s1 ?_;exact aD.2 ⟨s2.aB l,l,.inr ⟨L',y,cap,ro,els,rfl,l.get gb,G,K⟩⟩
theorem Ud{l m:List Int}{L i:Nat}{w:af}{ro:Bool}{els:List (List af)}(h:aH aN H ok l (.az L i l.length 1 (A l.length)))(aS:H.get L=A (.row ro 1 els))(aP:i+l.length<=els.length){okE:Nat->Prop}(hm:aH aN H okE m w)(x:0<m.length)(v:l.length+m.length<=1000000000):
  ∃g,eA P H [30,30] (.az L i l.length 1 (A l.length)) w=A (g,H.push (.row I 1 ((l++m).map λn=>[.int .i64 n])))/\g= .az H.next 0 (l++m).length 1 none:=by
 have u:P.underlying 30=A (.slice 3):=aF;have i64:qM P 30=false:=aF;have B:cE P 3=A 1:=aF;have E:lW P 3=A 8:=aF;have z3:fX P 3=A (.int .i64 0):=aF;obtain⟨⟨b,d1,d2,d3⟩,_⟩:=hm.y7 b0;have r:b=m.map λn=>[.int .i64 n]:=by
  apply List.ext_getElem?;intro j;by_cases d:j<m.length
  ·obtain⟨cs,f,a⟩:=d3 j m[j] al;rw[f];have:cs=[.int .i64 m[j]]:=a;grind
  grind
 have t:(els.drop i).take l.length=l.map λn=>[.int .i64 n]:=by
  apply List.ext_getElem?;intro j;by_cases d:j<l.length
  ·rw[List.getElem?_take,if_pos d,List.getElem?_drop];rcases h with⟨e,_⟩|⟨L',y,o,z,s,e,_,c,_,k⟩|⟨_,_,_,e,aw⟩
   ·cases e
   ·cases e;rw[aS]at c;cases c;obtain⟨cs,f,a⟩:=k j l[j] al;have:cs=[.int .i64 l[j]]:=a;grind
   grind
  grind
 have q:iR H L i l.length 1=A (l.map λn=>[.int .i64 n]):=by
  grind[iR]
 refine⟨_,?_,rfl⟩;have a1:(af.int .i64 0).cells.length=1/\0<1:=⟨rfl,bZ⟩;have p:l_ P H 30 1 w=A b:=d1;grind[eA]
end
end
section
set_option maxRecDepth 100000
set_option maxHeartbeats 4000000
noncomputable section
def Q6(G:aq):g5 Tryz.f25 G:=⟨_,λN=>o1 an (x:=trivial)⟩
def aeV(N:Nat):=en Tryz.func25 λG=>(Q6 G).2 N
def BJ(G:aq)(N:Nat):eJ 5 Tryz.f28 G N (·.aa.aa.aa) (a8 Tryz.f28) []:=⟨_,v1 an⟩
def HD(G:aq)(N:Nat)(L1:cg):dI 0 1 5 6 Tryz.f28 G N (·.aa.aa.aj.aa.aj.aj.aa.aa) (bI L1 0 1 5 6) [(0,(a1 (BJ G N) 5))]:=⟨_,v4 an⟩
def BI(G:aq)(N:Nat)(L1:cg):dI 0 1 5 6 Tryz.f28 G N (·.aa.aa.aj.aa.aj.aj) (bI L1 0 1 5 6) [(0,(a1 (BJ G N) 5))]:=⟨_,v4 (ak (ak ((HD G N L1).2) an) an)⟩
def wN(G:aq)(N:Nat):Nat->cg
 |0=>fq
 |n+1=>BI G N (wN G N n)
def Q7(G:aq)(N:Nat):fW Tryz.f28 G N:=⟨_,t2 (ak (ak (ak ((BJ G N).2) (ak (bj (bH (λm=>(BI G N (wN G N m)).2))) an)) an) an)⟩
def ae4(N:Nat):=c1 Tryz.func28 λG=>(Q7 G N).2
def pZ(G:aq)(N:Nat):eJ 5 Tryz.f29 G N (·.aa.aa.aa.aa) (a8 Tryz.f29) []:=⟨_,v1 an⟩
def rp(G:aq)(N:Nat)(L2:b6)(L3:cg):dI 0 5 7 8 Tryz.f29 G N (·.aa.aa.aa.aj.aa.aj.aj.aa.aj.aa.aa.aj.aj.aa.aa) (bI L3 0 5 7 8) [(4,(bn L2 0 5 7)),(3,(bn L2 0 5 7)),(2,(a1 (pZ G N) 5))]:=⟨_,v4 an⟩
def BN(G:aq)(N:Nat)(L2:b6)(L3:cg)(L5:cx):eY 0 5 7 8 9 Tryz.f29 G N (·.aa.aa.aa.aj.aa.aj.aj.aa.aj.aa.aa.aj.aj.aa.aj.aj.aa.aj.aj.aa.aa) (bY L5 0 5 7 8 9) [(6,(bI (rp G N L2 L3) 0 5 7 8)),(5,(bI (rp G N L2 L3) 0 5 7 8)),(4,(bn L2 0 5 7)),(3,(bn L2 0 5 7)),(2,(a1 (pZ G N) 5))]:=⟨_,v5 an⟩
def wO(G:aq)(N:Nat)(L2:b6)(L3:cg)(L5:cx):eY 0 5 7 8 9 Tryz.f29 G N (·.aa.aa.aa.aj.aa.aj.aj.aa.aj.aa.aa.aj.aj.aa.aj.aj.aa.aj.aj) (bY L5 0 5 7 8 9) [(6,(bI (rp G N L2 L3) 0 5 7 8)),(5,(bI (rp G N L2 L3) 0 5 7 8)),(4,(bn L2 0 5 7)),(3,(bn L2 0 5 7)),(2,(a1 (pZ G N) 5))]:=⟨_,v5 (ak (ak ((BN G N L2 L3 L5).2) an) an)⟩
def tC(G:aq)(N:Nat)(L2:b6)(L3:cg):Nat->cx
 |0=>hH
 |n+1=>wO G N L2 L3 (tC G N L2 L3 n)
def BL(G:aq)(N:Nat)(L2:b6)(L3:cg):dI 0 5 7 8 Tryz.f29 G N (·.aa.aa.aa.aj.aa.aj.aj.aa.aj.aa.aa.aj.aj) (bI L3 0 5 7 8) [(4,(bn L2 0 5 7)),(3,(bn L2 0 5 7)),(2,(a1 (pZ G N) 5))]:=⟨_,v4 (ak (ak ((rp G N L2 L3).2) (bj (ak (bj (bH (λm=>(wO G N L2 L3 (tC G N L2 L3 m)).2))) an))) an)⟩
def wR(G:aq)(N:Nat)(L2:b6):Nat->cg
 |0=>fq
 |n+1=>BL G N L2 (wR G N L2 n)
def BK(G:aq)(N:Nat)(L2:b6):eh 0 5 7 Tryz.f29 G N (·.aa.aa.aa.aj.aa.aj.aj) (bn L2 0 5 7) [(2,(a1 (pZ G N) 5))]:=⟨_,v3 (ak (bj (ak (ak (bj (bH (λm=>(BL G N L2 (wR G N L2 m)).2))) an) an)) an)⟩
def wQ(G:aq)(N:Nat):Nat->b6
 |0=>gD
 |n+1=>BK G N (wQ G N n)
def wP(G:aq)(N:Nat):gG 0 5 Tryz.f29 G N (·.aa.aa.aa) (a8 Tryz.f29) []:=⟨_,v2 (ak ((pZ G N).2) (ak (bj (bH (λm=>(BK G N (wQ G N m)).2))) an))⟩
def HE(G:aq)(N:Nat)(a:cg):dI 0 1 5 6 Tryz.f29 G N (·.aa.aa.aj.aa.aj.aj.aa.aa) (bI a 0 1 5 6) [(0,(bd (wP G N) 0 5))]:=⟨_,v4 an⟩
def BM(G:aq)(N:Nat)(a:cg):dI 0 1 5 6 Tryz.f29 G N (·.aa.aa.aj.aa.aj.aj) (bI a 0 1 5 6) [(0,(bd (wP G N) 0 5))]:=⟨_,v4 (ak (ak ((HE G N a).2) an) an)⟩
def wS(G:aq)(N:Nat):Nat->cg
 |0=>fq
 |n+1=>BM G N (wS G N n)
def Q8(G:aq)(N:Nat):fW Tryz.f29 G N:=⟨_,t2 (ak (ak (ak ((wP G N).2) (ak (bj (bH (λm=>(BM G N (wS G N m)).2))) an)) an) an)⟩
def ae9(N:Nat):=c1 Tryz.func29 λG=>(Q8 G N).2
def Cg(G:aq)(N:Nat):eJ 5 Tryz.f52 G N (·.aa.aa.aa) (a8 Tryz.f52) []:=⟨_,v1 an⟩
def Cf(G:aq)(N:Nat)(L1:cg):dI 1 2 5 6 Tryz.f52 G N (·.aa.aa.aj.aa.aj.aj) (bI L1 1 2 5 6) [(0,(a1 (Cg G N) 5))]:=⟨_,v4 an⟩
def xb(G:aq)(N:Nat):Nat->cg
 |0=>fq
 |n+1=>Cf G N (xb G N n)
def Ce(G:aq)(N:Nat):fW Tryz.f52 G N:=⟨_,t2 (ak (ak (ak ((Cg G N).2) (ak (bj (bH (λm=>(Cf G N (xb G N m)).2))) an)) an) an)⟩
def afm(N:Nat):=c1 Tryz.func52 λG=>(Ce G N).2
def HQ(G:aq):eO Tryz.f54 G:=⟨_,λN=>t2 an⟩
def afn(N:Nat):=c1 Tryz.func54 λG=>(HQ G).2 N
def Ch(G:aq)(N:Nat):eJ 3 Tryz.f55 G N (·.aa.aa.aa) (a8 Tryz.f55) []:=⟨_,v1 an⟩
def HR(G:aq)(N:Nat)(L1:b6):eh 0 3 4 Tryz.f55 G N (·.aa.aa.aj.aa.aj.aj.aa.aa) (bn L1 0 3 4) [(0,(a1 (Ch G N) 3))]:=⟨_,v3 an⟩
def xc(G:aq)(N:Nat)(L1:b6):eh 0 3 4 Tryz.f55 G N (·.aa.aa.aj.aa.aj.aj) (bn L1 0 3 4) [(0,(a1 (Ch G N) 3))]:=⟨_,v3 (ak (ak ((HR G N L1).2) an) an)⟩
def tD(G:aq)(N:Nat):Nat->b6
 |0=>gD
 |n+1=>xc G N (tD G N n)
def Ri(G:aq)(N:Nat):fM Tryz.f55 G N:=⟨_,t1 (ak (ak (ak ((Ch G N).2) (ak (bj (bH (λm=>(xc G N (tD G N m)).2))) an)) an) an)⟩
def afo(N:Nat):=en Tryz.func55 λG=>(Ri G N).2
def Rj(G:aq):jH Tryz.f56 G:=⟨_,λN=>t3 an⟩
def afp(N:Nat):=hC Tryz.func56 λG=>(Rj G).2 N
def xd(G:aq)(N:Nat):eJ 3 Tryz.f57 G N (·.aa.aa.aa) (a8 Tryz.f57) []:=⟨_,v1 an⟩
def xe(G:aq)(N:Nat)(L1:b6):eh 1 3 4 Tryz.f57 G N (·.aa.aa.aj.aa.aj.aj.aa.aa) (bn L1 1 3 4) [(0,(a1 (xd G N) 3))]:=⟨_,v3 an⟩
def Cj(G:aq)(N:Nat)(L1:b6)(L3:cy):fD 1 3 4 5 6 7 Tryz.f57 G N (·.aa.aa.aj.aa.aj.aj.aa.aj.aj.aa.aa.aa.aj.aj) (ch L3 1 3 4 5 6 7) [(2,(bn (xe G N L1) 1 3 4)),(1,(bn (xe G N L1) 1 3 4)),(0,(a1 (xd G N) 3))]:=⟨_,o2 an⟩
def xg(G:aq)(N:Nat)(L1:b6):Nat->cy
 |0=>ir
 |n+1=>Cj G N L1 (xg G N L1 n)
def Ci(G:aq)(N:Nat)(L1:b6):eh 1 3 4 Tryz.f57 G N (·.aa.aa.aj.aa.aj.aj) (bn L1 1 3 4) [(0,(a1 (xd G N) 3))]:=⟨_,v3 (ak (ak ((xe G N L1).2) (bj (ak (ak (ak (bj (bH (λm=>(Cj G N L1 (xg G N L1 m)).2))) an) an) an))) an)⟩
def xf(G:aq)(N:Nat):Nat->b6
 |0=>gD
 |n+1=>Ci G N (xf G N n)
def Rk(G:aq)(N:Nat):fM Tryz.f57 G N:=⟨_,t1 (ak (ak (ak ((xd G N).2) (ak (bj (bH (λm=>(Ci G N (xf G N m)).2))) an)) an) an)⟩
def afq(N:Nat):=en Tryz.func57 λG=>(Rk G N).2
def ru(G:aq)(N:Nat):gG 8 17 Tryz.f82 G N (·.aa.aa.aa.aa.aa.aa.aa.aa.aa.aa) (a8 Tryz.f82) []:=⟨_,v2 an⟩
def xz(G:aq)(N:Nat)(L6:cy):fD 1 2 8 11 17 19 Tryz.f82 G N (·.aa.aa.aa.aa.aa.aa.aa.aa.aa.aj.aa.aj.aj.aa.aa) (ch L6 1 2 8 11 17 19) [(14,(bd (ru G N) 8 17))]:=⟨_,v6 an⟩
def CK(G:aq)(N:Nat)(L6:cy):gM 1 2 8 11 17 19 20 Tryz.f82 G N (·.aa.aa.aa.aa.aa.aa.aa.aa.aa.aj.aa.aj.aj.aa.aj.aj.aa.aa) (ch (xz G N L6) 1 2 8 11 17 19) [(15,(ch (xz G N L6) 1 2 8 11 17 19)),(14,(bd (ru G N) 8 17))]:=⟨_,g2 an⟩
def CF(G:aq)(N:Nat)(L6:cy)(L9:hs):nS 1 2 8 11 17 19 20 21 Tryz.f82 G N (·.aa.aa.aa.aa.aa.aa.aa.aa.aa.aj.aa.aj.aj.aa.aj.aj.aa.aj.aa.aj.aj) (fY L9 1 2 8 11 17 19 20 21) [(16,(dp (CK G N L6) 1 2 8 11 17 19 20)),(15,(ch (xz G N L6) 1 2 8 11 17 19)),(14,(bd (ru G N) 8 17))]:=⟨_,mZ an⟩
def xI(G:aq)(N:Nat)(L6:cy):Nat->hs
 |0=>tX
 |n+1=>CF G N L6 (xI G N L6 n)
def CE(G:aq)(N:Nat)(L6:cy):fD 1 2 8 11 17 19 Tryz.f82 G N (·.aa.aa.aa.aa.aa.aa.aa.aa.aa.aj.aa.aj.aj) (ch L6 1 2 8 11 17 19) [(14,(bd (ru G N) 8 17))]:=⟨_,v6 (ak (ak ((xz G N L6).2) (bj (ak (ak ((CK G N L6).2) (ak (bj (bH (λm=>(CF G N L6 (xI G N L6 m)).2))) an)) an))) an)⟩
def xH(G:aq)(N:Nat):Nat->cy
 |0=>ir
 |n+1=>CE G N (xH G N n)
def CJ(G:aq)(N:Nat):eY 1 2 8 11 17 Tryz.f82 G N (·.aa.aa.aa.aa.aa.aa.aa.aa.aa) (a8 Tryz.f82) []:=⟨_,v5 (ak ((ru G N).2) (ak (bj (bH (λm=>(CE G N (xH G N m)).2))) an))⟩
def Cw(G:aq)(N:Nat)(L10:ec):gM 0 1 2 8 11 17 18 Tryz.f82 G N (·.aa.aa.aa.aa.aa.aa.aa.aa.aj.aa.aj.aj) (dp L10 0 1 2 8 11 17 18) [(12,(bY (CJ G N) 1 2 8 11 17))]:=⟨_,o3 an⟩
def xA(G:aq)(N:Nat):Nat->ec
 |0=>kN
 |n+1=>Cw G N (xA G N n)
def xx(G:aq)(N:Nat):eY 0 1 2 8 11 Tryz.f82 G N (·.aa.aa.aa.aa.aa.aa.aa) (a8 Tryz.f82) []:=⟨_,v5 (ak (ak ((CJ G N).2) (ak (bj (bH (λm=>(Cw G N (xA G N m)).2))) an)) an)⟩
def Cy(G:aq)(N:Nat)(L11:cy)(a:ec):gM 0 1 2 3 8 11 16 Tryz.f82 G N (·.aa.aa.aa.aa.aa.aa.aj.aj.aj.aa.aj.aa.aa.aj.aj) (dp a 0 1 2 3 8 11 16) [(10,(ch L11 0 1 2 3 8 11)),(9,(ch L11 0 1 2 3 8 11)),(8,(bY (xx G N) 0 1 2 8 11))]:=⟨_,g2 an⟩
def xC(G:aq)(N:Nat)(L11:cy):Nat->ec
 |0=>kN
 |n+1=>Cy G N L11 (xC G N L11 n)
def Cx(G:aq)(N:Nat)(L11:cy):fD 0 1 2 3 8 11 Tryz.f82 G N (·.aa.aa.aa.aa.aa.aa.aj.aj.aj) (ch L11 0 1 2 3 8 11) [(8,(bY (xx G N) 0 1 2 8 11))]:=⟨_,v6 (ak (bj (ak (ak (bj (bH (λm=>(Cy G N L11 (xC G N L11 m)).2))) an) an)) an)⟩
def xB(G:aq)(N:Nat):Nat->cy
 |0=>ir
 |n+1=>Cx G N (xB G N n)
def rr(G:aq)(N:Nat):fD 0 1 2 3 8 11 Tryz.f82 G N (·.aa.aa.aa.aa.aa.aa) (a8 Tryz.f82) []:=⟨_,v6 (ak ((xx G N).2) (bj (bH (λm=>(Cx G N (xB G N m)).2))))⟩
def xw(G:aq)(N:Nat)(L13:ec):gM 0 1 2 3 8 11 13 Tryz.f82 G N (·.aa.aa.aa.aa.aa.aj.aa.aj.aj.aa.aa) (dp L13 0 1 2 3 8 11 13) [(4,(ch (rr G N) 0 1 2 3 8 11))]:=⟨_,g2 an⟩
def CI(G:aq)(N:Nat)(L13:ec):nS 0 1 2 3 8 11 13 14 Tryz.f82 G N (·.aa.aa.aa.aa.aa.aj.aa.aj.aj.aa.aj.aj.aa.aa) (dp (xw G N L13) 0 1 2 3 8 11 13) [(5,(dp (xw G N L13) 0 1 2 3 8 11 13)),(4,(ch (rr G N) 0 1 2 3 8 11))]:=⟨_,mZ an⟩
def CA(G:aq)(N:Nat)(L13:ec)(a:jE):ql 0 1 2 3 8 11 13 14 15 Tryz.f82 G N (·.aa.aa.aa.aa.aa.aj.aa.aj.aj.aa.aj.aj.aa.aj.aa.aj.aj) (oX a 0 1 2 3 8 11 13 14 15) [(6,(fY (CI G N L13) 0 1 2 3 8 11 13 14)),(5,(dp (xw G N L13) 0 1 2 3 8 11 13)),(4,(ch (rr G N) 0 1 2 3 8 11))]:=⟨_,v9 an⟩
def xE(G:aq)(N:Nat)(L13:ec):Nat->jE
 |0=>ys
 |n+1=>CA G N L13 (xE G N L13 n)
def Cz(G:aq)(N:Nat)(L13:ec):gM 0 1 2 3 8 11 13 Tryz.f82 G N (·.aa.aa.aa.aa.aa.aj.aa.aj.aj) (dp L13 0 1 2 3 8 11 13) [(4,(ch (rr G N) 0 1 2 3 8 11))]:=⟨_,g2 (ak (ak ((xw G N L13).2) (bj (ak (ak ((CI G N L13).2) (ak (bj (bH (λm=>(CA G N L13 (xE G N L13 m)).2))) an)) an))) an)⟩
def xD(G:aq)(N:Nat):Nat->ec
 |0=>kN
 |n+1=>Cz G N (xD G N n)
def CH(G:aq)(N:Nat):fD 0 1 2 3 8 11 Tryz.f82 G N (·.aa.aa.aa.aa.aa) (a8 Tryz.f82) []:=⟨_,v6 (ak ((rr G N).2) (ak (bj (bH (λm=>(Cz G N (xD G N m)).2))) an))⟩
def CB(G:aq)(N:Nat)(a:ec):gM 0 1 2 3 8 11 12 Tryz.f82 G N (·.aa.aa.aa.aa.aj.aa.aj.aj) (dp a 0 1 2 3 8 11 12) [(2,(ch (CH G N) 0 1 2 3 8 11))]:=⟨_,o3 an⟩
def xF(G:aq)(N:Nat):Nat->ec
 |0=>kN
 |n+1=>CB G N (xF G N n)
def CG(G:aq)(N:Nat):eY 0 1 2 3 8 Tryz.f82 G N (·.aa.aa.aa) (a8 Tryz.f82) []:=⟨_,v5 (ak (ak ((CH G N).2) (ak (bj (bH (λm=>(CB G N (xF G N m)).2))) an)) an)⟩
def CC(G:aq)(N:Nat)(L18:cy):fD 0 1 2 3 8 10 Tryz.f82 G N (·.aa.aa.aj.aa.aj.aj) (ch L18 0 1 2 3 8 10) [(0,(bY (CG G N) 0 1 2 3 8))]:=⟨_,v6 an⟩
def xG(G:aq)(N:Nat):Nat->cy
 |0=>ir
 |n+1=>CC G N (xG G N n)
def Ro(G:aq)(N:Nat):DF Tryz.f82 G N:=⟨_,t4 (ak (ak (ak ((CG G N).2) (ak (bj (bH (λm=>(CC G N (xG G N m)).2))) an)) an) an)⟩
def afA(N:Nat):=om Tryz.func82 λG=>(Ro G N).2
def mS(G:aq)(N:Nat):gG 2 11 Tryz.f83 G N (·.aa.aa.aa.aa.aa.aa.aa.aa.aa.aa) (a8 Tryz.f83) []:=⟨_,v2 an⟩
def nC(G:aq)(N:Nat)(L5:cy):fD 1 2 4 5 11 15 Tryz.f83 G N (·.aa.aa.aa.aa.aa.aa.aa.aa.aa.aj.aa.aj.aj.aa.aa) (ch L5 1 2 4 5 11 15) [(14,(bd (mS G N) 2 11))]:=⟨_,v6 an⟩
def p4(G:aq)(N:Nat)(L5:cy):gM 1 2 4 5 11 15 16 Tryz.f83 G N (·.aa.aa.aa.aa.aa.aa.aa.aa.aa.aj.aa.aj.aj.aa.aj.aj.aa.aa.aa) (ch (nC G N L5) 1 2 4 5 11 15) [(15,(ch (nC G N L5) 1 2 4 5 11 15)),(14,(bd (mS G N) 2 11))]:=⟨_,g2 an⟩
def tJ(G:aq)(N:Nat)(L5:cy)(L8:hs):nS 1 2 4 5 11 15 16 17 Tryz.f83 G N (·.aa.aa.aa.aa.aa.aa.aa.aa.aa.aj.aa.aj.aj.aa.aj.aj.aa.aa.aj.aa.aj.aj.aa.aa) (fY L8 1 2 4 5 11 15 16 17) [(16,(dp (p4 G N L5) 1 2 4 5 11 15 16)),(15,(ch (nC G N L5) 1 2 4 5 11 15)),(14,(bd (mS G N) 2 11))]:=⟨_,mZ an⟩
def xK(G:aq)(N:Nat)(L5:cy)(L8:hs):ql 1 2 4 5 11 15 16 17 18 Tryz.f83 G N (·.aa.aa.aa.aa.aa.aa.aa.aa.aa.aj.aa.aj.aj.aa.aj.aj.aa.aa.aj.aa.aj.aj.aa.aj.aj.aa.aa) (fY (tJ G N L5 L8) 1 2 4 5 11 15 16 17) [(17,(fY (tJ G N L5 L8) 1 2 4 5 11 15 16 17)),(16,(dp (p4 G N L5) 1 2 4 5 11 15 16)),(15,(ch (nC G N L5) 1 2 4 5 11 15)),(14,(bd (mS G N) 2 11))]:=⟨_,v9 an⟩
def CU(G:aq)(N:Nat)(L5:cy)(L8:hs)(L11:jf):r2 1 2 4 5 11 15 16 17 18 19 Tryz.f83 G N (·.aa.aa.aa.aa.aa.aa.aa.aa.aa.aj.aa.aj.aj.aa.aj.aj.aa.aa.aj.aa.aj.aj.aa.aj.aj.aa.aj.aa.aj.aj.aa.aa) (qt L11 1 2 4 5 11 15 16 17 18 19) [(18,(oX (xK G N L5 L8) 1 2 4 5 11 15 16 17 18)),(17,(fY (tJ G N L5 L8) 1 2 4 5 11 15 16 17)),(16,(dp (p4 G N L5) 1 2 4 5 11 15 16)),(15,(ch (nC G N L5) 1 2 4 5 11 15)),(14,(bd (mS G N) 2 11))]:=⟨_,v10 an⟩
def CL(G:aq)(N:Nat)(L5:cy)(L8:hs)(L11:jf):r2 1 2 4 5 11 15 16 17 18 19 Tryz.f83 G N (·.aa.aa.aa.aa.aa.aa.aa.aa.aa.aj.aa.aj.aj.aa.aj.aj.aa.aa.aj.aa.aj.aj.aa.aj.aj.aa.aj.aa.aj.aj) (qt L11 1 2 4 5 11 15 16 17 18 19) [(18,(oX (xK G N L5 L8) 1 2 4 5 11 15 16 17 18)),(17,(fY (tJ G N L5 L8) 1 2 4 5 11 15 16 17)),(16,(dp (p4 G N L5) 1 2 4 5 11 15 16)),(15,(ch (nC G N L5) 1 2 4 5 11 15)),(14,(bd (mS G N) 2 11))]:=⟨_,v10 (ak (ak ((CU G N L5 L8 L11).2) an) an)⟩
def xN(G:aq)(N:Nat)(L5:cy)(L8:hs):Nat->jf
 |0=>yr
 |n+1=>CL G N L5 L8 (xN G N L5 L8 n)
def CT(G:aq)(N:Nat)(L5:cy)(L8:hs):nS 1 2 4 5 11 15 16 17 Tryz.f83 G N (·.aa.aa.aa.aa.aa.aa.aa.aa.aa.aj.aa.aj.aj.aa.aj.aj.aa.aa.aj.aa.aj.aj) (fY L8 1 2 4 5 11 15 16 17) [(16,(dp (p4 G N L5) 1 2 4 5 11 15 16)),(15,(ch (nC G N L5) 1 2 4 5 11 15)),(14,(bd (mS G N) 2 11))]:=⟨_,mZ (ak (ak ((tJ G N L5 L8).2) (bj (ak (ak ((xK G N L5 L8).2) (ak (bj (bH (λm=>(CL G N L5 L8 (xN G N L5 L8 m)).2))) an)) an))) an)⟩
def xU(G:aq)(N:Nat)(L5:cy):Nat->hs
 |0=>tX
 |n+1=>CT G N L5 (xU G N L5 n)
def CS(G:aq)(N:Nat)(L5:cy):fD 1 2 4 5 11 15 Tryz.f83 G N (·.aa.aa.aa.aa.aa.aa.aa.aa.aa.aj.aa.aj.aj) (ch L5 1 2 4 5 11 15) [(14,(bd (mS G N) 2 11))]:=⟨_,v6 (ak (ak ((nC G N L5).2) (bj (ak (ak (ak ((p4 G N L5).2) (ak (bj (bH (λm=>(CT G N L5 (xU G N L5 m)).2))) an)) an) an))) an)⟩
def xT(G:aq)(N:Nat):Nat->cy
 |0=>ir
 |n+1=>CS G N (xT G N n)
def tI(G:aq)(N:Nat):eY 1 2 4 5 11 Tryz.f83 G N (·.aa.aa.aa.aa.aa.aa.aa.aa.aa) (a8 Tryz.f83) []:=⟨_,v5 (ak ((mS G N).2) (ak (bj (bH (λm=>(CS G N (xT G N m)).2))) an))⟩
def CV(G:aq)(N:Nat)(L13:cy):fD 1 2 4 5 11 13 Tryz.f83 G N (·.aa.aa.aa.aa.aa.aa.aa.aa.aj.aa.aj.aj.aa.aa) (ch L13 1 2 4 5 11 13) [(12,(bY (tI G N) 1 2 4 5 11))]:=⟨_,v6 an⟩
def H9(G:aq)(N:Nat)(L13:cy):gM 1 2 4 5 11 13 14 Tryz.f83 G N (·.aa.aa.aa.aa.aa.aa.aa.aa.aj.aa.aj.aj.aa.aj.aj.aa.aa) (ch (CV G N L13) 1 2 4 5 11 13) [(13,(ch (CV G N L13) 1 2 4 5 11 13)),(12,(bY (tI G N) 1 2 4 5 11))]:=⟨_,g2 an⟩
def xJ(G:aq)(N:Nat)(L13:cy):fD 1 2 4 5 11 13 Tryz.f83 G N (·.aa.aa.aa.aa.aa.aa.aa.aa.aj.aa.aj.aj) (ch L13 1 2 4 5 11 13) [(12,(bY (tI G N) 1 2 4 5 11))]:=⟨_,v6 (ak (ak ((CV G N L13).2) (bj (ak (ak ((H9 G N L13).2) an) an))) an)⟩
def rz(G:aq)(N:Nat):Nat->cy
 |0=>ir
 |n+1=>xJ G N (rz G N n)
def xL(G:aq)(N:Nat):eY 1 2 4 5 11 Tryz.f83 G N (·.aa.aa.aa.aa.aa.aa.aa.aa) (a8 Tryz.f83) []:=⟨_,v5 (ak ((tI G N).2) (ak (bj (bH (λm=>(xJ G N (rz G N m)).2))) an))⟩
def H_(G:aq)(N:Nat)(a:cy):fD 1 2 4 5 11 12 Tryz.f83 G N (·.aa.aa.aa.aa.aa.aa.aa.aj.aa.aj.aj.aa.aa) (ch a 1 2 4 5 11 12) [(10,(bY (xL G N) 1 2 4 5 11))]:=⟨_,v6 an⟩
def CM(G:aq)(N:Nat)(a:cy):fD 1 2 4 5 11 12 Tryz.f83 G N (·.aa.aa.aa.aa.aa.aa.aa.aj.aa.aj.aj) (ch a 1 2 4 5 11 12) [(10,(bY (xL G N) 1 2 4 5 11))]:=⟨_,o2 (ak (ak ((H_ G N a).2) an) an)⟩
def xO(G:aq)(N:Nat):Nat->cy
 |0=>ir
 |n+1=>CM G N (xO G N n)
def p3(G:aq)(N:Nat):dI 1 2 4 5 Tryz.f83 G N (·.aa.aa.aa.aa.aa.aa) (a8 Tryz.f83) []:=⟨_,v4 (ak (ak ((xL G N).2) (ak (bj (bH (λm=>(CM G N (xO G N m)).2))) an)) an)⟩
def ry(G:aq)(N:Nat)(L18:cx)(L19:cy):fD 1 2 4 5 8 9 Tryz.f83 G N (·.aa.aa.aa.aa.aa.aj.aa.aj.aj.aa.aj.aa.aa.aj.aj.aa.aa) (ch L19 1 2 4 5 8 9) [(6,(bY L18 1 2 4 5 8)),(5,(bY L18 1 2 4 5 8)),(4,(bI (p3 G N) 1 2 4 5))]:=⟨_,v6 an⟩
def CW(G:aq)(N:Nat)(L18:cx)(L19:cy)(a:ec):gM 1 2 4 5 8 9 10 Tryz.f83 G N (·.aa.aa.aa.aa.aa.aj.aa.aj.aj.aa.aj.aa.aa.aj.aj.aa.aj.aj.aa.aj.aj.aa.aa) (dp a 1 2 4 5 8 9 10) [(8,(ch (ry G N L18 L19) 1 2 4 5 8 9)),(7,(ch (ry G N L18 L19) 1 2 4 5 8 9)),(6,(bY L18 1 2 4 5 8)),(5,(bY L18 1 2 4 5 8)),(4,(bI (p3 G N) 1 2 4 5))]:=⟨_,g2 an⟩
def CP(G:aq)(N:Nat)(L18:cx)(L19:cy)(a:ec):gM 1 2 4 5 8 9 10 Tryz.f83 G N (·.aa.aa.aa.aa.aa.aj.aa.aj.aj.aa.aj.aa.aa.aj.aj.aa.aj.aj.aa.aj.aj) (dp a 1 2 4 5 8 9 10) [(8,(ch (ry G N L18 L19) 1 2 4 5 8 9)),(7,(ch (ry G N L18 L19) 1 2 4 5 8 9)),(6,(bY L18 1 2 4 5 8)),(5,(bY L18 1 2 4 5 8)),(4,(bI (p3 G N) 1 2 4 5))]:=⟨_,o3 (ak (ak ((CW G N L18 L19 a).2) an) an) (x:=trivial)⟩
def tK(G:aq)(N:Nat)(L18:cx)(L19:cy):Nat->ec
 |0=>kN
 |n+1=>CP G N L18 L19 (tK G N L18 L19 n)
def CO(G:aq)(N:Nat)(L18:cx)(L19:cy):fD 1 2 4 5 8 9 Tryz.f83 G N (·.aa.aa.aa.aa.aa.aj.aa.aj.aj.aa.aj.aa.aa.aj.aj) (ch L19 1 2 4 5 8 9) [(6,(bY L18 1 2 4 5 8)),(5,(bY L18 1 2 4 5 8)),(4,(bI (p3 G N) 1 2 4 5))]:=⟨_,v6 (ak (ak ((ry G N L18 L19).2) (bj (ak (bj (bH (λm=>(CP G N L18 L19 (tK G N L18 L19 m)).2))) an))) an)⟩
def xQ(G:aq)(N:Nat)(L18:cx):Nat->cy
 |0=>ir
 |n+1=>CO G N L18 (xQ G N L18 n)
def CN(G:aq)(N:Nat)(L18:cx):eY 1 2 4 5 8 Tryz.f83 G N (·.aa.aa.aa.aa.aa.aj.aa.aj.aj) (bY L18 1 2 4 5 8) [(4,(bI (p3 G N) 1 2 4 5))]:=⟨_,v5 (ak (bj (ak (ak (bj (bH (λm=>(CO G N L18 (xQ G N L18 m)).2))) an) an)) an)⟩
def xP(G:aq)(N:Nat):Nat->cx
 |0=>hH
 |n+1=>CN G N (xP G N n)
def tH(G:aq)(N:Nat):dI 1 2 4 5 Tryz.f83 G N (·.aa.aa.aa.aa.aa) (a8 Tryz.f83) []:=⟨_,v4 (ak ((p3 G N).2) (ak (bj (bH (λm=>(CN G N (xP G N m)).2))) an))⟩
def xM(G:aq)(N:Nat)(L23:cx):eY 1 2 4 5 6 Tryz.f83 G N (·.aa.aa.aa.aa.aj.aa.aj.aj.aa.aa) (bY L23 1 2 4 5 6) [(0,(bI (tH G N) 1 2 4 5))]:=⟨_,v5 an⟩
def CR(G:aq)(N:Nat)(L23:cx)(a:cy):fD 1 2 4 5 6 7 Tryz.f83 G N (·.aa.aa.aa.aa.aj.aa.aj.aj.aa.aj.aj.aa.aj.aj) (ch a 1 2 4 5 6 7) [(2,(bY (xM G N L23) 1 2 4 5 6)),(1,(bY (xM G N L23) 1 2 4 5 6)),(0,(bI (tH G N) 1 2 4 5))]:=⟨_,v6 an⟩
def xS(G:aq)(N:Nat)(L23:cx):Nat->cy
 |0=>ir
 |n+1=>CR G N L23 (xS G N L23 n)
def CQ(G:aq)(N:Nat)(L23:cx):eY 1 2 4 5 6 Tryz.f83 G N (·.aa.aa.aa.aa.aj.aa.aj.aj) (bY L23 1 2 4 5 6) [(0,(bI (tH G N) 1 2 4 5))]:=⟨_,v5 (ak (ak ((xM G N L23).2) (bj (ak (bj (bH (λm=>(CR G N L23 (xS G N L23 m)).2))) an))) an)⟩
def xR(G:aq)(N:Nat):Nat->cx
 |0=>hH
 |n+1=>CQ G N (xR G N n)
def Rp(G:aq)(N:Nat):fM Tryz.f83 G N:=⟨_,t1 (ak (ak (ak (ak (ak ((tH G N).2) (ak (bj (bH (λm=>(CQ G N (xR G N m)).2))) an)) an) an) an) an)⟩
def afB(N:Nat):=en Tryz.func83 λG=>(Rp G N).2
def Rq(G:aq):eO Tryz.f86 G:=⟨_,λN=>qz an (x:=trivial)⟩
def afE(N:Nat):=c1 Tryz.func86 λG=>(Rq G).2 N
def Rs(G:aq):eO Tryz.f88 G:=⟨_,λN=>t2 an⟩
def afG(N:Nat):=c1 Tryz.func88 λG=>(Rs G).2 N
def Ih(G:aq)(N:Nat):eJ 5 Tryz.f90 G N (·.aa.aa.aa.aa) (a8 Tryz.f90) []:=⟨_,v1 an⟩
def C2(G:aq)(N:Nat)(L2:b6):eh 1 5 7 Tryz.f90 G N (·.aa.aa.aa.aj.aa.aj.aj) (bn L2 1 5 7) [(2,(a1 (Ih G N) 5))]:=⟨_,v3 an⟩
def x_(G:aq)(N:Nat):Nat->b6
 |0=>gD
 |n+1=>C2 G N (x_ G N n)
def Ig(G:aq)(N:Nat):gG 1 5 Tryz.f90 G N (·.aa.aa.aa) (a8 Tryz.f90) []:=⟨_,v2 (ak ((Ih G N).2) (ak (bj (bH (λm=>(C2 G N (x_ G N m)).2))) an))⟩
def C3(G:aq)(N:Nat)(L3:cg):dI 0 1 5 6 Tryz.f90 G N (·.aa.aa.aj.aa.aj.aj) (bI L3 0 1 5 6) [(0,(bd (Ig G N) 1 5))]:=⟨_,v4 an⟩
def ya(G:aq)(N:Nat):Nat->cg
 |0=>fq
 |n+1=>C3 G N (ya G N n)
def Ru(G:aq)(N:Nat):fW Tryz.f90 G N:=⟨_,t2 (ak (ak (ak ((Ig G N).2) (ak (bj (bH (λm=>(C3 G N (ya G N m)).2))) an)) an) an)⟩
def afJ(N:Nat):=c1 Tryz.func90 λG=>(Ru G N).2
def hD(G:aq)(N:Nat):eJ 10 Tryz.f111 G N (·.aa.aa.aa.aa) (a8 Tryz.f111) []:=⟨_,v1 an⟩
def s3(G:aq)(N:Nat):eY 2 4 7 9 10 Tryz.f111 G N (·.aa.aa.aa.aj.aa.aj.aa.aa.aa.aa.aa.aa.aa.aa.aa.aa.aa.aa.aa.aj.aa.aa) (a1 (hD G N) 10) [(0,(a1 (hD G N) 10))]:=⟨_,ng an⟩
def Gf(G:aq)(N:Nat)(L3:ec):gM 2 4 7 9 10 11 12 Tryz.f111 G N (·.aa.aa.aa.aj.aa.aj.aa.aa.aa.aa.aa.aa.aa.aa.aa.aa.aa.aa.aa.aj.aa.aj.aa.aj.aj.aa.aa) (dp L3 2 4 7 9 10 11 12) [(1,(bY (s3 G N) 2 4 7 9 10)),(0,(a1 (hD G N) 10))]:=⟨_,g2 an⟩
def Aw(G:aq)(N:Nat)(L3:ec):gM 2 4 7 9 10 11 12 Tryz.f111 G N (·.aa.aa.aa.aj.aa.aj.aa.aa.aa.aa.aa.aa.aa.aa.aa.aa.aa.aa.aa.aj.aa.aj.aa.aj.aj) (dp L3 2 4 7 9 10 11 12) [(1,(bY (s3 G N) 2 4 7 9 10)),(0,(a1 (hD G N) 10))]:=⟨_,g2 (ak (ak ((Gf G N L3).2) an) an)⟩
def vs(G:aq)(N:Nat):Nat->ec
 |0=>kN
 |n+1=>Aw G N (vs G N n)
def ow(G:aq)(N:Nat):nS 1 2 4 7 9 10 19 114 Tryz.f111 G N (·.aa.aa.aa.aj.aa.aj.aa.aa.aa.aa.aa.aa.aa.aa.aa.aa.aa) (a1 (hD G N) 10) [(0,(a1 (hD G N) 10))]:=⟨_,Eo (c4 an (ak (c4 (ak (ak ((s3 G N).2) (ak (bj (bH (λm=>(Aw G N (vs G N m)).2))) an)) an) an) an))⟩
def Qk(G:aq)(N:Nat):DF Tryz.f111 G N:=⟨_,t4 (ak (ak (ak (ak ((hD G N).2) (ak (bj (ak (c4 an (ak (c4 an (ak (c4 an (ak (c4 an (ak (c4 an (ak ((ow G N).2) an)) an)) an)) an)) an)) an)) an)) an) an) an)⟩
def adI(N:Nat):=om Tryz.func111 λG=>(Qk G N).2
def pS(G:aq):W0 Tryz.f135 G (·.aa.aa.aa) (a8 Tryz.f135) []:=⟨_,λN=>v0 an⟩
def tc(G:aq):r5 0 1 2 7 9 15 34 Tryz.f135 G (·.aa.aa.aj.aa.aj.aa.aa.aa.aa.aa) (br (pS G)) [(0,(br (pS G)))]:=⟨_,λN=>g2 an⟩
def s_(G:aq):r7 Tryz.f135 G:=⟨_,λN=>t4 (ak (ak (ak ((pS G).2 N) (ak (bj (ak (c4 an (ak (c4 an (ak ((tc G).2 N) an)) an)) an)) an)) an) an)⟩
def adW(N:Nat):=om Tryz.func135 λG=>(s_ G).2 N
def Gu(G:aq)(N:Nat)(L0:b6):eh 0 3 4 Tryz.f136 G N (·.aa.aa.aj.aa.aa.aa.aa.aa.aj.aa.aj.aj.aa.aa) (bn L0 0 3 4) [(1,(a8 Tryz.f136)),(0,(a8 Tryz.f136))]:=⟨_,v3 an⟩
def vK(G:aq)(N:Nat)(L0:b6):eh 0 3 4 Tryz.f136 G N (·.aa.aa.aj.aa.aa.aa.aa.aa.aj.aa.aj.aj) (bn L0 0 3 4) [(1,(a8 Tryz.f136)),(0,(a8 Tryz.f136))]:=⟨_,v3 (ak (ak ((Gu G N L0).2) an) an)⟩
def td(G:aq)(N:Nat):Nat->b6
 |0=>gD
 |n+1=>vK G N (td G N n)
def Gv(G:aq)(N:Nat)(L2:b6):eh 0 3 5 Tryz.f136 G N (·.aa.aa.aj.aa.aa.aa.aa.aa.aa.aa.aj.aa.aj.aj.aa.aa) (bn L2 0 3 5) [(3,(a8 Tryz.f136)),(0,(a8 Tryz.f136))]:=⟨_,v3 an⟩
def vL(G:aq)(N:Nat)(L2:b6):eh 0 3 5 Tryz.f136 G N (·.aa.aa.aj.aa.aa.aa.aa.aa.aa.aa.aj.aa.aj.aj) (bn L2 0 3 5) [(3,(a8 Tryz.f136)),(0,(a8 Tryz.f136))]:=⟨_,v3 (ak (ak ((Gv G N L2).2) an) an)⟩
def te(G:aq)(N:Nat):Nat->b6
 |0=>gD
 |n+1=>vL G N (te G N n)
def AX(G:aq)(N:Nat)(L4:b6):eh 0 3 6 Tryz.f136 G N (·.aa.aa.aj.aa.aa.aa.aa.aa.aa.aa.aa.aa.aj.aa.aj.aj) (bn L4 0 3 6) [(5,(a8 Tryz.f136)),(0,(a8 Tryz.f136))]:=⟨_,v3 an⟩
def vM(G:aq)(N:Nat):Nat->b6
 |0=>gD
 |n+1=>AX G N (vM G N n)
def Qq(G:aq)(N:Nat):fW Tryz.f136 G N:=⟨_,t2 (ak (ak (bj (ak (c4 an (ak (c4 an (ak (c4 (ak (bj (bH (λm=>(vK G N (td G N m)).2))) an) (ak (c4 (ak (bj (bH (λm=>(vL G N (te G N m)).2))) an) (ak (c4 (ak (bj (bH (λm=>(AX G N (vM G N m)).2))) an) an) an)) an)) an)) an)) an)) an) an)⟩
def adX(N:Nat):=c1 Tryz.func136 λG=>(Qq G N).2
def vN(G:aq)(N:Nat):hJ Tryz.f137 G N (·.aa.aa.aa.aa.aa) (a8 Tryz.f137) []:=⟨_,v0 an⟩
def vO(G:aq)(N:Nat)(L2:b6):eh 1 3 5 Tryz.f137 G N (·.aa.aa.aa.aa.aj.aa.aj.aj.aa.aa) (bn L2 1 3 5) [(2,(br (vN G N)))]:=⟨_,v3 an⟩
def AZ(G:aq)(N:Nat)(L2:b6)(L4:cg):dI 1 3 5 6 Tryz.f137 G N (·.aa.aa.aa.aa.aj.aa.aj.aj.aa.aj.aj.aa.aa.aj.aj) (bI L4 1 3 5 6) [(4,(bn (vO G N L2) 1 3 5)),(3,(bn (vO G N L2) 1 3 5)),(2,(br (vN G N)))]:=⟨_,v4 an⟩
def vQ(G:aq)(N:Nat)(L2:b6):Nat->cg
 |0=>fq
 |n+1=>AZ G N L2 (vQ G N L2 n)
def AY(G:aq)(N:Nat)(L2:b6):eh 1 3 5 Tryz.f137 G N (·.aa.aa.aa.aa.aj.aa.aj.aj) (bn L2 1 3 5) [(2,(br (vN G N)))]:=⟨_,v3 (ak (ak ((vO G N L2).2) (bj (ak (ak (bj (bH (λm=>(AZ G N L2 (vQ G N L2 m)).2))) an) an))) an)⟩
def vP(G:aq)(N:Nat):Nat->b6
 |0=>gD
 |n+1=>AY G N (vP G N n)
def A1(G:aq)(N:Nat):gG 1 3 Tryz.f137 G N (·.aa.aa.aa.aa) (a8 Tryz.f137) []:=⟨_,v2 (ak ((vN G N).2) (ak (bj (bH (λm=>(AY G N (vP G N m)).2))) an))⟩
def A0(G:aq)(N:Nat)(L5:b6):eh 1 3 4 Tryz.f137 G N (·.aa.aa.aa.aj.aa.aj.aj) (bn L5 1 3 4) [(0,(bd (A1 G N) 1 3))]:=⟨_,v3 an⟩
def vR(G:aq)(N:Nat):Nat->b6
 |0=>gD
 |n+1=>A0 G N (vR G N n)
def Qr(G:aq)(N:Nat):fM Tryz.f137 G N:=⟨_,t1 (ak (ak (ak (ak ((A1 G N).2) (ak (bj (bH (λm=>(A0 G N (vR G N m)).2))) an)) an) an) an)⟩
def adY(N:Nat):=en Tryz.func137 λG=>(Qr G N).2
def tg(G:aq)(N:Nat):eJ 7 Tryz.f141 G N (·.aa.aa.aa) (a8 Tryz.f141) []:=⟨_,v1 an⟩
def q7(G:aq)(N:Nat)(L1:cx):eY 0 1 2 7 8 Tryz.f141 G N (·.aa.aa.aj.aa.aj.aj.aa.aa) (bY L1 0 1 2 7 8) [(0,(a1 (tg G N) 7))]:=⟨_,v5 an⟩
def Gy(G:aq)(N:Nat)(L1:cx)(L3:ec):gM 0 1 2 7 8 9 10 Tryz.f141 G N (·.aa.aa.aj.aa.aj.aj.aa.aj.aj.aa.aa.aj.aj.aa.aa) (dp L3 0 1 2 7 8 9 10) [(2,(bY (q7 G N L1) 0 1 2 7 8)),(1,(bY (q7 G N L1) 0 1 2 7 8)),(0,(a1 (tg G N) 7))]:=⟨_,g2 an⟩
def A8(G:aq)(N:Nat)(L1:cx)(L3:ec):gM 0 1 2 7 8 9 10 Tryz.f141 G N (·.aa.aa.aj.aa.aj.aj.aa.aj.aj.aa.aa.aj.aj) (dp L3 0 1 2 7 8 9 10) [(2,(bY (q7 G N L1) 0 1 2 7 8)),(1,(bY (q7 G N L1) 0 1 2 7 8)),(0,(a1 (tg G N) 7))]:=⟨_,g2 (ak (ak ((Gy G N L1 L3).2) an) an)⟩
def th(G:aq)(N:Nat)(L1:cx):Nat->ec
 |0=>kN
 |n+1=>A8 G N L1 (th G N L1 n)
def A7(G:aq)(N:Nat)(L1:cx):eY 0 1 2 7 8 Tryz.f141 G N (·.aa.aa.aj.aa.aj.aj) (bY L1 0 1 2 7 8) [(0,(a1 (tg G N) 7))]:=⟨_,ng (ak (ak ((q7 G N L1).2) (bj (ak (ak (bj (bH (λm=>(A8 G N L1 (th G N L1 m)).2))) an) an))) an)⟩
def vU(G:aq)(N:Nat):Nat->cx
 |0=>hH
 |n+1=>A7 G N (vU G N n)
def Qv(G:aq)(N:Nat):m_ Tryz.f141 G N:=⟨_,t3 (ak (ak (ak ((tg G N).2) (ak (bj (bH (λm=>(A7 G N (vU G N m)).2))) an)) an) an)⟩
def ad2(N:Nat):=hC Tryz.func141 λG=>(Qv G N).2
def Qx(G:aq):eO Tryz.f148 G:=⟨_,λN=>t2 an⟩
def ad6(N:Nat):=c1 Tryz.func148 λG=>(Qx G).2 N
def Bt(G:aq)(N:Nat)(L0:cg):dI 0 1 2 6 Tryz.f192 G N (·.aa.aj.aj.aa.aa) (bI L0 0 1 2 6) [(0,(a8 Tryz.f192))]:=⟨_,v4 an⟩
def tp(G:aq)(N:Nat)(L0:cg):dI 0 1 2 6 Tryz.f192 G N (·.aa.aj.aj) (bI L0 0 1 2 6) [(0,(a8 Tryz.f192))]:=⟨_,v4 (ak (ak ((Bt G N L0).2) an) an)⟩
def re(G:aq)(N:Nat):Nat->cg
 |0=>fq
 |n+1=>tp G N (re G N n)
def QY(G:aq)(N:Nat):m_ Tryz.f192 G N:=⟨_,t3 (ak (bj (bH (λm=>(tp G N (re G N m)).2))) an)⟩
def aex(N:Nat):=hC Tryz.func192 λG=>(QY G N).2
def G8(G:aq)(N:Nat):hJ Tryz.f193 G N (·.aa.aa) (a8 Tryz.f193) []:=⟨_,v0 an⟩
def Bu(G:aq)(N:Nat)(L1:b6):eh 0 1 5 Tryz.f193 G N (·.aa.aj.aa.aj.aj) (bn L1 0 1 5) [(0,(br (G8 G N)))]:=⟨_,v3 an⟩
def wo(G:aq)(N:Nat):Nat->b6
 |0=>gD
 |n+1=>Bu G N (wo G N n)
def QZ(G:aq)(N:Nat):fW Tryz.f193 G N:=⟨_,t2 (ak (ak ((G8 G N).2) (ak (bj (bH (λm=>(Bu G N (wo G N m)).2))) an)) an)⟩
def aey(N:Nat):=c1 Tryz.func193 λG=>(QZ G N).2
end
end
section
open Go.a_
set_option maxRecDepth 2000
section
variable {x:bC}{H:ae}{ok:Nat->Prop}
theorem Qe(ar:ez x){a b cc d:af}{zX f:Nat}(aC:f<=x.ay.length)(aE:aH gf H ok x.ay cc)(aO:H.get zX=A (.row I 5 [[a,b,cc,d,D F x.main]])){N:Nat}:∀(j k m:Nat),k+j=f->j<m->
  W (xb (aK P aG) N m (D F (f:Nat)) (.ptr zX 0 0) (D F (bk x.ay k:Nat)) (D F (k:Nat)) H) λr H'=>r= D F (bk x.ay f:Nat)/\H'=H
 |_,_,0,_,hm=>ad
 |0,k,m+1,e,_=>by
  have s:¬(k:Int)<(f:Int):=ad;refine cv @Cg.eq_1 @Cf.eq_1 @xb.eq_2 @Ce.eq_1 ?_;grind[aD]
 |j+1,k,m+1,e,t=>by
  have h:k<x.ay.length:=ad;have q:=ar.ay;obtain⟨L,n,gv,gw,l,o,bV,b9⟩:=aE.o0 (j:=(k:Int)) (g:=x.ay[k]) ad al;have i:bk x.ay (k+1)=bk x.ay k+x.ay[k].vars.length:=Dn al;have v:=Am ar (List.getElem_mem h);have u:=qd ar k;have on:=Qe ar aC aE aO (N:=N) j (k+1) m ad ad;rw[i]at on;generalize x.ay[k]=c at*;have p:IntKind.i64.wrap ((bk x.ay k:Int)+(c.vars.length:Int))=((bk x.ay k+c.vars.length:Nat):Int):=by rw[wrap_i64 ad ad];omega
  refine bh @Cg.eq_1 @Cf.eq_1 @xb.eq_2 @Ce.eq_1 (c9 aO) (ag l (ag (o _ (au.refl _)) (ag (bV.bg cS) p))) ?_;omega
theorem sX(ar:ez x){V:af}(aE:cA H ok x V){f:Nat}(aC:f<=x.ay.length):W (aK P aG 52 [V,D F (f:Nat)] H) λr H'=>r= D F (bk x.ay f:Nat)/\au H H':=by
 obtain⟨_,rfl,a,b,cc,d,rfl,ah,ai,ax,aM⟩:=aE;refine afm (f+1) ?_;have e:=au.push H (.row I 5 [[a,b,cc,d,D F x.main]]);have c:=ae.a2 H (.row I 5 [[a,b,cc,d,D F x.main]]);refine bG @Ce.eq_1 (dV ah ai ax aM) ?_;refine(Qe ar aC (ax.aB e) c f 0 (f+1) ad ad).mono ?_;grind
theorem Qd(ar:ez x){V:af}(aE:cA H ok x V){f v:Nat}(aC:f<=x.ay.length)(j:v<=1000000):W (aK P aG 56 [V,D F (f:Nat),D F (v:Nat)] H) λr H'=>r= D F (bk x.ay f+v:Nat)/\au H H':=by
 have g:=aE;have k:=qd ar f;have i:=ar.ay;obtain⟨_,rfl,a,b,cc,d,rfl,ah,ai,ax,aM⟩:=aE;refine afp 0 ?_;have c:=au.push H (.row I 5 [[a,b,cc,d,D F x.main]]);have e:=ae.a2 H (.row I 5 [[a,b,cc,d,D F x.main]]);refine b3 @Rj.eq_1 (dV ah ai ax aM) (cn e) ?_;refine bw (sX ar (g.aB c) aC) λK p=> ?_
 have h:IntKind.i64.wrap ((bk x.ay f:Int)+(v:Int))=((bk x.ay f+v:Nat):Int):=by grind[wrap_i64]
 refine bP h ?_;exact aD.2 ⟨rfl,c.trans p⟩
theorem P2(ar:ez x){V:af}(aE:cA H ok x V){f:Nat}(aC:f<=1000000):W (aK P aG 88 [V,D F (f:Nat)] H) λr H'=>r= D F (eG x f:Nat)/\au H H':=by
 have g:=aE;have i:=kV ar;obtain⟨_,rfl,a,b,cc,d,rfl,ah,ai,ax,aM⟩:=aE;refine afG 0 ?_;have e:=au.push H (.row I 5 [[a,b,cc,d,D F x.main]]);have c:=ae.a2 H (.row I 5 [[a,b,cc,d,D F x.main]]);refine c_ @Rs.eq_1 (dV ah ai ax aM) (cn c) (c9 c) (ax.bg cD) ?_;refine bw (sX ar (g.aB e) (du _)) λK p=> ?_
 have h:IntKind.i64.wrap ((bk x.ay x.ay.length:Int)+(f:Int))=((eG x f:Nat):Int):=by grind[wrap_i64,fN,eG]
 refine bP h ?_;exact aD.2 ⟨rfl,e.trans p⟩
theorem PF(ar:ez x){V:af}(aE:cA H ok x V){g:Nat}(aS:g<=1000000):W (aK P aG 86 [V,D F (g:Nat)] H) λr H'=>r= D F (ew x g:Nat)/\au H H':=by
 have f:=aE;have k:=kV ar;have l:=ar.ay;obtain⟨_,rfl,a,b,cc,d,rfl,ah,ai,ax,aM⟩:=aE;refine afE 0 ?_;have e:=au.push H (.row I 5 [[a,b,cc,d,D F x.main]]);have c:=ae.a2 H (.row I 5 [[a,b,cc,d,D F x.main]]);have h:bF (A (.agg [a,b,cc,d,D F x.main])) (.agg [a,b,cc,d,D F x.main])=true:=by simp[bF,af.beq,e6.beq,ah.rd,ai.rd,ax.rd,aM.rd]
 refine c_ @Rq.eq_1 (dV ah ai ax aM) (cn c) (c9 c) (ax.bg cD) ?_;refine bw (sX ar (f.aB e) (du _)) λK p=> ?_
 have i:IntKind.i64.wrap ((bk x.ay x.ay.length:Int)+(x.ay.length:Int))=((fN x.ay+x.ay.length:Nat):Int):=by grind[wrap_i64,fN]
 have j:IntKind.i64.wrap (((fN x.ay+x.ay.length:Nat):Int)+(g:Int))=((ew x g:Nat):Int):=by grind[wrap_i64,ew]
 refine cv (c9 (p.get c)) (ax.bg cD) i j ?_;refine ds (λH' p=>(ag (cn (p.get c)) (ag (c9 (p.get c)) (ag (ax.bg cD) (ag (ai.bg cS) (ag h (ag (dF ax) (ag (dF ai) @fp)))))))) (aD.2 ⟨rfl,e.trans p⟩)
theorem acR(ar:right x=J){V:af}(aE:cA H ok x V):W (aK P aG 25 [V] H) λr H'=>r= D F (cf x:Nat)/\au H H':=by
 have g:=aE;have e:=ga ar;have n:=kV e;have o:=e.ay;have q:=e.globals;obtain⟨_,rfl,a,b,cc,d,rfl,ah,ai,ax,aM⟩:=aE;refine aeV 0 ?_;have f:=au.push H (.row I 5 [[a,b,cc,d,D F x.main]]);have c:=ae.a2 H (.row I 5 [[a,b,cc,d,D F x.main]]);have j:bF (A (.agg [a,b,cc,d,D F x.main])) (.agg [a,b,cc,d,D F x.main])=true:=by simp[bF,af.beq,e6.beq,ah.rd,ai.rd,ax.rd,aM.rd]
 refine b3 @Q6.eq_1 (dV ah ai ax aM) (cn c) ?_;refine bw (F1 (g.aB f) (pG e) (pH ar)) λK p=> ?_
 rw[ar];refine b3 (cn (p.get c)) (c9 (p.get c)) (ax.bg cD) ?_;refine bw (sX e ((g.aB f).aB p) (du _)) λm i=> ?_
 have h:=p.trans i;have k:IntKind.i64.wrap ((bk x.ay x.ay.length:Int)+(x.ay.length:Int))=((fN x.ay+x.ay.length:Nat):Int):=by grind[wrap_i64,fN]
 have l:IntKind.i64.wrap (((fN x.ay+x.ay.length:Nat):Int)+(x.globals.length:Int))=((cf x:Nat):Int):=by grind[wrap_i64,cf]
 refine c_ (c9 (h.get c)) (ax.bg cD) (ai.bg cS) k l ?_;refine ds (λH' p=>(ag (cn (p.get (au.get ‹_› c))) (ag (c9 (p.get (au.get ‹_› c))) (ag (ax.bg cD) (ag (ai.bg cS) (ag j (ag (dF ax) (ag (dF ai) @fp)))))))) (aD.2 ⟨rfl,f.trans h⟩)
end
end
section
open Go.a_
set_option maxRecDepth 2000
def lh(l:Nat){k a b e:Int}:gB P l 53 1 [(0,.agg [D F k,D F a,D F b,D F e])]=A (.az l 0 1 4 (A 1),.row I 4 [[D F k,D F a,D F b,D F e]]):=mW ik l rfl rfl rfl
def aY.lG{H:ae}{B:Nat}{l:List bp}{v:af}{k a b e:Int}(d:bp)(aA:cU d=[D F k,D F a,D F b,D F e])(h:aY cP B bb H l v)(m:B<=H.next)(aw:l.length<=999999998):
  ∃c H',eA P (H.push (.row I 4 [[D F k,D F a,D F b,D F e]])) [53,53] v (.az H.next 0 1 4 (A 1))=A (c,H')/\aY cP B bb H' (l++[d]) c/\cl B H H'/\H.next<H'.next:=by
 obtain⟨c,H',f,g,i,j,_⟩:=h.sc ik m (au.refl _) (a:=d) (cs:=[D F k,D F a,D F b,D F e]) aA.symm (λ_ _=>trivial) ad;exact⟨c,H',f,g,i,j⟩
section
variable {H:ae}{ok:Nat->Prop}{x:bC}{f:Nat}{c:bT}{i:In}{gv gw wi:af}
def nu(ah:aH e_ H ok c.vars gv)(ai:aH gq H ok c.ins gw){n:Int}(aL:a6 c n≠bt):W (aK P aG 148 [.agg (cG c gv gw),D F n] H) λr H'=>r= C (dy c n)/\au H H':=by
 obtain⟨dE,cL,b⟩:=FD aL;refine ad6 0 ?_;have pp:=au.push H (.row I 7 [cG c gv gw]);have b4:=ae.a2 H (.row I 7 [cG c gv gw]);obtain⟨q,d,e⟩:=ah.Dl dE b;have a:fj H.next (.agg (cG c gv gw))=A (.ptr H.next 0 0,.row I 7 [cG c gv gw]):=D_ ah ai _ _ _ _ _ _
 refine c_ @Qx.eq_1 a (h8 b4) d (e _ pp) ?_;refine bw (FZ (a6 c n)) λK p=> ?_
 exact aD.2 ⟨rfl,pp.trans p⟩
theorem PG(ar:ez x){V:af}(aE:cA H ok x V){n:Int}(a:0<=n)(aL:n<=1000):W (aK P aG 86 [V,D F n] H) λr H'=>r= D F (ew x n.toNat:Nat)/\au H H':=by
 obtain⟨k,rfl⟩:∃k:Nat,n=k:=⟨n.toNat,ad⟩;grind[PF]
theorem P3(ar:ez x){V:af}(aE:cA H ok x V){n:Int}(a:0<=n)(aL:n<=1000):W (aK P aG 88 [V,D F n] H) λr H'=>r= D F (eG x n.toNat:Nat)/\au H H':=by
 obtain⟨k,rfl⟩:∃k:Nat,n=k:=⟨n.toNat,ad⟩;grind[P2]
theorem afQ(ar:ez x){V:af}(aE:cA H ok x V){n:Int}(a:0<=n)(aL:n.toNat<=x.ay.length):W (aK P aG 52 [V,D F n] H) λr H'=>r= D F (bk x.ay n.toNat:Nat)/\au H H':=by
 grind[sX]
theorem IW(ar:ez x)(aC:f<=x.ay.length){n:Int}(aL:a6 c n≠bt)(b:c.vars.length<=4000):IntKind.i64.wrap ((bk x.ay f:Int)+n)=((bk x.ay f+n.toNat:Nat):Int):=by
 obtain⟨a,ah,_⟩:=yq aL;have:=qd ar f;have:=ar.ay;grind[wrap_i64]
structure kQ(x:bC)(f:Nat)(c:bT)(i:In)(a b cc d gv gw wi:af)(zA:Nat)(H:ae):Prop where
 aO:H.get zA=some (.row false 5 [[a,b,cc,d,.int .i64 x.main]])
 U:H.get (zA+1)=some (.row false 6 [[.int .i64 i.op,.int .i64 i.a,.int .i64 i.b,.int .i64 i.c,.int .i64 i.n,wi]])
 b4:H.get (zA+2)=some (.row false 7 [cG c gv gw])
 aE:cA H (· <zA) x (.agg [a,b,cc,d,.int .i64 x.main])
 ah:aH e_ H (· <zA) c.vars gv
 ai:aH gq H (· <zA) c.ins gw
 hw:aH aN H (· <zA) i.args wi
def kQ.e3{a b cc d:af}{zA:Nat}{H H':ae}(s:kQ x f c i a b cc d gv gw wi zA H)(p:cl (zA+3) H H'):kQ x f c i a b cc d gv gw wi zA H':=by
 have k:dm H (· <zA) H' (· <zA):=λl b (aw:l<zA) g=>⟨aw,by rw[p.2 l ad];exact g⟩
 exact⟨(p.2 _ ad).trans s.aO,(p.2 _ ad).trans s.U,(p.2 _ ad).trans s.b4,s.aE.keep k,s.ah.keep k,s.ai.keep k,s.hw.keep k⟩
def kQ.lt{a b cc d:af}{zA:Nat}{H:ae}(s:kQ x f c i a b cc d gv gw wi zA H):zA+3<=H.next:=by have:=ae.bq s.b4;omega
theorem kQ.aB{a b cc d:af}{zA:Nat}{H H':ae}(s:kQ x f c i a b cc d gv gw wi zA H)(p:au H H'):kQ x f c i a b cc d gv gw wi zA H':=s.e3 (ek p s.lt)
theorem ab7(ar:ez x)(aC:x.ay[f]? =A c){a b cc d:af}{zA:Nat}(z:i.op=13)(E:dY x f c i=J){H:ae}{l:List bp}{v:af}(s:kQ x f c i a b cc d gv gw wi zA H)(aw:aY cP (zA+3) bb H l v)(O:l.length<=1000){N:Nat}:
  W (s3 (aK P aG) N (D F (bk x.ay f:Nat)) (.ptr zA 0 0) (.ptr (zA+1) 0 0) (.ptr (zA+2) 0 0) v H) λr H'=>aY cP (zA+3) bb H' (l++(bif decide (0<=i.a)&&dy c i.a then[.copy (bk x.ay f+i.a.toNat) (eG x i.c.toNat)]else[])) r/\cl (zA+3) H H':=by
 obtain⟨g,aS⟩:=oD z E;have R:=s.lt;by_cases q:0<=i.a
 ·have t:a6 c i.a≠bt:=by
   rcases aS.res with h|h
   ·omega
   grind
  have B:i.c<=1000:=by have:=ar.ay;have:=(List.getElem?_eq_some_iff.1 aS.at_.2).1;omega
  have G:=IW ar (f:=f) al t (ia (ar.code aC)).vars;refine qb @s3.eq_1 @hD.eq_1 (o s.U) q @decide_true (k6 s.b4) ?_;refine cT (nu s.ah s.ai t) λK p=> ?_
  have j:=s.aB p;cases Q:dy c i.a with
  |false=>
   refine IE @hD.eq_1 @Bool.and_false ?_;exact aD.2 ⟨by simpa using aw.aB p,ek p ad⟩
  |true=>
   refine IE (o j.U) (cn j.aO) ?_;refine bw (P3 ar j.aE aS.at_.1 B) λL m=> ?_
   have u:=j.aB m;have S:=u.lt;obtain⟨T,H',w,y,n,M⟩:=((aw.aB p).aB m).lG (.copy (bk x.ay f+i.a.toNat) (eG x i.c.toNat)) (k:=2) (e:=0) rfl ad ad;refine qb @hD.eq_1 (o u.U) (o j.U) G @lh w ?_;have:=n.1;exact aD.2 ⟨y,(ek (p.trans m) ad).trans n⟩
 ·refine qb @s3.eq_1 @hD.eq_1 (o s.U) q @decide_false @Bool.false_and ?_;exact aD.2 ⟨al,.refl _ _⟩
theorem OB(ar:ez x)(aC:x.ay[f]? =A c){a b cc d:af}{zA:Nat}(w:i.op=13)(y:dY x f c i=J){N:Nat}:∀(j k m:Nat) (H:ae) (l:List bp) (v:af),k+j=i.args.length->j<m->kQ x f c i a b cc d gv gw wi zA H->aY cP (zA+3) bb H l v->l.length<=k->
  W (vs (aK P aG) N m (D F (bk x.ay f:Nat)) (.ptr zA 0 0) (.ptr (zA+1) 0 0) (.ptr (zA+2) 0 0) v (D F (bk x.ay i.c.toNat:Nat)) (D F (k:Nat)) H)
   λr H'=>aY cP (zA+3) bb H' (l++(ix c (bk x.ay f) (bk x.ay i.c.toNat) (i.args.drop k) k++(bif decide (0<=i.a)&&dy c i.a then[.copy (bk x.ay f+i.a.toNat) (eG x i.c.toNat)]else[]))) r/\cl (zA+3) H H'
 |_,_,0,_,_,_,_,hm,_,_,_=>ad
 |0,k,m+1,H,l,v,Q,_,s,aw,R=>by
  obtain⟨g,aS⟩:=oD w y;have O:=(ia (ar.code aS.at_.2)).params;have S:=aS.len;have aq:¬(k:Int)<(i.args.length:Int):=ad;refine cv @vs.eq_2 @Aw.eq_1 (f_ s.U) (s.hw.bg b0) ?_;grind[ix,ab7]
 |j+1,k,m+1,H,l,v,Q,av,s,aw,R=>by
  obtain⟨g,aS⟩:=oD w y;have O:=(ia (ar.code aS.at_.2)).params;have S:=aS.len;have T:k<i.args.length:=ad;have aD:=s.lt;have ap:=(List.getElem?_eq_some_iff.1 aS.at_.2).1;have an:=ar.ay;have aA:=qd ar i.c.toNat;obtain⟨E,_⟩:=aS.arg (j:=k) (v:=i.args[k]) al;have ak:=IW ar (f:=f) al E (ia (ar.code aC)).vars;obtain⟨q,B,V⟩:=s.hw.int (j:=(k:Int)) (a:=i.args[k]) ad al;have on:=OB ar aC (a:=a) (b:=b) (cc:=cc) (d:=d) (zA:=zA) w y (N:=N) j (k+1) m;have Y:∀{t:ae},kQ x f c i a b cc d gv gw wi zA t->aI P t 3 q=A (D F i.args[k]):=λs2=>by
   obtain⟨aF,z,o⟩:=s2.hw.int (j:=(k:Int)) (a:=i.args[k]) ad al;grind
  have M:i.args.drop k=i.args[k]::i.args.drop (k+1):=List.drop_eq_getElem_cons T;rw[M,ix];generalize i.args[k]=n at*;have aj:IntKind.i64.wrap ((bk x.ay i.c.toNat:Int)+(k:Int))=((bk x.ay i.c.toNat+k:Nat):Int):=by grind[wrap_i64]
  refine bh @vs.eq_2 @Aw.eq_1 (f_ s.U) (s.hw.bg b0) (k6 s.b4) (ag B V) ?_;refine bw (nu s.ah s.ai E) λK p=> ?_
  have h:=s.aB p;have aE:=h.lt;cases ax:dy c n with
  |false=>
   refine bP @Gf.eq_1 ?_;refine(on K l v ad ad h (aw.aB p) ad).mono ?_;rintro r H' ⟨z,o⟩;exact⟨z,(ek p ad).trans o⟩
  |true=>
   obtain⟨ab,H',G,L,u,am⟩:=(aw.aB p).lG (.copy (bk x.ay i.c.toNat+k) (bk x.ay f+n.toNat)) (k:=2) (e:=0) rfl ad ad;have hle:=u.1;refine bh @Gf.eq_1 (f_ h.U) B (Y h) aj (ag ak (ag @lh G)) ?_;have aa:kQ x f c i a b cc d gv gw wi zA H':=h.e3 u;refine(on H' _ ab ad ad aa L al).mono ?_;rintro r t ⟨z,o⟩;refine⟨?_,((ek p ad).trans u).trans o⟩;grind
theorem adn(ar:ez x)(aC:x.ay[f]? =A c){V:af}(aE:cA H ok x V){ok':Nat->Prop}(hw:aH aN H ok' i.args wi)(y:dY x f c i=J):W (aK P aG 111 [V,D F (f:Nat),D F (bk x.ay f:Nat),.agg (cm i wi)] H) λr H'=>aY cP H.next bb H' (cZ x f c i) r/\au H H':=by
 have bc:=aE;obtain⟨_,rfl,a,b,cc,d,rfl,ah,ai,ax,aM⟩:=aE;refine adI 10 ?_;obtain⟨zA,R⟩:∃zA,zA=H.next:=⟨_,rfl⟩
 have bx:=(List.getElem?_eq_some_iff.1 aC).1;have bv:=ar.ay;have a_:=ia (ar.code aC);obtain⟨L,n,gv,gw,bd,be,bV,b9⟩:∃L n v w,ct P 24 cc (D F f)=A (.ptr L n 0)/\(∀H',au H H'->aI P H' 49 (.ptr L n 0)=A (.agg (cG c v w)))/\aH e_ H ok c.vars v/\aH gq H ok c.ins w:=by
  obtain⟨L,n,ro,els,cs,ah,_,ai,ax,v,w,rfl,bV,b9⟩:=ax.at_ (K:=gf) cD (j:=(f:Int)) (a:=c) ad al;exact⟨L,n,v,w,ah,λH' p=>hz (n:=7) (c:=0) aF aF (p.get ai) ax (by exact du 7),bV,b9⟩
 have a1:=au.push H (.row I 5 [[a,b,cc,d,D F x.main]]);have aO:=ae.a2 H (.row I 5 [[a,b,cc,d,D F x.main]]);have ap:=au.push (H.push (.row I 5 [[a,b,cc,d,D F x.main]])) (.row I 6 [cm i wi]);have U:=ae.a2 (H.push (.row I 5 [[a,b,cc,d,D F x.main]])) (.row I 6 [cm i wi]);have aQ:=au.push ((H.push (.row I 5 [[a,b,cc,d,D F x.main]])).push (.row I 6 [cm i wi])) (.row I 7 [cG c gv gw]);have b4:=ae.a2 ((H.push (.row I 5 [[a,b,cc,d,D F x.main]])).push (.row I 6 [cm i wi])) (.row I 7 [cG c gv gw]);have st:=p9 (c:=c) (v:=gv) (w:=gw) (ae.a2 ((H.push (.row I 5 [[a,b,cc,d,D F x.main]])).push (.row I 6 [cm i wi])) (.row I 7 [[D F 0,.ao,C I,D F 0,D F 0,D F 0,.ao]])) bV.one b9.one
 simp only[ae.fR]at st;have a9:aI P ((H.push (.row I 5 [[a,b,cc,d,D F x.main]])).push (.row I 6 [cm i wi])) 24 (.ptr H.next 0 2)=A cc:=(c9 (ap.get aO)).2.2.1;refine bh @Qk.eq_1 (dV ah ai ax aM) (dn hw) a9 bd (ag (be _ (a1.trans ap)) (ag st @ae.gU)) ?_;have ak:=(a1.trans ap).trans aQ;have ba:aH aN (((H.push (.row I 5 [[a,b,cc,d,D F x.main]])).push (.row I 6 [cm i wi])).push (.row I 7 [cG c gv gw])) (· <zA) i.args wi:=R▸hw.below.aB ak;have m:kQ x f c i a b cc d gv gw wi zA (((H.push (.row I 5 [[a,b,cc,d,D F x.main]])).push (.row I 6 [cm i wi])).push (.row I 7 [cG c gv gw])):=by
  refine⟨?_,?_,?_,?_,R▸bV.below.aB ak,R▸b9.below.aB ak,ba⟩
  ·rw[R];exact aQ.get (ap.get aO)
  ·have z:=aQ.get U;rw[ae.fR,<-R]at z;exact z
  ·rw[R];simpa using b4
  ·rw[R];exact bc.keep λl b _ g=>⟨ae.bq g,ak.get g⟩
 have bC:(((H.push (.row I 5 [[a,b,cc,d,D F x.main]])).push (.row I 6 [cm i wi])).push (.row I 7 [cG c gv gw])).next=zA+3:=by rw[R];simp
 generalize (((H.push (.row I 5 [[a,b,cc,d,D F x.main]])).push (.row I 6 [cm i wi])).push (.row I 7 [cG c gv gw]))=H0 at*;rw[<-R];clear aO U b4 st a9 a1 ap aQ;have fin:∀{am av:ae} {r:af} {l:List bp},aY cP (zA+3) bb av l r->au H0 am->cl (zA+3) am av->aY cP zA bb av l r/\au H av:=λg p q=>
  ⟨⟨g.eL,λL n c e=>by have:=g.low L n c e;omega⟩,by have:=ak.1;have:=p.1;have:=q.1;omega,λl aw=>by rw[q.2 l ad,p.2 l ad,ak.2 l aw]⟩
 have nil:∀{am:ae},cZ x f c i=[]->au H0 am->W (hD (aK P aG) 10 af.ao am) λr H'=>aY cP zA bb H' (cZ x f c i) r/\au H H':=λe p=>by
  rw[hD];exact aD.2 (by rw[e];exact fin (aY.nil _ _ _ _) p (.refl _ _))
 have M:=f_ m.U;have G:∀{n:Int},a6 c n≠bt->IntKind.i64.wrap ((bk x.ay f:Int)+n)=((bk x.ay f+n.toNat:Nat):Int):=λh=>IW ar ad h a_.vars
 by_cases ax:i.op=3
 ·have t:∀j:Int,(i.op==j)=(3==j):=λj=>by rw[ax]
  have u:=(yh ax y).1;have S:a6 c i.b≠bt:=(yh ax y).2▸u;have e:cZ x f c i=bif dy c i.a then[bp.copy (bk x.ay f+i.a.toNat) (bk x.ay f+i.b.toNat)]else[]:=by grind[cZ]
  simp-implicitDefEqProofs(disch:=try exact aW)only[reduceAdd,reduceLeDiff,reduceIte,bB,M,o m.U,t,Int.reduceBEq,k6 m.b4];refine bw (nu m.ah m.ai u) λK p=> ?_
  have s:=m.aB p;have aj:=s.lt;cases E:dy c i.a with
  |false=>
   refine bN ?_;grind
  |true=>
   rw[E]at e;obtain⟨T,H',B,N,O,Q⟩:=(aY.nil cP (zA+3) bb K).lG (.copy (bk x.ay f+i.a.toNat) (bk x.ay f+i.b.toNat)) (k:=2) (a:=((bk x.ay f+i.a.toNat:Nat):Int)) (b:=((bk x.ay f+i.b.toNat:Nat):Int)) (e:=0) rfl ad aX;refine bh @hD.eq_1 (o s.U) (G u) (G S) @lh B ?_;grind[aD]
 have bn:(i.op==3)=false:=beq_eq_false_iff_ne.2 ax;by_cases aA:i.op=6
 ·have t:∀j:Int,(i.op==j)=(6==j):=λj=>by rw[aA]
  have u:=(yi aA y).1;have aq:e8 x (a6 c i.b) i.c≠bt:=(yi aA y).2▸u;have S:=sA aq;have ab:=(sz ar aq).1;have e:cZ x f c i=bif dy c i.a then[bp.load (bk x.ay f+i.a.toNat) (bk x.ay f+i.b.toNat) i.c.toNat]else[]:=by grind[cZ]
  simp-implicitDefEqProofs(disch:=try exact aW)only[reduceAdd,reduceLeDiff,reduceIte,bB,M,o m.U,t,Int.reduceBEq,k6 m.b4];refine bw (nu m.ah m.ai u) λK p=> ?_
  have s:=m.aB p;have aj:=s.lt;cases E:dy c i.a with
  |false=>
   refine bN ?_;grind
  |true=>
   rw[E]at e;obtain⟨T,H',B,N,O,Q⟩:=(aY.nil cP (zA+3) bb K).lG (.load (bk x.ay f+i.a.toNat) (bk x.ay f+i.b.toNat) i.c.toNat) (k:=3) (a:=((bk x.ay f+i.a.toNat:Nat):Int)) (b:=((bk x.ay f+i.b.toNat:Nat):Int)) (e:=i.c) (by rw[cU,sQ ab]) ad aX;refine bh @hD.eq_1 (o s.U) (G u) (G S) @lh B ?_;grind[aD]
 have bo:(i.op==6)=false:=beq_eq_false_iff_ne.2 aA;by_cases aL:i.op=8
 ·have t:∀j:Int,(i.op==j)=(8==j):=λj=>by rw[aL]
  have u:=(yk aL y).1;have S:=n1 (yk aL y).2.1;have e:cZ x f c i=bif dy c i.a then[bp.load (bk x.ay f+i.a.toNat) (bk x.ay f+i.b.toNat) 0]else[]:=by grind[cZ]
  simp-implicitDefEqProofs(disch:=try exact aW)only[reduceAdd,reduceLeDiff,reduceIte,bB,M,o m.U,t,Int.reduceBEq,k6 m.b4];refine bw (nu m.ah m.ai u) λK p=> ?_
  have s:=m.aB p;have aj:=s.lt;cases E:dy c i.a with
  |false=>
   refine bN ?_;grind
  |true=>
   rw[E]at e;obtain⟨T,H',B,N,O,Q⟩:=(aY.nil cP (zA+3) bb K).lG (.load (bk x.ay f+i.a.toNat) (bk x.ay f+i.b.toNat) 0) (k:=3) (a:=((bk x.ay f+i.a.toNat:Nat):Int)) (b:=((bk x.ay f+i.b.toNat:Nat):Int)) (e:=0) rfl ad aX;refine bh @hD.eq_1 (o s.U) (G u) (G S) @lh B ?_;grind[aD]
 have bs:(i.op==8)=false:=beq_eq_false_iff_ne.2 aL;by_cases aJ:i.op=7
 ·have t:∀j:Int,(i.op==j)=(7==j):=λj=>by rw[aJ]
  have S:=(yj aJ y).1;have aq:e8 x (a6 c i.a) i.c≠bt:=(yj aJ y).2▸S;have u:=sA aq;have ab:=(sz ar aq).1;have e:cZ x f c i=bif dy c i.b then[bp.store (bk x.ay f+i.a.toNat) (bk x.ay f+i.b.toNat) i.c.toNat]else[]:=by grind[cZ]
  simp-implicitDefEqProofs(disch:=try exact aW)only[reduceAdd,reduceLeDiff,reduceIte,bB,M,o m.U,t,Int.reduceBEq,k6 m.b4];refine bw (nu m.ah m.ai S) λK p=> ?_
  have s:=m.aB p;have aj:=s.lt;cases E:dy c i.b with
  |false=>
   refine bN ?_;grind
  |true=>
   rw[E]at e;obtain⟨T,H',B,N,O,Q⟩:=(aY.nil cP (zA+3) bb K).lG (.store (bk x.ay f+i.a.toNat) (bk x.ay f+i.b.toNat) i.c.toNat) (k:=4) (a:=((bk x.ay f+i.a.toNat:Nat):Int)) (b:=((bk x.ay f+i.b.toNat:Nat):Int)) (e:=i.c) (by rw[cU,sQ ab]) ad aX;refine bh @hD.eq_1 (o s.U) (G u) (G S) @lh B ?_;grind[aD]
 have br:(i.op==7)=false:=beq_eq_false_iff_ne.2 aJ;by_cases aP:i.op=9
 ·have t:∀j:Int,(i.op==j)=(9==j):=λj=>by rw[aP]
  have a8:=(yl aP y).1;have u:=n1 (yl aP y).2.1;have e:cZ x f c i=bif dy c i.c then[bp.store (bk x.ay f+i.a.toNat) (bk x.ay f+i.c.toNat) 0]else[]:=by grind[cZ]
  simp-implicitDefEqProofs(disch:=try exact aW)only[reduceAdd,reduceLeDiff,reduceIte,bB,M,o m.U,t,Int.reduceBEq,k6 m.b4];refine bw (nu m.ah m.ai a8) λK p=> ?_
  have s:=m.aB p;have aj:=s.lt;cases E:dy c i.c with
  |false=>
   refine bN ?_;grind
  |true=>
   rw[E]at e;obtain⟨T,H',B,N,O,Q⟩:=(aY.nil cP (zA+3) bb K).lG (.store (bk x.ay f+i.a.toNat) (bk x.ay f+i.c.toNat) 0) (k:=4) (a:=((bk x.ay f+i.a.toNat:Nat):Int)) (b:=((bk x.ay f+i.c.toNat:Nat):Int)) (e:=0) rfl ad aX;refine bh @hD.eq_1 (o s.U) (G u) (G a8) @lh B ?_;grind[aD]
 have bu:(i.op==9)=false:=beq_eq_false_iff_ne.2 aP;by_cases aT:i.op=11
 ·have t:∀j:Int,(i.op==j)=(11==j):=λj=>al
  have u:=(rJ aT y).1.1;have ab:=(nc (rJ aT y).2).1;have e:cZ x f c i=[bp.base (bk x.ay f+i.a.toNat) i.n.toNat]:=by grind[cZ]
  have aj:=m.lt;obtain⟨T,H',B,N,O,Q⟩:=(aY.nil cP (zA+3) bb H0).lG (.base (bk x.ay f+i.a.toNat) i.n.toNat) (k:=1) (a:=((bk x.ay f+i.a.toNat:Nat):Int)) (b:=i.n) (e:=0) (by rw[cU,sQ ab]) ad aX;simp-implicitDefEqProofs(disch:=try exact aW)only[ow,hD,reduceAdd,reduceLeDiff,reduceIte,bB,M,o m.U,t,Int.reduceBEq,G u,lh,tW,B];grind[aD,au.refl]
 have bf:(i.op==11)=false:=beq_eq_false_iff_ne.2 aT;by_cases aU:i.op=12
 ·have t:∀j:Int,(i.op==j)=(12==j):=λj=>al
  have u:=n1 (rK aU y).1.1;have ab:=(nc (rK aU y).2).1;have e:cZ x f c i=[bp.base (bk x.ay f+i.a.toNat) i.n.toNat]:=by grind[cZ]
  have aj:=m.lt;obtain⟨T,H',B,N,O,Q⟩:=(aY.nil cP (zA+3) bb H0).lG (.base (bk x.ay f+i.a.toNat) i.n.toNat) (k:=1) (a:=((bk x.ay f+i.a.toNat:Nat):Int)) (b:=i.n) (e:=0) (by rw[cU,sQ ab]) ad aX;simp-implicitDefEqProofs(disch:=try exact aW)only[ow,hD,reduceAdd,reduceLeDiff,reduceIte,bB,M,o m.U,t,Int.reduceBEq,G u,lh,tW,B];grind[aD,au.refl]
 have bg:(i.op==12)=false:=beq_eq_false_iff_ne.2 aU;by_cases aV:i.op=13
 ·have t:∀j:Int,(i.op==j)=(13==j):=λj=>al
  obtain⟨g,aS⟩:=oD aV y;have a5:=(List.getElem?_eq_some_iff.1 aS.at_.2).1;have bz:=(ia (ar.code aS.at_.2)).params;have bA:=aS.len;have e:cZ x f c i=ix c (bk x.ay f) (bk x.ay i.c.toNat) i.args 0++(bif decide (0<=i.a)&&dy c i.a then[.copy (bk x.ay f+i.a.toNat) (eG x i.c.toNat)]else[]):=by grind[cZ]
  simp-implicitDefEqProofs(disch:=try exact aW)only[ow,reduceAdd,reduceLeDiff,reduceIte,bB,M,o m.U,t,Int.reduceBEq,cn m.aO];refine bw (afQ ar m.aE aS.at_.1 ad) λK p=> ?_
  have s:=m.aB p;refine(OB ar aC aV y i.args.length 0 10 K [] .ao ad ad s (aY.nil _ _ _ _) aX).mono ?_;grind
 have bi:(i.op==13)=false:=beq_eq_false_iff_ne.2 aV;by_cases a4:i.op=18
 ·have t:∀j:Int,(i.op==j)=(18==j):=λj=>al
  have e:cZ x f c i=bif decide (0<=i.a)&&dy c i.a then[bp.copy (eG x f) (bk x.ay f+i.a.toNat)]else[]:=by grind[cZ]
  by_cases aR:0<=i.a
  ·have u:a6 c i.a≠bt:=by
    rcases R7 a4 y with h|h
    ·grind
    omega
   simp-implicitDefEqProofs(disch:=try exact aW)only[ow,reduceAdd,reduceLeDiff,reduceIte,bB,M,o m.U,t,Int.reduceBEq,ge_iff_le,aR,decide_true,k6 m.b4];refine cT (nu m.ah m.ai u) λK p=> ?_
   have s:=m.aB p;cases E:dy c i.a with
   |false=>
    refine bN ?_;grind
   |true=>
    rw[E,decide_eq_true aR]at e;refine bP (cn s.aO) ?_;refine bw (P3 ar s.aE (n:=(f:Int)) ad ad) λan Y=> ?_
    have aa:=s.aB Y;have a7:=aa.lt;obtain⟨T,H',B,N,O,Q⟩:=(aY.nil cP (zA+3) bb an).lG (.copy (eG x f) (bk x.ay f+i.a.toNat)) (k:=2) (e:=0) rfl ad aX;refine bh @hD.eq_1 (o aa.U) (o s.U) (G u) @lh (ag @Int.toNat_natCast B) ?_;exact aD.2 (by rw[e];exact fin N (p.trans Y) O)
  ·simp-implicitDefEqProofs(disch:=try exact aW)only[ow,reduceAdd,reduceLeDiff,reduceIte,bB,M,o m.U,t,Int.reduceBEq,ge_iff_le,aR,decide_false,Bool.false_and];grind[au.refl]
 have bj:(i.op==18)=false:=beq_eq_false_iff_ne.2 a4;by_cases aZ:i.op=19
 ·have t:∀j:Int,(i.op==j)=(19==j):=λj=>al
  have u:=(tP aZ y).1;have a3:=mb (tP aZ y).2;have a5:=ar.globals;have e:cZ x f c i=bif dy c i.a then[bp.copy (bk x.ay f+i.a.toNat) (ew x i.n.toNat)]else[]:=by grind[cZ]
  simp-implicitDefEqProofs(disch:=try exact aW)only[ow,reduceAdd,reduceLeDiff,reduceIte,bB,M,o m.U,t,Int.reduceBEq,k6 m.b4];refine bw (nu m.ah m.ai u) λK p=> ?_
  have s:=m.aB p;cases E:dy c i.a with
  |false=>
   refine bN ?_;grind
  |true=>
   rw[E]at e;refine bG (o s.U) (cn s.aO) ?_;refine bw (PG ar s.aE a3.1 ad) λan Y=> ?_
   have aa:=s.aB Y;have a7:=aa.lt;obtain⟨T,H',B,N,O,Q⟩:=(aY.nil cP (zA+3) bb an).lG (.copy (bk x.ay f+i.a.toNat) (ew x i.n.toNat)) (k:=2) (e:=0) rfl ad aX;refine bh @hD.eq_1 (o aa.U) (o s.U) (G u) @lh B ?_;exact aD.2 (by rw[e];exact fin N (p.trans Y) O)
 have bl:(i.op==19)=false:=beq_eq_false_iff_ne.2 aZ;by_cases a0:i.op=20
 ·have t:∀j:Int,(i.op==j)=(20==j):=λj=>al
  have u:=(tQ a0 y).1;have a3:=mb (tQ a0 y).2;have a5:=ar.globals;have e:cZ x f c i=bif dy c i.a then[bp.copy (ew x i.n.toNat) (bk x.ay f+i.a.toNat)]else[]:=by grind[cZ]
  simp-implicitDefEqProofs(disch:=try exact aW)only[ow,reduceAdd,reduceLeDiff,reduceIte,bB,M,o m.U,t,Int.reduceBEq,k6 m.b4];refine bw (nu m.ah m.ai u) λK p=> ?_
  have s:=m.aB p;cases E:dy c i.a with
  |false=>
   refine bN ?_;grind
  |true=>
   rw[E]at e;refine bG (o s.U) (cn s.aO) ?_;refine bw (PG ar s.aE a3.1 ad) λan Y=> ?_
   have aa:=s.aB Y;have a7:=aa.lt;obtain⟨T,H',B,N,O,Q⟩:=(aY.nil cP (zA+3) bb an).lG (.copy (ew x i.n.toNat) (bk x.ay f+i.a.toNat)) (k:=2) (e:=0) rfl ad aX;refine bh @hD.eq_1 (o aa.U) (o s.U) (G u) @lh B ?_;exact aD.2 (by rw[e];exact fin N (p.trans Y) O)
 have bm:(i.op==20)=false:=beq_eq_false_iff_ne.2 a0;have e:cZ x f c i=[]:=by
  grind[cZ]
 refine bh @ow.eq_1 M bn bo bs (ag br (ag bu (ag bf (ag bg (ag bi (ag bj (ag bl bm))))))) ?_;grind[au.refl]
end
end
section
open Go.a_
set_option maxRecDepth 2000
def aY.KF{ok:Nat->Prop}{B:Nat}{H1:ae}{l m:List bp}{v w:af}(h:aY cP B bb H1 l v)(b:B<=H1.next)(hm:aH cP H1 ok m w)(aw:l.length+m.length<=1000000000):
  ∃a H',eA P H1 [53,53] v w=A (a,H')/\aY cP B bb H' (l++m) a/\cl B H1 H'/\(∀k,k<H1.next->(∀L n c,v= .az L 0 n 4 c->k≠L)->H'.get k=H1.get k)/\(a=v\/∃n,a= .az H1.next 0 n 4 Z):=
 h.app ik b ((hm.y7 ik).plain (okE':=λ_=>False) I6) (λ_ _ h=>h.elim) (λ_ _ _ _=>trivial) (ok':=bb) trivial aw
section
variable {H:ae}{ok:Nat->Prop}{x:bC}
theorem N_(ar:ez x){f:Nat}{c:bT}(aC:x.ay[f]? =A c){a b cc d gv gw:af}{zA zC R:Nat}(T:zA<zC){L1:af->af->af->ae->O}{Q:af->ae->Prop}{N:Nat}:∀(j k n:Nat) (H:ae) (l:List bp) (v:af),k+j=c.ins.length->j<n->c.ins.length<=1000000->l.length+7*j+R<=1000000->
  H.get zA=A (.row I 5 [[a,b,cc,d,D F x.main]])->cA H (· <zA) x (.agg [a,b,cc,d,D F x.main])->H.get zC=A (.row I 7 [cG c gv gw])->aH gq H (· <zA) c.ins gw->aY cP (zA+1) bb H l v->(∀L n B,v= .az L 0 n 4 B->zC≠L)->
  (∀H' h o,cl (zA+1) H H'->o=l++(c.ins.drop k).flatMap (cZ x f c)->o.length+R<=1000000->aY cP (zA+1) bb H' o h->W (xe (aK P aG) N L1 (.ptr zA 0 0) h (D F f) H') Q)->
  W (xg (aK P aG) N L1 n (.ptr zA 0 0) v (D F f) (.ptr zC 0 0) (D F (bk x.ay f:Nat)) (D F k) H) Q
 |_,_,0,_,_,_,_,hm,_,_,_,_,_,_,_,_,_=>ad
 |0,k,n+1,H,l,v,U,_,_,aw,cj,aE,b4,aS,m,s,fin=>by
  have am:¬(k:Int)<(c.ins.length:Int):=ad;have:=fin H v l (.refl _ _) al ad m;refine cv @xg.eq_2 @Cj.eq_1 (h8 b4) (aS.bg eP) ?_;omega
 |j+1,k,n+1,H,l,v,U,ap,V,aw,cj,aE,b4,aS,m,s,fin=>by
  have r:k<c.ins.length:=ad;obtain⟨L,nn,wi,aa,ab,aj⟩:=aS.uK (j:=(k:Int)) (i:=c.ins[k]) ad al;have t:dY x f c c.ins[k]=true:=(ia (ar.code aC)).ins (List.getElem_mem r);have on:=N_ ar aC (a:=a) (b:=b) (cc:=cc) (d:=d) (gv:=gv) (gw:=gw) T (R:=R) (L1:=L1) (Q:=Q) (N:=N) j (k+1) n;rw[List.drop_eq_getElem_cons r,List.flatMap_cons]at fin;generalize c.ins[k]=i at*;have an:=EJ t ar;have iB:=ae.bq b4;refine bh @xg.eq_2 @Cj.eq_1 (h8 b4) (aS.bg eP) (cn cj) (ag aa (ab _ (au.refl _))) ?_;refine e2 (adn ar aC aE aj t) λw K ak p=> ?_
  obtain⟨h,H',E,G,q,M,e⟩:=(m.aB p).KF (m:=cZ x f c i) (w:=w) (by have:=p.1;omega) ak.az ad;have hle:=q.1;have S:H'.get zC=A (.row I 7 [cG c gv gw]):=by
   rw[M zC (by have:=p.1;omega) s];exact p.get b4
  refine bP E ?_;have pu:cl (zA+1) H H':=(ek p ad).trans q;have u:dm H (· <zA) H' (· <zA):=λz b (Y:z<zA) g=>⟨Y,by rw[pu.2 z ad];exact g⟩
  refine on H' (l++cZ x f c i) h ad ad V al ((pu.2 zA ad).trans cj) (aE.keep u) S (aS.keep u) G ?_ λy v2 l2 ah ai ax aM=>fin y v2 l2 (pu.trans ah) al ax aM
  rintro L2 aq bd rfl;rcases e with e|⟨av,e⟩
  ·grind
  ·cases e;have:=p.1;omega
theorem Oa(ar:ez x)(hlen:∀c∈x.ay,c.ins.length<=2500){a b cc d:af}{zA N:Nat}(E:2501<=N):∀(j k n:Nat) (H:ae) (l:List bp) (v:af),k+j=x.ay.length->j<n->l.length+7*hl (x.ay.drop k)<=1000000->
  H.get zA=A (.row I 5 [[a,b,cc,d,D F x.main]])->cA H (· <zA) x (.agg [a,b,cc,d,D F x.main])->aH gf H (· <zA) x.ay cc->aY cP (zA+1) bb H l v->
  W (xf (aK P aG) N n (.ptr zA 0 0) v (D F k) H) λr H'=>cl (zA+1) H H'/\aY cP (zA+1) bb H' (l++ks x (x.ay.drop k) k) r
 |_,_,0,_,_,_,_,hm,_,_,_,_,_=>ad
 |0,k,n+1,H,l,v,M,_,_,cj,aE,aA,m=>by
  have am:¬(k:Int)<(x.ay.length:Int):=ad;refine c_ @xf.eq_2 @Ci.eq_1 @xd.eq_1 (c9 cj) (aA.bg cD) ?_;refine aD.2 ⟨.refl _ _,?_⟩;grind[ks]
 |j+1,k,n+1,H,l,v,M,an,aw,cj,aE,aA,m=>by
  have h:k<x.ay.length:=ad;have aj:=ar.ay;have ap:=ae.bq cj;obtain⟨L,nn,gv,gw,U,V,bV,b9⟩:∃L n v w,ct P 24 cc (D F k)=A (.ptr L n 0)/\(∀H',au H H'->aI P H' 49 (.ptr L n 0)=A (.agg (cG x.ay[k] v w)))/\aH e_ H (· <zA) x.ay[k].vars v/\aH gq H (· <zA) x.ay[k].ins w:=by
   obtain⟨L,n,ro,els,cs,ah,_,ai,ax,v,w,rfl,bV,b9⟩:=aA.at_ (K:=gf) cD (j:=(k:Int)) (a:=x.ay[k]) ad al;exact⟨L,n,v,w,ah,λH' p=>hz (n:=7) (c:=0) aF aF (p.get ai) ax (by exact du 7),bV,b9⟩
  have ak:=hlen _ (List.getElem_mem h);have G:x.ay[k]? =A x.ay[k]:=al;have on:=Oa ar hlen (a:=a) (b:=b) (cc:=cc) (d:=d) (zA:=zA) E j (k+1) n;rw[List.drop_eq_getElem_cons h,hl]at aw;rw[List.drop_eq_getElem_cons h,ks,uz];generalize x.ay[k]=g at*;have st:=p9 (c:=g) (v:=gv) (w:=gw) (ae.a2 H (.row I 7 [[D F 0,.ao,C I,D F 0,D F 0,D F 0,.ao]])) bV.one b9.one;have o:=au.push H (.row I 7 [cG g gv gw]);have b4:=ae.a2 H (.row I 7 [cG g gv gw]);have B:=o.get cj;have Q:dm H (· <zA) (H.push (.row I 7 [cG g gv gw])) (· <zA):=λz b (f:z<zA) q=>⟨f,o.get q⟩
  refine bh @xf.eq_2 @Ci.eq_1 (c9 cj) (aA.bg cD) U (ag (V _ (au.refl _)) (ag st (ag @ae.gU (cn B)))) ?_;refine bw (sX ar (aE.keep Q) (Nat.le_of_lt h)) λK p=> ?_
  have i:=o.trans p;have t:dm H (· <zA) K (· <zA):=λz b (f:z<zA) q=>⟨f,i.get q⟩
  refine N_ ar G (R:=7*hl (x.ay.drop (k+1))) (show zA<H.next by omega) g.ins.length 0 N _ l v ad ad ad ad (i.get cj) (aE.keep t) (p.get b4) (b9.keep t) (m.aB i) (λL2 aq bd e=>by have:=m.eL.lt e;omega) ?_;intro H' Y S pu e O T;rw[List.drop_zero]at e;have s:cl (zA+1) H H':=(ek i ad).trans pu;have u:dm H (· <zA) H' (· <zA):=λz b (f:z<zA) q=>⟨f,by rw[s.2 z ad];exact q⟩
  refine bP @xe.eq_1 ?_;refine(on H' S Y ad ad O ((s.2 zA ad).trans cj) (aE.keep u) (aA.keep u) T).mono ?_;rintro r aa ⟨y,ab⟩;exact⟨s.trans y,al⟩
theorem adk(ar:right x=J){V:af}(aE:cA H ok x V):W (aK P aG 57 [V] H) λr H'=>aY cP H.next bb H' (cons x) r/\au H H':=by
 have o:=aE;have i:=ga ar;obtain⟨_,rfl,a,b,cc,d,rfl,ah,ai,ax,aM⟩:=aE;refine afq 2501 ?_;have h:=au.push H (.row I 5 [[a,b,cc,d,D F x.main]]);have m:=ae.a2 H (.row I 5 [[a,b,cc,d,D F x.main]]);refine bG @Rk.eq_1 (dV ah ai ax aM) ?_;have q:=pI ar;have j:dm H ok (H.push (.row I 5 [[a,b,cc,d,D F x.main]])) (· <H.next):=λz b _ g=>⟨ae.bq g,h.get g⟩
 have p:=i.ay;refine(Oa i (λc aA=>by have:=qK aA;omega) (N:=2501) (du _) x.ay.length 0 2501 _ [] .ao ad ad al m (o.keep j) (ax.keep j) (aY.nil _ _ _ _)).mono ?_;rintro r H' ⟨k,f⟩;rw[List.drop_zero,List.nil_append]at f;exact⟨⟨f.eL,λL n c e=>by have:=f.low L n c e;omega⟩,by have:=h.1;have:=k.1;omega,λl aw=>by rw[k.2 l ad,h.2 l aw]⟩
end
end
end Go.Proofs.YtmhhnnklfcbgfaaGreat
namespace Go.a_
open Go.cw
open Classical
def di(l:List Bool)(s:Nat):Bool:=l.getD s I
theorem yS{l:List Bool}{s:Nat}:di l s=J↔l[s]? =A true:=by
 grind[di]
def D8{l:List Bool}{s:Nat}(h:di l s=J):s<l.length:=(by grind[yS])
theorem qq{l:List Bool}{s:Nat}(h:s<l.length):l[s]? =A (di l s):=by
 grind[di]
theorem yR{l:List Bool}{s t:Nat}(h:s<l.length):di (l.set s J) t=J↔t=s\/di l t=true:=by
 grind[yS]
theorem Kb(m s:Nat):di (List.replicate m I) s=false:=by
 grind[di]
def k8:List Bool->Nat
 |[]=>0
 |b::bs=>(if b then 1 else 0)+k8 bs
theorem zP:∀(l:List Bool),k8 l<=l.length
 |[]=>du _
 |b::bs=>by have:=zP bs;grind[k8]
theorem Ft:∀{l:List Bool} {s:Nat},l[s]? =A I->k8 (l.set s J)=k8 l+1
 |[],_,h=>by grind
 |b::bs,0,h=>by
  simp only[List.getElem?_cons_zero,bD]at h;subst h;simp[k8];omega
 |b::bs,s+1,h=>by
  have:=Ft (l:=bs) (s:=s) (by grind);grind[k8]
def kZ(B:Nat->List Bool):Nat->Nat
 |0=>0
 |v+1=>kZ B v+k8 (B v)
def mY(B:Nat->List Bool)(v s:Nat):Nat->List Bool:=λu=>if u=v then(B v).set s J else B u
def Ej{B:Nat->List Bool}{m:Nat}(h:∀v,(B v).length=m):∀N,kZ B N<=N*m
 |0=>by simp[kZ]
 |v+1=>by
  have:=Ej h v;grind[zP,kZ]
def KG{B:Nat->List Bool}{v s:Nat}(h:(B v)[s]? =A I):∀N,kZ (mY B v s) N=kZ B N+if v<N then 1 else 0
 |0=>by simp[kZ]
 |u+1=>by
  have a:=KG h u;grind[kZ,mY,Ft]
def ajo{B:Nat->List Bool}{m v s:Nat}(h:∀v,(B v).length=m):∀u,(mY B v s u).length=m:=by
 grind[mY]
def ajn{B:Nat->List Bool}{v s u t:Nat}(a:s<(B v).length):di (mY B v s u) t=J↔(u=v/\t=s)\/di (B u) t=true:=by
 grind[mY,yR]
structure kS(N:Nat)(t:Bool)(B:Nat->List Bool)(b:Bool)(a:Nat->List Bool):Prop where
 le:kZ B N<=kZ a N
 on:b=true->t=true\/kZ B N<kZ a N
 off:b=false->t=false/\a=B
theorem kS.refl(N:Nat)(t:Bool)(B:Nat->List Bool):kS N t B t B:=⟨(by omega),.inl,λh=>⟨h,rfl⟩⟩
theorem kS.trans{N:Nat}{t j l:Bool}{B f g:Nat->List Bool}(h:kS N t B j f)(k:kS N j f l g):kS N t B l g:=
 ⟨Nat.le_trans h.le k.le,λe=>by
  rcases k.on e with i|i
  ·rcases h.on i with m|m
   ·grind
   ·exact .inr (by have:=k.le;omega)
  ·exact .inr (by have:=h.le;omega),λe=>by
  obtain⟨a,b⟩:=k.off e;obtain⟨c,d⟩:=h.off a;grind⟩
theorem kS.set{N v s:Nat}{t:Bool}{B:Nat->List Bool}(a:v<N)(h:(B v)[s]? =A I):kS N t B J (mY B v s):=by
 have:=KG h N;rw[if_pos a]at this;exact⟨by omega,(by omega),λe=>by cases e⟩
structure h0(n m:Nat)(l:List bp)(B:Nat->List Bool):Prop where
 len:∀v,(B v).length=m
 snd:∀v s,di (B v) s=true->dH n l v s
theorem h0.set{n m:Nat}{l:List bp}{B:Nat->List Bool}(h:h0 n m l B){v s:Nat}(b:s<m)(a:dH n l v s):h0 n m l (mY B v s):=by
 refine⟨ajo h.len,λu t ba=> ?_⟩;rcases(ajn (by rw[h.len];omega)).1 ba with⟨rfl,rfl⟩|ah
 ·omega
 ·exact h.snd u t ah
theorem h0.start(n m:Nat)(l:List bp):h0 n m l λ_=>List.replicate m false:=
 ⟨λ_=>by simp,(by grind[Kb])⟩
def kP(n:Nat)(B:Nat->List Bool):bp->Prop
 | .base a b=>di (B a) b=J
 | .copy a b=>∀s,di (B b) s=J->di (B a) s=J
 | .load a b f=>∀t s,di (B b) t=J->di (B (n+t*8+f)) s=J->di (B a) s=J
 | .store a b f=>∀t s,di (B a) t=J->di (B b) s=J->di (B (n+t*8+f)) s=J
 | .same a b=>∀f s,f<8->(di (B (n+a*8+f)) s=J↔di (B (n+b*8+f)) s=J)
def Yj{n:Nat}{l:List bp}{B:Nat->List Bool}(h:∀c∈l,kP n B c):Fit n l λv s=>di (B v) s=true:=
 ⟨λaA=>h _ aA,λaA=>h _ aA _,λaA=>h _ aA _ _,λaA=>h _ aA _ _,λaA aC ah=>(h _ aA _ _ aC).1 ah,λaA aC ah=>(h _ aA _ _ aC).2 ah⟩
def h0.iff{n m:Nat}{l:List bp}{B:Nat->List Bool}(h:h0 n m l B)(aC:∀c∈l,kP n B c)(v s:Nat):di (B v) s=J↔dH n l v s:=
 ⟨h.snd v s,λp=>p.least (Yj aC)⟩
def h0.row{n m:Nat}{l:List bp}{B:Nat->List Bool}(h:h0 n m l B)(aC:∀c∈l,kP n B c)(v:Nat):iK (B v) 0=(c7 m (dH n l v)).map λ(n:Nat)=>(n:Int):=by
 have:=Dj (m:=m) (p:=dH n l v) (bs:=B v) (k:=0) (by have:=h.len v;omega) λi _ _=>by rw[Nat.sub_zero,<-yS];exact h.iff aC v i
 grind[List.filter_eq_self]
end Go.a_
namespace Go.Proofs.YtmhhnnklfcbgfaaGreat
open Go.cw
open Nat (reduceAdd reduceLeDiff)
section
open Go.a_
set_option maxRecDepth 2000
def jc(m:Nat):eS Nat:=⟨1,λ_ _ L cs=>cs=[.az L 0 m 1 (A m)],by rintro _ _ _ _ rfl;exact⟨rfl,rfl⟩,λ_ h=>h⟩
def sN:fa 203 104 1:=⟨aF,aF,⟨24,aF,bZ⟩,⟨.ao,aF,rfl,rfl⟩,bZ⟩
theorem po:fa 204 203 1:=⟨aF,aF,⟨24,aF,bZ⟩,⟨.ao,aF,rfl,rfl⟩,bZ⟩
def ju(M:Nat)(ll:List Nat)(k:Nat):Prop:=k∉ll/\k≠M
structure e7(n m M:Nat)(ll:List Nat)(fls:List (List Nat))(nv fv:af)(B:Nat->List Bool)(t:Bool)(H:ae):Prop where
 bX:H.get M=some (.row false 3 [[nv,fv,.bool t]])
 aL:aH (jc m) H (ju M ll) (ll.take n) nv
 aC:aH (bu (jc m)) H (ju M ll) fls fv
 dD:fls.length=m
 o8:∀t fs,fls[t]? =some fs->fs.length=8/\∀f,f<8->fs[f]? =ll[n+t*8+f]?
 row:∀v L,ll[v]? =some L->H.get L=some (.row false 1 (c6 (B v)))
 cB:ll.Nodup
 k7:M∉ll
 len:ll.length=n+m*8
def iu(M:Nat)(ll:List Nat)(H H':ae):Prop:=H.next<=H'.next/\∀k,k<H.next->k∉ll->k≠M->H'.get k=H.get k
theorem iu.refl(M:Nat)(ll:List Nat)(H:ae):iu M ll H H:=⟨Nat.le.refl,λ_ _ _ _=>rfl⟩
theorem iu.trans{M:Nat}{ll:List Nat}{H1 a b:ae}(h:iu M ll H1 a)(k:iu M ll a b):iu M ll H1 b:=
 ⟨Nat.le_trans h.1 k.1,λq aJ ah ai=>(k.2 q (Nat.lt_of_lt_of_le aJ h.1) ah ai).trans (h.2 q aJ ah ai)⟩
def Yw{M:Nat}{ll:List Nat}{H H':ae}(p:au H H'):iu M ll H H':=⟨p.1,λk a _ _=>p.2 k a⟩
def iu.keep{M:Nat}{ll:List Nat}{H H':ae}(h:iu M ll H H'):dm H (ju M ll) H' (ju M ll):=λk b a g=>⟨a,by rw[h.2 k (ae.bq g) a.1 a.2];exact g⟩
def ih{H:ae}{M:Nat}{nv fv:af}{t:Bool}(g:H.get M=A (.row I 3 [[nv,fv,C t]])):aI P H 203 (.ptr M 0 0)=A nv/\aI P H 204 (.ptr M 0 1)=A fv/\aI P H 4 (.ptr M 0 2)=A (C t):=by
 refine⟨?_,?_,?_⟩<;>(rw[e0 aF g rfl];rfl)
def Iv{H:ae}{M:Nat}{nv fv:af}{t a:Bool}(g:H.get M=A (.row I 3 [[nv,fv,C t]])):cr P H 4 (.ptr M 0 2) (C a)=A (H.set M (.row I 3 [[nv,fv,C a]])):=by
 rw[e4 (n:=1) aF g rfl rfl rfl bZ];rfl
section
variable {n m M:Nat}{ll:List Nat}{fls:List (List Nat)}{nv fv:af}{B:Nat->List Bool}{t:Bool}{H:ae}{l:List bp}
theorem e7.aB{H':ae}(s:e7 n m M ll fls nv fv B t H)(p:au H H'):e7 n m M ll fls nv fv B t H':=
 ⟨p.get s.bX,s.aL.aB p,s.aC.aB p,s.dD,s.o8,λv L h=>p.get (s.row v L h),s.cB,s.k7,s.len⟩
def e7.lt(s:e7 n m M ll fls nv fv B t H):M<H.next:=ae.bq s.bX
def e7.h7(s:e7 n m M ll fls nv fv B t H){v:Nat}(a:v<n+m*8):∃L,ll[v]? =A L:=⟨_,List.getElem?_eq_getElem (by rw[s.len];omega)⟩
def e7.inj(s:e7 n m M ll fls nv fv B t H){u v L:Nat}(ah:ll[u]? =A L)(ai:ll[v]? =A L):u=v:=by
 obtain⟨a,rfl⟩:=List.getElem?_eq_some_iff.1 ah;obtain⟨b,h⟩:=List.getElem?_eq_some_iff.1 ai;exact((List.getElem_inj s.cB).1 h.symm)
theorem e7.tT(s:e7 n m M ll fls nv fv B t H)(a:Bool):e7 n m M ll fls nv fv B a (H.set M (.row I 3 [[nv,fv,C a]]))/\iu M ll H (H.set M (.row I 3 [[nv,fv,C a]])):=by
 have o:∀q,q≠M->(H.set M (.row I 3 [[nv,fv,C a]])).get q=H.get q:=(by grind[ae.b8]);have fy:iu M ll H (H.set M (.row I 3 [[nv,fv,C a]])):=⟨aX,λk _ _ h=>o k h⟩;exact⟨⟨ae.cH s.lt,s.aL.keep fy.keep,s.aC.keep fy.keep,s.dD,s.o8,λv L h=>by rw[o L (by rintro rfl;exact s.k7 (List.mem_of_getElem? h))];exact s.row v L h,s.cB,s.k7,s.len⟩,fy⟩
theorem e7.set(s:e7 n m M ll fls nv fv B t H){v i L:Nat}(h:ll[v]? =A L):e7 n m M ll fls nv fv (mY B v i) t (H.set L (.row I 1 (c6 ((B v).set i J))))/\iu M ll H (H.set L (.row I 1 (c6 ((B v).set i J)))):=by
 have o:∀q,q≠L->(H.set L (.row I 1 (c6 ((B v).set i J)))).get q=H.get q:=(by grind[ae.b8]);have hm:=List.mem_of_getElem? h;have fy:iu M ll H (H.set L (.row I 1 (c6 ((B v).set i J)))):=⟨aX,al⟩;refine⟨⟨?_,s.aL.keep fy.keep,s.aC.keep fy.keep,s.dD,s.o8,λu L' cu=> ?_,s.cB,s.k7,s.len⟩,fy⟩
 ·rw[o M (by rintro rfl;exact s.k7 hm)];exact s.bX
 ·by_cases e:u=v
  ·subst e;obtain rfl:L=L':=al;rw[ae.cH (ae.bq (s.row _ _ h))];simp[mY]
  ·rw[o L' (by rintro rfl;exact e (s.inj cu h))];rw[s.row u L' cu];simp[mY,e]
theorem e7.node(s:e7 n m M ll fls nv fv B t H){v:Nat}(c:v<n):∃q L,ct P 203 nv (D F (v:Nat))=A q/\aI P H 104 q=A (.az L 0 m 1 (A m))/\ll[v]? =A L:=by
 obtain⟨L,b⟩:=s.h7 (v:=v) ad;obtain⟨p,cs,ah,ai,ax⟩:=aH.val (K:=jc m) sN IG s.aL (j:=(v:Int)) (a:=L) ad al;exact⟨p,L,ah,by rw[ai,show cs=[_]from ax];rfl,b⟩
theorem e7.ee(s:e7 n m M ll fls nv fv B t H){k f:Nat}(r:k<m)(aC:f<8):∃q w b L,ct P 204 fv (D F (k:Nat))=A q/\aI P H 203 q=A w/\ct P 203 w (D F (f:Nat))=A b/\aI P H 104 b=A (.az L 0 m 1 (A m))/\ll[n+k*8+f]? =A L/\∀H0,bE P H0 .len [203] [w]=A (D F 8):=by
 have i:k<fls.length:=by rw[s.dD];omega
 obtain⟨d,o⟩:=s.o8 k fls[k] (List.getElem?_eq_getElem i);obtain⟨L,h⟩:=s.h7 (v:=n+k*8+f) ad;obtain⟨p,cs,ah,ai,w,rfl,ax⟩:=aH.val (K:=bu (jc m)) po Si s.aC (j:=(k:Int)) (a:=fls[k]) ad al;obtain⟨l,c,aM,e,g⟩:=aH.val (K:=jc m) sN IG ax (j:=(f:Int)) (a:=L) ad al;exact⟨p,w,l,L,ah,ai,aM,by rw[e,show c=[_]from g];rfl,h,λH0=>by rw[ax.len sN,d];rfl⟩
theorem e7.bit(s:e7 n m M ll fls nv fv B t H)(a:∀v,(B v).length=m){v L i:Nat}(h:ll[v]? =A L)(aP:i<m):ct P 104 (.az L 0 m 1 (A m)) (D F (i:Nat))=A (.ptr L i 0)/\aI P H 4 (.ptr L i 0)=A (C (di (B v) i)):=by
 refine⟨?_,?_⟩
 ·grind[pc,pn]
 ·rw[e0 Dh (s.row v L h) (ur (qq al))];rfl
theorem e7.R5(s:e7 n m M ll fls nv fv B t H)(a:∀v,(B v).length=m){v L i:Nat}(h:ll[v]? =A L)(aP:i<m):cr P H 4 (.ptr L i 0) (C J)=A (H.set L (.row I 1 (c6 ((B v).set i J)))):=
 yf (s.row v L h) (qq al)
def l3(n m M:Nat)(l:List bp)(ll:List Nat)(fls:List (List Nat))(nv fv:af)(B:Nat->List Bool)(t:Bool)(H:ae)(zF:(Nat->List Bool)->Prop)(H':ae):Prop:=∃a b,e7 n m M ll fls nv fv a b H'/\h0 n m l a/\kS (n+m*8) t B b a/\(b=I->zF B)/\iu M ll H H'
theorem PU{u v x y:Nat}(hm:m<=1000000)(hu:ll[u]? =A x)(K:ll[v]? =A y)(G:∀s,dH n l v s->dH n l u s){N:Nat}:∀(j k q:Nat) (H:ae) (B:Nat->List Bool) (t:Bool),k+j=m->j<q->e7 n m M ll fls nv fv B t H->h0 n m l B->(t=I->∀s,s<k->di (B v) s=J->di (B u) s=J)->
  W (re (aK P aG) N q (.ptr M 0 0) (.az x 0 m 1 (A m)) (.az y 0 m 1 (A m)) (.int .i64 (k:Nat)) H) λr H'=>r= .tuple []/\l3 n m M l ll fls nv fv B t H (λB=>∀s,di (B v) s=J->di (B u) s=J) H'
 |_,_,0,_,_,_,_,hm,_,_,_=>ad
 |0,k,q+1,H,B,t,R,_,s,a,aA=>by
  have o:¬(k:Int)<(m:Int):=ad;simp-implicitDefEqProofs(disch:=try exact aW)only[re,tp,reduceAdd,reduceLeDiff,reduceIte,bB,iF (by kernel_rfl:P.underlying 104=A (.slice 4)),o,decide_false];exact aD.2 ⟨rfl,B,t,s,a,.refl _ _ _,λe z L=>aA e z (by have:=D8 L;rw[a.len]at this;omega) L,.refl _ _ _⟩
 |j+1,k,q+1,H,B,t,R,aJ,s,a,aA=>by
  have o:(k:Int)<(m:Int):=ad;have d:k<m:=ad;obtain⟨f,b⟩:=s.bit a.len K d;obtain⟨E,c⟩:=s.bit a.len hu d;have on:=PU hm hu K G (N:=N) j (k+1) q;have w:=fB (show k<=1000000000 by omega);have T:=iF (H:=H) (by kernel_rfl:P.underlying 104=A (.slice 4));have p:=iF (H:= .empty) (by kernel_rfl:P.underlying 104=A (.slice 4));cases g:di (B v) k with
  |false=>
   rw[g]at b;refine bh @re.eq_2 @tp.eq_1 @Bt.eq_1 p f (ag b w) ?_;grind
  |true=>
   rw[g]at b;cases h:di (B u) k with
   |true=>
    rw[h]at c;refine bh @re.eq_2 @tp.eq_1 @Bt.eq_1 p f (ag b (ag E (ag c w))) ?_;grind
   |false=>
    rw[h]at c;obtain⟨s1,f1⟩:=s.set (i:=k) hu;obtain⟨s2,f2⟩:=s1.tT J;have S:u<n+m*8:=by have:=(List.getElem?_eq_some_iff.1 hu).1;rw[s.len]at this;omega
    have Q:(B u)[k]? =A false:=by rw[qq (by rw[a.len];omega),h]
    have U:eB (.ptr M 0 0)=A (.ptr M 0 0):=rfl;simp-implicitDefEqProofs(disch:=try exact aW)only[re,tp,Bt,reduceAdd,reduceLeDiff,reduceIte,bB,T,p,o,decide_true,f,b,E,c,w,Bool.not_false,s.R5 a.len hu d,U,Iv s1.bX];refine(on _ _ J ad ad s2 (a.set d (G k (a.snd v k g))) (λe=>by cases e)).mono ?_;rintro r H' ⟨rfl,O,V,Y,aa,z3,z4,z5⟩;refine⟨rfl,O,V,Y,aa,(kS.set S Q).trans z3,λe=> ?_,(f1.trans f2).trans z5⟩;have:=(z3.off e).1;grind
def vm{u v a b:Nat}(hm:m<=1000000)(hu:ll[u]? =A a)(d:ll[v]? =A b)(c:∀s,dH n l v s->dH n l u s)(s:e7 n m M ll fls nv fv B t H)(e:h0 n m l B):
  W (aK P aG 192 [.ptr M 0 0,.az a 0 m 1 (A m),.az b 0 m 1 (A m)] H) λr H'=>r= .tuple []/\l3 n m M l ll fls nv fv B t H (λB=>∀s,di (B v) s=J->di (B u) s=J) H':=by
 refine aex (m+1) ?_;rw[QY];exact PU hm hu d c m 0 (m+1) H B t ad ad s e ad
