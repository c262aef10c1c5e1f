/-
  Texts of one proof, laid together: Sb Sc ShI Ta Tb Tc SgM Td.
-/
import Derived.Test.YtmhhnnklfcbgfaaGreatMN
set_option linter.unusedVariables false
set_option linter.unusedSimpArgs false
set_option linter.defProp false
open Option renaming some→A,none→Z
open Bool renaming true→J,false→I
open Go.cv.af renaming int→D,bool→C
open Go.IntKind renaming i64→F
namespace Go.Proofs.YtmhhnnklfcbgfaaGreat
open Go.cv
open Nat (reduceAdd reduceLeDiff)
section
open Go.a2
set_option maxRecDepth 2000
structure fN(n m:Nat)(k:a2.cK):Prop where
 dz:k.fields.length=k.count
 f8:∀f∈k.fields,f.length=8
 kH:k.count<=m
 Gz:k.of.length=m
 nl:k.nodes.length=n
 lt:∀c∈k.of,c<k.count
def W5(n m:Nat)(l:List bt):fN n m (a2.merge (ho n m l) m):=by
 refine⟨by simp[a2.merge,ry],λf aB=> ?_,vT _ _,by simp[a2.merge,ry],by simp[a2.merge,ry,ho,iH],λc aA=> ?_⟩
 ·grind[a2.merge,ry]
 ·simp only[a2.merge,ry,List.mem_map,List.mem_range]at aA;obtain⟨s,a,rfl⟩:=aA;exact E_ (bW.cl _).eqv a
def u_(x:bq):fN (b7 x) x.sites.length (a2.fK x):=by
 obtain⟨k,_,_,_,h⟩:=Ju (b7 x) x.sites.length (cons x);unfold a2.fK;rw[h];exact W5 _ _ _
def TW{c:Nat}:∀{fs:List (List Int)} {bs:List Bool},(∀f∈fs,f.length<=c)->lK fs bs<=c*fs.length
 |[],bs,_=>by simp[lK]
 |f::fs,[],_=>by simp[lK]
 |f::fs,b::bs,h=>by
  have ah:=TW (c:=c) (fs:=fs) (bs:=bs) λg aR=>h g al
  grind[Nat.mul_succ,lK]
def gP(a b cc d:af)(hn:Int)(n:Nat)(ov nv fv gv uv:af):List af:=[a,b,cc,d,D F hn,D F (n:Nat),ov,nv,fv,gv,uv]
section
variable {H:ae}{W0:Nat}{a b cc d ov nv fv gv uv:af}{hn:Int}{n:Nat}
def iU(g:H.get W0=A (.row I 11 [gP a b cc d hn n ov nv fv gv uv])):aJ P H 24 (.ptr W0 0 2)=A cc/\aJ P H 30 (.ptr W0 0 6)=A ov/\aJ P H 30 (.ptr W0 0 7)=A nv/\aJ P H 31 (.ptr W0 0 8)=A fv/\aJ P H 30 (.ptr W0 0 9)=A gv/\aJ P H 31 (.ptr W0 0 10)=A uv:=by
 refine⟨?_,?_,?_,?_,?_,?_⟩<;>(rw[eW aG g rfl];rfl)
def abO(g:H.get W0=A (.row I 11 [gP a b cc d hn n ov nv fv gv uv])):aJ P H 27 (.ptr W0 0 0)=A (.agg [a,b,cc,d,D F hn]):=hA (n:=5) (i:=0) (c:=0) aG aG g rfl b0
theorem Ed{k:a2.cK}{nn m:Nat}{ok ok':Nat->Prop}(e:fN nn m k)(hm:m<=60)(g:H.get W0=A (.row I 11 [gP a b cc d hn n ov nv fv gv uv]))(aB:aI (bp aN) H ok k.fields fv){roots:List Int}{rv:af}(au:aI aN H ok' roots rv)(h:roots.length<=100000000):
  W (aK P aD 47 [.ptr W0 0 0,rv] H) λr H'=>aZ aN H.next ba H' (aO (fa k.fields roots)) r/\aw H H':=by
 refine agD 0 ?_;have ah:=e.dz;have ai:=e.kH;have ay:=TW (c:=8) (fs:=k.fields) (bs:=List.replicate k.fields.length I) λf aB=>Nat.le_of_eq (e.f8 f aB)
 refine bF @IS.eq_1 (iU g) ?_;refine e2 (ZP aB au aa aa) λr H1 i j=> ?_
 grind[aE]
end
end
section
open Go.a2
set_option maxRecDepth 2000
section
variable {H:ae}{ok:Nat->Prop}
def aI.oC{l:List bQ}{v:af}(h:aI fO H ok l v){j:Int}{g:bQ}(b:0<=j)(c:l[j.toNat]? =A g):∃L n gv gw,ct P 24 v (D F j)=A (.ptr L n 0)/\(∀H',aw H H'->aJ P H' 3 (.ptr L n 0)=A (D F g.params)/\aJ P H' 23 (.ptr L n 1)=A gv/\aJ P H' 47 (.ptr L n 6)=A gw)/\aI fc H ok g.vars gv/\aI fJ H ok g.ins gw:=by
 obtain⟨L,n,ro,els,cs,d,i,e,f,gv,gw,rfl,bS,b2⟩:=aI.at_ (K:=fO) cG h b c;refine⟨L,n,gv,gw,d,λH' p=> ?_,bS,b2⟩;have a:=p.get e;refine⟨?_,?_,?_⟩<;>(rw[eW aG a f];rfl)
theorem aI.sub{l:List Int}{v:af}(h:aI aN H ok l v)(aA:hF v){a n:Nat}(aL:0<n)(o:a+n<=l.length):∃L i cap,gI P 30 v (A (.int .i64 (a:Nat))) (A (.int .i64 ((a+n:Nat):Int))) Z=A (.az L i n 1 cap)/\aI aN H ok ((l.drop a).take n) (.az L i n 1 cap)/\∃ro els,H.get L=A (.row ro 1 els)/\i+n<=els.length/\∀q,cap=A q->n<=q:=by
 have u:P.underlying 30=A (.slice 3):=aG;have f:cM P 3=A 1:=aG;rcases h with⟨_,rfl⟩|⟨L,i,cap,ro,els,rfl,ai,ay,aM,m⟩|⟨_,_,_,_,rfl⟩
 ·grind
 ·have p:l.length<=cap.getD l.length:=by
   cases cap with
   |none=>grind
   |some c=>exact aA _ _ _ _ _ rfl
  have hlen:((l.drop a).take n).length=n:=al;refine⟨L,i+a,cap.map (· -a),?_,.inr (.inl ⟨L,i+a,cap.map (· -a),ro,els,by rw[hlen];rfl,ai,ay,aa,λj x r=> ?_⟩),ro,els,ay,aa,λq aH=>by
   cases cap with
   |none=>grind
   |some c=>grind⟩
  ·have g:(a:Int)+(n:Int)<=(cap.getD l.length:Nat):=aa;have k:((a+n:Nat):Int)<=((cap.getD l.length:Nat):Int):=aa;have b:dR (A (.int .i64 ((a+n:Nat):Int))) l.length (cap.getD l.length)=A (a+n):=by
    grind[dR]
   have d:dR (A (.int .i64 ((a:Nat):Int))) 0 (a+n)=A a:=by
    simp only[dR];grind
   have e:aN.esz=1:=rfl;simp only[gI,u,f,e,if_true,b,d];grind
  grind
 grind
variable {x:bq}
def k4(x:bq)(k:a2.cK)(f:Nat)(c:bQ):List Int:=(List.range c.vars.length).map λv=>k.node (bj x.ax f+v)
theorem akR{k:a2.cK}{f:Nat}{c:bQ}(au:ep x)(a:fN (b7 x) x.sites.length k)(aB:x.ax[f]? =A c):(k.nodes.drop (bj x.ax f)).take c.vars.length=k4 x k f c/\bj x.ax f+c.vars.length<=k.nodes.length:=by
 have ah:bj x.ax f+c.vars.length<=k.nodes.length:=by
  rw[a.nl];have:=Ec aB;have ai:bj x.ax (f+1)<=ga x.ax:=JH al;grind[b7]
 refine⟨?_,ah⟩;apply List.ext_getElem?;grind[k4,cK.node]
theorem T9(au:right x=J){k:a2.cK}(u:fN (b7 x) x.sites.length k){W0:Nat}{a b cc d ov nv fv gv uv:af}{n:Nat}(g:H.get W0=A (.row I 11 [gP a b cc d x.main n ov nv fv gv uv]))(aF:cE H ok x (.agg [a,b,cc,d,D F x.main])){ok':Nat->Prop}(aL:aI aN H ok' k.nodes nv)(aA:hF nv){f:Nat}{c:bQ}(aB:x.ax[f]? =A c):
  W (aK P aD 44 [.ptr W0 0 0,D F (f:Nat)] H) λr H'=>aI aN H' ok' (k4 x k f c) r/\aw H H'/\((r= .aq/\c.vars.length=0)\/∃L i cap ro els,r= .az L i c.vars.length 1 cap/\H'.get L=A (.row ro 1 els)/\i+c.vars.length<=els.length/\∀q,cap=A q->c.vars.length<=q):=by
 have w:=aF;have h:=fG au;obtain⟨o,p⟩:=akR h u aB;obtain⟨_,aH,M,N,a6,d1,e,ah,ai,ay,aM⟩:=aF;cases aH;simp only[List.cons.injEq,and_true]at e;obtain⟨rfl,rfl,rfl,rfl⟩:=e;refine agA 0 ?_;obtain⟨L,i,O,Q,z,B,bS,b2⟩:=ay.oC (j:=(f:Int)) aa (fH aB);obtain⟨V,E,Y⟩:=B H (.refl _);have U:=(hI (h.code aB)).vars;refine dd @IM.eq_1 (iU g) z E (bS.bf cW) ?_;by_cases t:c.vars.length=0
 ·have m:(((c.vars.length:Nat):Int)==0)=true:=al;refine bK m ?_;have s:k4 x k f c=[]:=al;exact aE.2 ⟨by rw[s];exact .nil,.refl _,.inl ⟨rfl,t⟩⟩
 ·have m:(((c.vars.length:Nat):Int)==0)=false:=al;refine bF m (abO g) ?_;refine bz (akQ au w aB (v:=0) aa) λH1 l=> ?_
  have T:=qJ h f;have S:=(List.getElem?_eq_some_iff.1 aB).1;have R:=h.ax;have hw:IntKind.i64.wrap (((bj x.ax f:Nat):Int)+((c.vars.length:Nat):Int))=((bj x.ax f+c.vars.length:Nat):Int):=by grind[wrap_i64]
  obtain⟨L',y,cap,s1,s2,ro,els,G,hq,K⟩:=aL.sub aA aa p;rw[o]at s2;refine bT (iU (l.get g)) hw s1 ?_;exact aE.2 ⟨s2.aC l,l,.inr ⟨L',y,cap,ro,els,rfl,l.get G,hq,K⟩⟩
theorem Vp{l m:List Int}{L i:Nat}{w:af}{ro:Bool}{els:List (List af)}(h:aI aN H ok l (.az L i l.length 1 (A l.length)))(aR:H.get L=A (.row ro 1 els))(aP:i+l.length<=els.length){okE:Nat->Prop}(hm:aI aN H okE m w)(x:0<m.length)(v:l.length+m.length<=1000000000):
  ∃g,ej P H [30,30] (.az L i l.length 1 (A l.length)) w=A (g,H.push (.row I 1 ((l++m).map λn=>[.int .i64 n])))/\g= .az H.next 0 (l++m).length 1 none:=by
 have u:P.underlying 30=A (.slice 3):=aG;have i64:oJ P 30=false:=aG;have B:cM P 3=A 1:=aG;have E:ml P 3=A 8:=aG;have z3:gb P 3=A (.int .i64 0):=aG;obtain⟨⟨b,d1,d2,d3⟩,_⟩:=hm.zS bV;have r:b=m.map λn=>[.int .i64 n]:=by
  apply List.ext_getElem?;intro j;by_cases d:j<m.length
  ·obtain⟨cs,f,a⟩:=d3 j m[j] al;rw[f];have:cs=[.int .i64 m[j]]:=a;grind
  grind
 have t:(els.drop i).take l.length=l.map λn=>[.int .i64 n]:=by
  apply List.ext_getElem?;intro j;by_cases d:j<l.length
  ·rw[List.getElem?_take,if_pos d,List.getElem?_drop];rcases h with⟨e,_⟩|⟨L',y,o,z,s,e,_,c,_,k⟩|⟨_,_,_,e,ar⟩
   ·cases e
   ·cases e;rw[aR]at c;cases c;obtain⟨cs,f,a⟩:=k j l[j] al;have:cs=[.int .i64 l[j]]:=a;grind
   grind
  grind
 have q:hH H L i l.length 1=A (l.map λn=>[.int .i64 n]):=by
  grind[hH]
 refine⟨_,?_,rfl⟩;have a6:(af.int .i64 0).cells.length=1/\0<1:=⟨rfl,b0⟩;have p:ld P H 30 1 w=A b:=d1;grind[ej]
end
end
section
set_option maxRecDepth 100000
set_option maxHeartbeats 4000000
noncomputable section
def Se(G:ao):hr Tryz.f25 G:=⟨_,λN=>q3 an (x:=trivial)⟩
def agb(N:Nat):=eo Tryz.func25 λG=>(Se G).2 N
def Cs(G:ao)(N:Nat):eP 5 Tryz.f28 G N (·.ad.ad.ad) (a8 Tryz.f28) []:=⟨_,v1 an⟩
def IB(G:ao)(N:Nat)(L1:ck):dO 0 1 5 6 Tryz.f28 G N (·.ad.ad.aj.ad.aj.aj.ad.ad) (bO L1 0 1 5 6) [(0,(a6 (Cs G N) 5))]:=⟨_,v4 an⟩
def Cr(G:ao)(N:Nat)(L1:ck):dO 0 1 5 6 Tryz.f28 G N (·.ad.ad.aj.ad.aj.aj) (bO L1 0 1 5 6) [(0,(a6 (Cs G N) 5))]:=⟨_,v4 (ak (ak ((IB G N L1).2) an) an)⟩
def xw(G:ao)(N:Nat):Nat->ck
 |0=>fB
 |n+1=>Cr G N (xw G N n)
def Sf(G:ao)(N:Nat):gn Tryz.f28 G N:=⟨_,t2 (ak (ak (ak ((Cs G N).2) (ak (bh (bH (λm=>(Cr G N (xw G N m)).2))) an)) an) an)⟩
def agl(N:Nat):=c6 Tryz.func28 λG=>(Sf G N).2
def qp(G:ao)(N:Nat):eP 5 Tryz.f29 G N (·.ad.ad.ad.ad) (a8 Tryz.f29) []:=⟨_,v1 an⟩
def rZ(G:ao)(N:Nat)(L2:b8)(L3:ck):dO 0 5 7 8 Tryz.f29 G N (·.ad.ad.ad.aj.ad.aj.aj.ad.aj.ad.ad.aj.aj.ad.ad) (bO L3 0 5 7 8) [(4,(bo L2 0 5 7)),(3,(bo L2 0 5 7)),(2,(a6 (qp G N) 5))]:=⟨_,v4 an⟩
def Cw(G:ao)(N:Nat)(L2:b8)(L3:ck)(L5:cF):e6 0 5 7 8 9 Tryz.f29 G N (·.ad.ad.ad.aj.ad.aj.aj.ad.aj.ad.ad.aj.aj.ad.aj.aj.ad.aj.aj.ad.ad) (b3 L5 0 5 7 8 9) [(6,(bO (rZ G N L2 L3) 0 5 7 8)),(5,(bO (rZ G N L2 L3) 0 5 7 8)),(4,(bo L2 0 5 7)),(3,(bo L2 0 5 7)),(2,(a6 (qp G N) 5))]:=⟨_,v5 an⟩
def xx(G:ao)(N:Nat)(L2:b8)(L3:ck)(L5:cF):e6 0 5 7 8 9 Tryz.f29 G N (·.ad.ad.ad.aj.ad.aj.aj.ad.aj.ad.ad.aj.aj.ad.aj.aj.ad.aj.aj) (b3 L5 0 5 7 8 9) [(6,(bO (rZ G N L2 L3) 0 5 7 8)),(5,(bO (rZ G N L2 L3) 0 5 7 8)),(4,(bo L2 0 5 7)),(3,(bo L2 0 5 7)),(2,(a6 (qp G N) 5))]:=⟨_,v5 (ak (ak ((Cw G N L2 L3 L5).2) an) an)⟩
def ui(G:ao)(N:Nat)(L2:b8)(L3:ck):Nat->cF
 |0=>hW
 |n+1=>xx G N L2 L3 (ui G N L2 L3 n)
def Cu(G:ao)(N:Nat)(L2:b8)(L3:ck):dO 0 5 7 8 Tryz.f29 G N (·.ad.ad.ad.aj.ad.aj.aj.ad.aj.ad.ad.aj.aj) (bO L3 0 5 7 8) [(4,(bo L2 0 5 7)),(3,(bo L2 0 5 7)),(2,(a6 (qp G N) 5))]:=⟨_,v4 (ak (ak ((rZ G N L2 L3).2) (bh (ak (bh (bH (λm=>(xx G N L2 L3 (ui G N L2 L3 m)).2))) an))) an)⟩
def xB(G:ao)(N:Nat)(L2:b8):Nat->ck
 |0=>fB
 |n+1=>Cu G N L2 (xB G N L2 n)
def Ct(G:ao)(N:Nat)(L2:b8):ew 0 5 7 Tryz.f29 G N (·.ad.ad.ad.aj.ad.aj.aj) (bo L2 0 5 7) [(2,(a6 (qp G N) 5))]:=⟨_,v3 (ak (bh (ak (ak (bh (bH (λm=>(Cu G N L2 (xB G N L2 m)).2))) an) an)) an)⟩
def xA(G:ao)(N:Nat):Nat->b8
 |0=>gQ
 |n+1=>Ct G N (xA G N n)
def xz(G:ao)(N:Nat):gT 0 5 Tryz.f29 G N (·.ad.ad.ad) (a8 Tryz.f29) []:=⟨_,v2 (ak ((qp G N).2) (ak (bh (bH (λm=>(Ct G N (xA G N m)).2))) an))⟩
def IC(G:ao)(N:Nat)(a:ck):dO 0 1 5 6 Tryz.f29 G N (·.ad.ad.aj.ad.aj.aj.ad.ad) (bO a 0 1 5 6) [(0,(bd (xz G N) 0 5))]:=⟨_,v4 an⟩
def Cv(G:ao)(N:Nat)(a:ck):dO 0 1 5 6 Tryz.f29 G N (·.ad.ad.aj.ad.aj.aj) (bO a 0 1 5 6) [(0,(bd (xz G N) 0 5))]:=⟨_,v4 (ak (ak ((IC G N a).2) an) an)⟩
def xC(G:ao)(N:Nat):Nat->ck
 |0=>fB
 |n+1=>Cv G N (xC G N n)
def Sg(G:ao)(N:Nat):gn Tryz.f29 G N:=⟨_,t2 (ak (ak (ak ((xz G N).2) (ak (bh (bH (λm=>(Cv G N (xC G N m)).2))) an)) an) an)⟩
def agq(N:Nat):=c6 Tryz.func29 λG=>(Sg G N).2
def C5(G:ao)(N:Nat):eP 5 Tryz.f52 G N (·.ad.ad.ad) (a8 Tryz.f52) []:=⟨_,v1 an⟩
def C4(G:ao)(N:Nat)(L1:ck):dO 1 2 5 6 Tryz.f52 G N (·.ad.ad.aj.ad.aj.aj) (bO L1 1 2 5 6) [(0,(a6 (C5 G N) 5))]:=⟨_,v4 an⟩
def xU(G:ao)(N:Nat):Nat->ck
 |0=>fB
 |n+1=>C4 G N (xU G N n)
def C3(G:ao)(N:Nat):gn Tryz.f52 G N:=⟨_,t2 (ak (ak (ak ((C5 G N).2) (ak (bh (bH (λm=>(C4 G N (xU G N m)).2))) an)) an) an)⟩
def agI(N:Nat):=c6 Tryz.func52 λG=>(C3 G N).2
def IT(G:ao):eQ Tryz.f54 G:=⟨_,λN=>t2 an⟩
def agJ(N:Nat):=c6 Tryz.func54 λG=>(IT G).2 N
def C6(G:ao)(N:Nat):eP 3 Tryz.f55 G N (·.ad.ad.ad) (a8 Tryz.f55) []:=⟨_,v1 an⟩
def IU(G:ao)(N:Nat)(L1:b8):ew 0 3 4 Tryz.f55 G N (·.ad.ad.aj.ad.aj.aj.ad.ad) (bo L1 0 3 4) [(0,(a6 (C6 G N) 3))]:=⟨_,v3 an⟩
def xV(G:ao)(N:Nat)(L1:b8):ew 0 3 4 Tryz.f55 G N (·.ad.ad.aj.ad.aj.aj) (bo L1 0 3 4) [(0,(a6 (C6 G N) 3))]:=⟨_,v3 (ak (ak ((IU G N L1).2) an) an)⟩
def uo(G:ao)(N:Nat):Nat->b8
 |0=>gQ
 |n+1=>xV G N (uo G N n)
def Sm(G:ao)(N:Nat):f_ Tryz.f55 G N:=⟨_,t1 (ak (ak (ak ((C6 G N).2) (ak (bh (bH (λm=>(xV G N (uo G N m)).2))) an)) an) an)⟩
def agK(N:Nat):=eo Tryz.func55 λG=>(Sm G N).2
def Sn(G:ao):jS Tryz.f56 G:=⟨_,λN=>t3 an⟩
def agL(N:Nat):=hp Tryz.func56 λG=>(Sn G).2 N
def xW(G:ao)(N:Nat):eP 3 Tryz.f57 G N (·.ad.ad.ad) (a8 Tryz.f57) []:=⟨_,v1 an⟩
def xX(G:ao)(N:Nat)(L1:b8):ew 1 3 4 Tryz.f57 G N (·.ad.ad.aj.ad.aj.aj.ad.ad) (bo L1 1 3 4) [(0,(a6 (xW G N) 3))]:=⟨_,v3 an⟩
def C8(G:ao)(N:Nat)(L1:b8)(L3:cH):fQ 1 3 4 5 6 7 Tryz.f57 G N (·.ad.ad.aj.ad.aj.aj.ad.aj.aj.ad.ad.ad.aj.aj) (cm L3 1 3 4 5 6 7) [(2,(bo (xX G N L1) 1 3 4)),(1,(bo (xX G N L1) 1 3 4)),(0,(a6 (xW G N) 3))]:=⟨_,pE an⟩
def xZ(G:ao)(N:Nat)(L1:b8):Nat->cH
 |0=>iK
 |n+1=>C8 G N L1 (xZ G N L1 n)
def C7(G:ao)(N:Nat)(L1:b8):ew 1 3 4 Tryz.f57 G N (·.ad.ad.aj.ad.aj.aj) (bo L1 1 3 4) [(0,(a6 (xW G N) 3))]:=⟨_,v3 (ak (ak ((xX G N L1).2) (bh (ak (ak (ak (bh (bH (λm=>(C8 G N L1 (xZ G N L1 m)).2))) an) an) an))) an)⟩
def xY(G:ao)(N:Nat):Nat->b8
 |0=>gQ
 |n+1=>C7 G N (xY G N n)
def Sp(G:ao)(N:Nat):f_ Tryz.f57 G N:=⟨_,t1 (ak (ak (ak ((xW G N).2) (ak (bh (bH (λm=>(C7 G N (xY G N m)).2))) an)) an) an)⟩
def agM(N:Nat):=eo Tryz.func57 λG=>(Sp G N).2
def r3(G:ao)(N:Nat):gT 8 17 Tryz.f82 G N (·.ad.ad.ad.ad.ad.ad.ad.ad.ad.ad) (a8 Tryz.f82) []:=⟨_,v2 an⟩
def yn(G:ao)(N:Nat)(L6:cH):fQ 1 2 8 11 17 19 Tryz.f82 G N (·.ad.ad.ad.ad.ad.ad.ad.ad.ad.aj.ad.aj.aj.ad.ad) (cm L6 1 2 8 11 17 19) [(14,(bd (r3 G N) 8 17))]:=⟨_,v6 an⟩
def Dy(G:ao)(N:Nat)(L6:cH):gZ 1 2 8 11 17 19 20 Tryz.f82 G N (·.ad.ad.ad.ad.ad.ad.ad.ad.ad.aj.ad.aj.aj.ad.aj.aj.ad.ad) (cm (yn G N L6) 1 2 8 11 17 19) [(15,(cm (yn G N L6) 1 2 8 11 17 19)),(14,(bd (r3 G N) 8 17))]:=⟨_,hf an⟩
def Dt(G:ao)(N:Nat)(L6:cH)(L9:hG):oo 1 2 8 11 17 19 20 21 Tryz.f82 G N (·.ad.ad.ad.ad.ad.ad.ad.ad.ad.aj.ad.aj.aj.ad.aj.aj.ad.aj.ad.aj.aj) (gp L9 1 2 8 11 17 19 20 21) [(16,(dw (Dy G N L6) 1 2 8 11 17 19 20)),(15,(cm (yn G N L6) 1 2 8 11 17 19)),(14,(bd (r3 G N) 8 17))]:=⟨_,nm an⟩
def yw(G:ao)(N:Nat)(L6:cH):Nat->hG
 |0=>uL
 |n+1=>Dt G N L6 (yw G N L6 n)
def Ds(G:ao)(N:Nat)(L6:cH):fQ 1 2 8 11 17 19 Tryz.f82 G N (·.ad.ad.ad.ad.ad.ad.ad.ad.ad.aj.ad.aj.aj) (cm L6 1 2 8 11 17 19) [(14,(bd (r3 G N) 8 17))]:=⟨_,v6 (ak (ak ((yn G N L6).2) (bh (ak (ak ((Dy G N L6).2) (ak (bh (bH (λm=>(Dt G N L6 (yw G N L6 m)).2))) an)) an))) an)⟩
def yv(G:ao)(N:Nat):Nat->cH
 |0=>iK
 |n+1=>Ds G N (yv G N n)
def Dx(G:ao)(N:Nat):e6 1 2 8 11 17 Tryz.f82 G N (·.ad.ad.ad.ad.ad.ad.ad.ad.ad) (a8 Tryz.f82) []:=⟨_,v5 (ak ((r3 G N).2) (ak (bh (bH (λm=>(Ds G N (yv G N m)).2))) an))⟩
def Dk(G:ao)(N:Nat)(L10:ei):gZ 0 1 2 8 11 17 18 Tryz.f82 G N (·.ad.ad.ad.ad.ad.ad.ad.ad.aj.ad.aj.aj) (dw L10 0 1 2 8 11 17 18) [(12,(b3 (Dx G N) 1 2 8 11 17))]:=⟨_,pF an⟩
def yo(G:ao)(N:Nat):Nat->ei
 |0=>k5
 |n+1=>Dk G N (yo G N n)
def ym(G:ao)(N:Nat):e6 0 1 2 8 11 Tryz.f82 G N (·.ad.ad.ad.ad.ad.ad.ad) (a8 Tryz.f82) []:=⟨_,v5 (ak (ak ((Dx G N).2) (ak (bh (bH (λm=>(Dk G N (yo G N m)).2))) an)) an)⟩
def Dm(G:ao)(N:Nat)(L11:cH)(a:ei):gZ 0 1 2 3 8 11 16 Tryz.f82 G N (·.ad.ad.ad.ad.ad.ad.aj.aj.aj.ad.aj.ad.ad.aj.aj) (dw a 0 1 2 3 8 11 16) [(10,(cm L11 0 1 2 3 8 11)),(9,(cm L11 0 1 2 3 8 11)),(8,(b3 (ym G N) 0 1 2 8 11))]:=⟨_,hf an⟩
def yq(G:ao)(N:Nat)(L11:cH):Nat->ei
 |0=>k5
 |n+1=>Dm G N L11 (yq G N L11 n)
def Dl(G:ao)(N:Nat)(L11:cH):fQ 0 1 2 3 8 11 Tryz.f82 G N (·.ad.ad.ad.ad.ad.ad.aj.aj.aj) (cm L11 0 1 2 3 8 11) [(8,(b3 (ym G N) 0 1 2 8 11))]:=⟨_,v6 (ak (bh (ak (ak (bh (bH (λm=>(Dm G N L11 (yq G N L11 m)).2))) an) an)) an)⟩
def yp(G:ao)(N:Nat):Nat->cH
 |0=>iK
 |n+1=>Dl G N (yp G N n)
def r2(G:ao)(N:Nat):fQ 0 1 2 3 8 11 Tryz.f82 G N (·.ad.ad.ad.ad.ad.ad) (a8 Tryz.f82) []:=⟨_,v6 (ak ((ym G N).2) (bh (bH (λm=>(Dl G N (yp G N m)).2))))⟩
def yl(G:ao)(N:Nat)(L13:ei):gZ 0 1 2 3 8 11 13 Tryz.f82 G N (·.ad.ad.ad.ad.ad.aj.ad.aj.aj.ad.ad) (dw L13 0 1 2 3 8 11 13) [(4,(cm (r2 G N) 0 1 2 3 8 11))]:=⟨_,hf an⟩
def Dw(G:ao)(N:Nat)(L13:ei):oo 0 1 2 3 8 11 13 14 Tryz.f82 G N (·.ad.ad.ad.ad.ad.aj.ad.aj.aj.ad.aj.aj.ad.ad) (dw (yl G N L13) 0 1 2 3 8 11 13) [(5,(dw (yl G N L13) 0 1 2 3 8 11 13)),(4,(cm (r2 G N) 0 1 2 3 8 11))]:=⟨_,nm an⟩
def Dp(G:ao)(N:Nat)(L13:ei)(a:jO):qR 0 1 2 3 8 11 13 14 15 Tryz.f82 G N (·.ad.ad.ad.ad.ad.aj.ad.aj.aj.ad.aj.aj.ad.aj.ad.aj.aj) (pA a 0 1 2 3 8 11 13 14 15) [(6,(gp (Dw G N L13) 0 1 2 3 8 11 13 14)),(5,(dw (yl G N L13) 0 1 2 3 8 11 13)),(4,(cm (r2 G N) 0 1 2 3 8 11))]:=⟨_,v9 an⟩
def ys(G:ao)(N:Nat)(L13:ei):Nat->jO
 |0=>y_
 |n+1=>Dp G N L13 (ys G N L13 n)
def Dn(G:ao)(N:Nat)(L13:ei):gZ 0 1 2 3 8 11 13 Tryz.f82 G N (·.ad.ad.ad.ad.ad.aj.ad.aj.aj) (dw L13 0 1 2 3 8 11 13) [(4,(cm (r2 G N) 0 1 2 3 8 11))]:=⟨_,hf (ak (ak ((yl G N L13).2) (bh (ak (ak ((Dw G N L13).2) (ak (bh (bH (λm=>(Dp G N L13 (ys G N L13 m)).2))) an)) an))) an)⟩
def yr(G:ao)(N:Nat):Nat->ei
 |0=>k5
 |n+1=>Dn G N (yr G N n)
def Dv(G:ao)(N:Nat):fQ 0 1 2 3 8 11 Tryz.f82 G N (·.ad.ad.ad.ad.ad) (a8 Tryz.f82) []:=⟨_,v6 (ak ((r2 G N).2) (ak (bh (bH (λm=>(Dn G N (yr G N m)).2))) an))⟩
def Dq(G:ao)(N:Nat)(a:ei):gZ 0 1 2 3 8 11 12 Tryz.f82 G N (·.ad.ad.ad.ad.aj.ad.aj.aj) (dw a 0 1 2 3 8 11 12) [(2,(cm (Dv G N) 0 1 2 3 8 11))]:=⟨_,pF an⟩
def yt(G:ao)(N:Nat):Nat->ei
 |0=>k5
 |n+1=>Dq G N (yt G N n)
def Du(G:ao)(N:Nat):e6 0 1 2 3 8 Tryz.f82 G N (·.ad.ad.ad) (a8 Tryz.f82) []:=⟨_,v5 (ak (ak ((Dv G N).2) (ak (bh (bH (λm=>(Dq G N (yt G N m)).2))) an)) an)⟩
def Dr(G:ao)(N:Nat)(L18:cH):fQ 0 1 2 3 8 10 Tryz.f82 G N (·.ad.ad.aj.ad.aj.aj) (cm L18 0 1 2 3 8 10) [(0,(b3 (Du G N) 0 1 2 3 8))]:=⟨_,v6 an⟩
def yu(G:ao)(N:Nat):Nat->cH
 |0=>iK
 |n+1=>Dr G N (yu G N n)
def St(G:ao)(N:Nat):Eu Tryz.f82 G N:=⟨_,t4 (ak (ak (ak ((Du G N).2) (ak (bh (bH (λm=>(Dr G N (yu G N m)).2))) an)) an) an)⟩
def agW(N:Nat):=oW Tryz.func82 λG=>(St G N).2
def nb(G:ao)(N:Nat):gT 2 11 Tryz.f83 G N (·.ad.ad.ad.ad.ad.ad.ad.ad.ad.ad) (a8 Tryz.f83) []:=⟨_,v2 an⟩
def n1(G:ao)(N:Nat)(L5:cH):fQ 1 2 4 5 11 15 Tryz.f83 G N (·.ad.ad.ad.ad.ad.ad.ad.ad.ad.aj.ad.aj.aj.ad.ad) (cm L5 1 2 4 5 11 15) [(14,(bd (nb G N) 2 11))]:=⟨_,v6 an⟩
def qx(G:ao)(N:Nat)(L5:cH):gZ 1 2 4 5 11 15 16 Tryz.f83 G N (·.ad.ad.ad.ad.ad.ad.ad.ad.ad.aj.ad.aj.aj.ad.aj.aj.ad.ad.ad) (cm (n1 G N L5) 1 2 4 5 11 15) [(15,(cm (n1 G N L5) 1 2 4 5 11 15)),(14,(bd (nb G N) 2 11))]:=⟨_,hf an⟩
def uy(G:ao)(N:Nat)(L5:cH)(L8:hG):oo 1 2 4 5 11 15 16 17 Tryz.f83 G N (·.ad.ad.ad.ad.ad.ad.ad.ad.ad.aj.ad.aj.aj.ad.aj.aj.ad.ad.aj.ad.aj.aj.ad.ad) (gp L8 1 2 4 5 11 15 16 17) [(16,(dw (qx G N L5) 1 2 4 5 11 15 16)),(15,(cm (n1 G N L5) 1 2 4 5 11 15)),(14,(bd (nb G N) 2 11))]:=⟨_,nm an⟩
def yy(G:ao)(N:Nat)(L5:cH)(L8:hG):qR 1 2 4 5 11 15 16 17 18 Tryz.f83 G N (·.ad.ad.ad.ad.ad.ad.ad.ad.ad.aj.ad.aj.aj.ad.aj.aj.ad.ad.aj.ad.aj.aj.ad.aj.aj.ad.ad) (gp (uy G N L5 L8) 1 2 4 5 11 15 16 17) [(17,(gp (uy G N L5 L8) 1 2 4 5 11 15 16 17)),(16,(dw (qx G N L5) 1 2 4 5 11 15 16)),(15,(cm (n1 G N L5) 1 2 4 5 11 15)),(14,(bd (nb G N) 2 11))]:=⟨_,v9 an⟩
def DJ(G:ao)(N:Nat)(L5:cH)(L8:hG)(L11:jr):sx 1 2 4 5 11 15 16 17 18 19 Tryz.f83 G N (·.ad.ad.ad.ad.ad.ad.ad.ad.ad.aj.ad.aj.aj.ad.aj.aj.ad.ad.aj.ad.aj.aj.ad.aj.aj.ad.aj.ad.aj.aj.ad.ad) (qY L11 1 2 4 5 11 15 16 17 18 19) [(18,(pA (yy G N L5 L8) 1 2 4 5 11 15 16 17 18)),(17,(gp (uy G N L5 L8) 1 2 4 5 11 15 16 17)),(16,(dw (qx G N L5) 1 2 4 5 11 15 16)),(15,(cm (n1 G N L5) 1 2 4 5 11 15)),(14,(bd (nb G N) 2 11))]:=⟨_,v10 an⟩
def Dz(G:ao)(N:Nat)(L5:cH)(L8:hG)(L11:jr):sx 1 2 4 5 11 15 16 17 18 19 Tryz.f83 G N (·.ad.ad.ad.ad.ad.ad.ad.ad.ad.aj.ad.aj.aj.ad.aj.aj.ad.ad.aj.ad.aj.aj.ad.aj.aj.ad.aj.ad.aj.aj) (qY L11 1 2 4 5 11 15 16 17 18 19) [(18,(pA (yy G N L5 L8) 1 2 4 5 11 15 16 17 18)),(17,(gp (uy G N L5 L8) 1 2 4 5 11 15 16 17)),(16,(dw (qx G N L5) 1 2 4 5 11 15 16)),(15,(cm (n1 G N L5) 1 2 4 5 11 15)),(14,(bd (nb G N) 2 11))]:=⟨_,v10 (ak (ak ((DJ G N L5 L8 L11).2) an) an)⟩
def yC(G:ao)(N:Nat)(L5:cH)(L8:hG):Nat->jr
 |0=>y9
 |n+1=>Dz G N L5 L8 (yC G N L5 L8 n)
def DI(G:ao)(N:Nat)(L5:cH)(L8:hG):oo 1 2 4 5 11 15 16 17 Tryz.f83 G N (·.ad.ad.ad.ad.ad.ad.ad.ad.ad.aj.ad.aj.aj.ad.aj.aj.ad.ad.aj.ad.aj.aj) (gp L8 1 2 4 5 11 15 16 17) [(16,(dw (qx G N L5) 1 2 4 5 11 15 16)),(15,(cm (n1 G N L5) 1 2 4 5 11 15)),(14,(bd (nb G N) 2 11))]:=⟨_,nm (ak (ak ((uy G N L5 L8).2) (bh (ak (ak ((yy G N L5 L8).2) (ak (bh (bH (λm=>(Dz G N L5 L8 (yC G N L5 L8 m)).2))) an)) an))) an)⟩
def yJ(G:ao)(N:Nat)(L5:cH):Nat->hG
 |0=>uL
 |n+1=>DI G N L5 (yJ G N L5 n)
def DH(G:ao)(N:Nat)(L5:cH):fQ 1 2 4 5 11 15 Tryz.f83 G N (·.ad.ad.ad.ad.ad.ad.ad.ad.ad.aj.ad.aj.aj) (cm L5 1 2 4 5 11 15) [(14,(bd (nb G N) 2 11))]:=⟨_,v6 (ak (ak ((n1 G N L5).2) (bh (ak (ak (ak ((qx G N L5).2) (ak (bh (bH (λm=>(DI G N L5 (yJ G N L5 m)).2))) an)) an) an))) an)⟩
def yI(G:ao)(N:Nat):Nat->cH
 |0=>iK
 |n+1=>DH G N (yI G N n)
def ux(G:ao)(N:Nat):e6 1 2 4 5 11 Tryz.f83 G N (·.ad.ad.ad.ad.ad.ad.ad.ad.ad) (a8 Tryz.f83) []:=⟨_,v5 (ak ((nb G N).2) (ak (bh (bH (λm=>(DH G N (yI G N m)).2))) an))⟩
def DK(G:ao)(N:Nat)(L13:cH):fQ 1 2 4 5 11 13 Tryz.f83 G N (·.ad.ad.ad.ad.ad.ad.ad.ad.aj.ad.aj.aj.ad.ad) (cm L13 1 2 4 5 11 13) [(12,(b3 (ux G N) 1 2 4 5 11))]:=⟨_,v6 an⟩
def I_(G:ao)(N:Nat)(L13:cH):gZ 1 2 4 5 11 13 14 Tryz.f83 G N (·.ad.ad.ad.ad.ad.ad.ad.ad.aj.ad.aj.aj.ad.aj.aj.ad.ad) (cm (DK G N L13) 1 2 4 5 11 13) [(13,(cm (DK G N L13) 1 2 4 5 11 13)),(12,(b3 (ux G N) 1 2 4 5 11))]:=⟨_,hf an⟩
def yx(G:ao)(N:Nat)(L13:cH):fQ 1 2 4 5 11 13 Tryz.f83 G N (·.ad.ad.ad.ad.ad.ad.ad.ad.aj.ad.aj.aj) (cm L13 1 2 4 5 11 13) [(12,(b3 (ux G N) 1 2 4 5 11))]:=⟨_,v6 (ak (ak ((DK G N L13).2) (bh (ak (ak ((I_ G N L13).2) an) an))) an)⟩
def r5(G:ao)(N:Nat):Nat->cH
 |0=>iK
 |n+1=>yx G N (r5 G N n)
def yA(G:ao)(N:Nat):e6 1 2 4 5 11 Tryz.f83 G N (·.ad.ad.ad.ad.ad.ad.ad.ad) (a8 Tryz.f83) []:=⟨_,v5 (ak ((ux G N).2) (ak (bh (bH (λm=>(yx G N (r5 G N m)).2))) an))⟩
def Ja(G:ao)(N:Nat)(a:cH):fQ 1 2 4 5 11 12 Tryz.f83 G N (·.ad.ad.ad.ad.ad.ad.ad.aj.ad.aj.aj.ad.ad) (cm a 1 2 4 5 11 12) [(10,(b3 (yA G N) 1 2 4 5 11))]:=⟨_,v6 an⟩
def DA(G:ao)(N:Nat)(a:cH):fQ 1 2 4 5 11 12 Tryz.f83 G N (·.ad.ad.ad.ad.ad.ad.ad.aj.ad.aj.aj) (cm a 1 2 4 5 11 12) [(10,(b3 (yA G N) 1 2 4 5 11))]:=⟨_,pE (ak (ak ((Ja G N a).2) an) an)⟩
def yD(G:ao)(N:Nat):Nat->cH
 |0=>iK
 |n+1=>DA G N (yD G N n)
def qw(G:ao)(N:Nat):dO 1 2 4 5 Tryz.f83 G N (·.ad.ad.ad.ad.ad.ad) (a8 Tryz.f83) []:=⟨_,v4 (ak (ak ((yA G N).2) (ak (bh (bH (λm=>(DA G N (yD G N m)).2))) an)) an)⟩
def r4(G:ao)(N:Nat)(L18:cF)(L19:cH):fQ 1 2 4 5 8 9 Tryz.f83 G N (·.ad.ad.ad.ad.ad.aj.ad.aj.aj.ad.aj.ad.ad.aj.aj.ad.ad) (cm L19 1 2 4 5 8 9) [(6,(b3 L18 1 2 4 5 8)),(5,(b3 L18 1 2 4 5 8)),(4,(bO (qw G N) 1 2 4 5))]:=⟨_,v6 an⟩
def DL(G:ao)(N:Nat)(L18:cF)(L19:cH)(a:ei):gZ 1 2 4 5 8 9 10 Tryz.f83 G N (·.ad.ad.ad.ad.ad.aj.ad.aj.aj.ad.aj.ad.ad.aj.aj.ad.aj.aj.ad.aj.aj.ad.ad) (dw a 1 2 4 5 8 9 10) [(8,(cm (r4 G N L18 L19) 1 2 4 5 8 9)),(7,(cm (r4 G N L18 L19) 1 2 4 5 8 9)),(6,(b3 L18 1 2 4 5 8)),(5,(b3 L18 1 2 4 5 8)),(4,(bO (qw G N) 1 2 4 5))]:=⟨_,hf an⟩
def DD(G:ao)(N:Nat)(L18:cF)(L19:cH)(a:ei):gZ 1 2 4 5 8 9 10 Tryz.f83 G N (·.ad.ad.ad.ad.ad.aj.ad.aj.aj.ad.aj.ad.ad.aj.aj.ad.aj.aj.ad.aj.aj) (dw a 1 2 4 5 8 9 10) [(8,(cm (r4 G N L18 L19) 1 2 4 5 8 9)),(7,(cm (r4 G N L18 L19) 1 2 4 5 8 9)),(6,(b3 L18 1 2 4 5 8)),(5,(b3 L18 1 2 4 5 8)),(4,(bO (qw G N) 1 2 4 5))]:=⟨_,pF (ak (ak ((DL G N L18 L19 a).2) an) an) (x:=trivial)⟩
def uz(G:ao)(N:Nat)(L18:cF)(L19:cH):Nat->ei
 |0=>k5
 |n+1=>DD G N L18 L19 (uz G N L18 L19 n)
def DC(G:ao)(N:Nat)(L18:cF)(L19:cH):fQ 1 2 4 5 8 9 Tryz.f83 G N (·.ad.ad.ad.ad.ad.aj.ad.aj.aj.ad.aj.ad.ad.aj.aj) (cm L19 1 2 4 5 8 9) [(6,(b3 L18 1 2 4 5 8)),(5,(b3 L18 1 2 4 5 8)),(4,(bO (qw G N) 1 2 4 5))]:=⟨_,v6 (ak (ak ((r4 G N L18 L19).2) (bh (ak (bh (bH (λm=>(DD G N L18 L19 (uz G N L18 L19 m)).2))) an))) an)⟩
def yF(G:ao)(N:Nat)(L18:cF):Nat->cH
 |0=>iK
 |n+1=>DC G N L18 (yF G N L18 n)
def DB(G:ao)(N:Nat)(L18:cF):e6 1 2 4 5 8 Tryz.f83 G N (·.ad.ad.ad.ad.ad.aj.ad.aj.aj) (b3 L18 1 2 4 5 8) [(4,(bO (qw G N) 1 2 4 5))]:=⟨_,v5 (ak (bh (ak (ak (bh (bH (λm=>(DC G N L18 (yF G N L18 m)).2))) an) an)) an)⟩
def yE(G:ao)(N:Nat):Nat->cF
 |0=>hW
 |n+1=>DB G N (yE G N n)
def uw(G:ao)(N:Nat):dO 1 2 4 5 Tryz.f83 G N (·.ad.ad.ad.ad.ad) (a8 Tryz.f83) []:=⟨_,v4 (ak ((qw G N).2) (ak (bh (bH (λm=>(DB G N (yE G N m)).2))) an))⟩
def yB(G:ao)(N:Nat)(L23:cF):e6 1 2 4 5 6 Tryz.f83 G N (·.ad.ad.ad.ad.aj.ad.aj.aj.ad.ad) (b3 L23 1 2 4 5 6) [(0,(bO (uw G N) 1 2 4 5))]:=⟨_,v5 an⟩
def DG(G:ao)(N:Nat)(L23:cF)(a:cH):fQ 1 2 4 5 6 7 Tryz.f83 G N (·.ad.ad.ad.ad.aj.ad.aj.aj.ad.aj.aj.ad.aj.aj) (cm a 1 2 4 5 6 7) [(2,(b3 (yB G N L23) 1 2 4 5 6)),(1,(b3 (yB G N L23) 1 2 4 5 6)),(0,(bO (uw G N) 1 2 4 5))]:=⟨_,v6 an⟩
def yH(G:ao)(N:Nat)(L23:cF):Nat->cH
 |0=>iK
 |n+1=>DG G N L23 (yH G N L23 n)
def DF(G:ao)(N:Nat)(L23:cF):e6 1 2 4 5 6 Tryz.f83 G N (·.ad.ad.ad.ad.aj.ad.aj.aj) (b3 L23 1 2 4 5 6) [(0,(bO (uw G N) 1 2 4 5))]:=⟨_,v5 (ak (ak ((yB G N L23).2) (bh (ak (bh (bH (λm=>(DG G N L23 (yH G N L23 m)).2))) an))) an)⟩
def yG(G:ao)(N:Nat):Nat->cF
 |0=>hW
 |n+1=>DF G N (yG G N n)
def Su(G:ao)(N:Nat):f_ Tryz.f83 G N:=⟨_,t1 (ak (ak (ak (ak (ak ((uw G N).2) (ak (bh (bH (λm=>(DF G N (yG G N m)).2))) an)) an) an) an) an)⟩
def agX(N:Nat):=eo Tryz.func83 λG=>(Su G N).2
def Sv(G:ao):eQ Tryz.f86 G:=⟨_,λN=>pD an (x:=trivial)⟩
def ag0(N:Nat):=c6 Tryz.func86 λG=>(Sv G).2 N
def Sx(G:ao):eQ Tryz.f88 G:=⟨_,λN=>t2 an⟩
def ag2(N:Nat):=c6 Tryz.func88 λG=>(Sx G).2 N
def Jg(G:ao)(N:Nat):eP 5 Tryz.f90 G N (·.ad.ad.ad.ad) (a8 Tryz.f90) []:=⟨_,v1 an⟩
def DR(G:ao)(N:Nat)(L2:b8):ew 1 5 7 Tryz.f90 G N (·.ad.ad.ad.aj.ad.aj.aj) (bo L2 1 5 7) [(2,(a6 (Jg G N) 5))]:=⟨_,v3 an⟩
def yQ(G:ao)(N:Nat):Nat->b8
 |0=>gQ
 |n+1=>DR G N (yQ G N n)
def Jf(G:ao)(N:Nat):gT 1 5 Tryz.f90 G N (·.ad.ad.ad) (a8 Tryz.f90) []:=⟨_,v2 (ak ((Jg G N).2) (ak (bh (bH (λm=>(DR G N (yQ G N m)).2))) an))⟩
def DS(G:ao)(N:Nat)(L3:ck):dO 0 1 5 6 Tryz.f90 G N (·.ad.ad.aj.ad.aj.aj) (bO L3 0 1 5 6) [(0,(bd (Jf G N) 1 5))]:=⟨_,v4 an⟩
def yR(G:ao)(N:Nat):Nat->ck
 |0=>fB
 |n+1=>DS G N (yR G N n)
def Sz(G:ao)(N:Nat):gn Tryz.f90 G N:=⟨_,t2 (ak (ak (ak ((Jf G N).2) (ak (bh (bH (λm=>(DS G N (yR G N m)).2))) an)) an) an)⟩
def ag5(N:Nat):=c6 Tryz.func90 λG=>(Sz G N).2
def hR(G:ao)(N:Nat):eP 10 Tryz.f111 G N (·.ad.ad.ad.ad) (a8 Tryz.f111) []:=⟨_,v1 an⟩
def tE(G:ao)(N:Nat):e6 2 4 7 9 10 Tryz.f111 G N (·.ad.ad.ad.aj.ad.aj.ad.ad.ad.ad.ad.ad.ad.ad.ad.ad.ad.ad.ad.aj.ad.ad) (a6 (hR G N) 10) [(0,(a6 (hR G N) 10))]:=⟨_,nF an⟩
def G_(G:ao)(N:Nat)(L3:ei):gZ 2 4 7 9 10 11 12 Tryz.f111 G N (·.ad.ad.ad.aj.ad.aj.ad.ad.ad.ad.ad.ad.ad.ad.ad.ad.ad.ad.ad.aj.ad.aj.ad.aj.aj.ad.ad) (dw L3 2 4 7 9 10 11 12) [(1,(b3 (tE G N) 2 4 7 9 10)),(0,(a6 (hR G N) 10))]:=⟨_,hf an⟩
def Bb(G:ao)(N:Nat)(L3:ei):gZ 2 4 7 9 10 11 12 Tryz.f111 G N (·.ad.ad.ad.aj.ad.aj.ad.ad.ad.ad.ad.ad.ad.ad.ad.ad.ad.ad.ad.aj.ad.aj.ad.aj.aj) (dw L3 2 4 7 9 10 11 12) [(1,(b3 (tE G N) 2 4 7 9 10)),(0,(a6 (hR G N) 10))]:=⟨_,hf (ak (ak ((G_ G N L3).2) an) an)⟩
def wc(G:ao)(N:Nat):Nat->ei
 |0=>k5
 |n+1=>Bb G N (wc G N n)
def o1(G:ao)(N:Nat):oo 1 2 4 7 9 10 19 114 Tryz.f111 G N (·.ad.ad.ad.aj.ad.aj.ad.ad.ad.ad.ad.ad.ad.ad.ad.ad.ad) (a6 (hR G N) 10) [(0,(a6 (hR G N) 10))]:=⟨_,Fg (c9 an (ak (c9 (ak (ak ((tE G N).2) (ak (bh (bH (λm=>(Bb G N (wc G N m)).2))) an)) an) an) an))⟩
def RE(G:ao)(N:Nat):Eu Tryz.f111 G N:=⟨_,t4 (ak (ak (ak (ak ((hR G N).2) (ak (bh (ak (c9 an (ak (c9 an (ak (c9 an (ak (c9 an (ak (c9 an (ak ((o1 G N).2) an)) an)) an)) an)) an)) an)) an)) an) an) an)⟩
def aeY(N:Nat):=oW Tryz.func111 λG=>(RE G N).2
def qi(G:ao):W0 Tryz.f135 G (·.ad.ad.ad) (a8 Tryz.f135) []:=⟨_,λN=>v0 an⟩
def tM(G:ao):sA 0 1 2 7 9 15 34 Tryz.f135 G (·.ad.ad.aj.ad.aj.ad.ad.ad.ad.ad) (bu (qi G)) [(0,(bu (qi G)))]:=⟨_,λN=>hf an⟩
def tL(G:ao):sC Tryz.f135 G:=⟨_,λN=>t4 (ak (ak (ak ((qi G).2 N) (ak (bh (ak (c9 an (ak (c9 an (ak ((tM G).2 N) an)) an)) an)) an)) an) an)⟩
def afa(N:Nat):=oW Tryz.func135 λG=>(tL G).2 N
def Hn(G:ao)(N:Nat)(L0:b8):ew 0 3 4 Tryz.f136 G N (·.ad.ad.aj.ad.ad.ad.ad.ad.aj.ad.aj.aj.ad.ad) (bo L0 0 3 4) [(1,(a8 Tryz.f136)),(0,(a8 Tryz.f136))]:=⟨_,v3 an⟩
def wE(G:ao)(N:Nat)(L0:b8):ew 0 3 4 Tryz.f136 G N (·.ad.ad.aj.ad.ad.ad.ad.ad.aj.ad.aj.aj) (bo L0 0 3 4) [(1,(a8 Tryz.f136)),(0,(a8 Tryz.f136))]:=⟨_,v3 (ak (ak ((Hn G N L0).2) an) an)⟩
def tN(G:ao)(N:Nat):Nat->b8
 |0=>gQ
 |n+1=>wE G N (tN G N n)
def Ho(G:ao)(N:Nat)(L2:b8):ew 0 3 5 Tryz.f136 G N (·.ad.ad.aj.ad.ad.ad.ad.ad.ad.ad.aj.ad.aj.aj.ad.ad) (bo L2 0 3 5) [(3,(a8 Tryz.f136)),(0,(a8 Tryz.f136))]:=⟨_,v3 an⟩
def wF(G:ao)(N:Nat)(L2:b8):ew 0 3 5 Tryz.f136 G N (·.ad.ad.aj.ad.ad.ad.ad.ad.ad.ad.aj.ad.aj.aj) (bo L2 0 3 5) [(3,(a8 Tryz.f136)),(0,(a8 Tryz.f136))]:=⟨_,v3 (ak (ak ((Ho G N L2).2) an) an)⟩
def tO(G:ao)(N:Nat):Nat->b8
 |0=>gQ
 |n+1=>wF G N (tO G N n)
def BA(G:ao)(N:Nat)(L4:b8):ew 0 3 6 Tryz.f136 G N (·.ad.ad.aj.ad.ad.ad.ad.ad.ad.ad.ad.ad.aj.ad.aj.aj) (bo L4 0 3 6) [(5,(a8 Tryz.f136)),(0,(a8 Tryz.f136))]:=⟨_,v3 an⟩
def wG(G:ao)(N:Nat):Nat->b8
 |0=>gQ
 |n+1=>BA G N (wG G N n)
def RJ(G:ao)(N:Nat):gn Tryz.f136 G N:=⟨_,t2 (ak (ak (bh (ak (c9 an (ak (c9 an (ak (c9 (ak (bh (bH (λm=>(wE G N (tN G N m)).2))) an) (ak (c9 (ak (bh (bH (λm=>(wF G N (tO G N m)).2))) an) (ak (c9 (ak (bh (bH (λm=>(BA G N (wG G N m)).2))) an) an) an)) an)) an)) an)) an)) an) an)⟩
def afb(N:Nat):=c6 Tryz.func136 λG=>(RJ G N).2
def wH(G:ao)(N:Nat):hX Tryz.f137 G N (·.ad.ad.ad.ad.ad) (a8 Tryz.f137) []:=⟨_,v0 an⟩
def wI(G:ao)(N:Nat)(L2:b8):ew 1 3 5 Tryz.f137 G N (·.ad.ad.ad.ad.aj.ad.aj.aj.ad.ad) (bo L2 1 3 5) [(2,(bu (wH G N)))]:=⟨_,v3 an⟩
def BD(G:ao)(N:Nat)(L2:b8)(L4:ck):dO 1 3 5 6 Tryz.f137 G N (·.ad.ad.ad.ad.aj.ad.aj.aj.ad.aj.aj.ad.ad.aj.aj) (bO L4 1 3 5 6) [(4,(bo (wI G N L2) 1 3 5)),(3,(bo (wI G N L2) 1 3 5)),(2,(bu (wH G N)))]:=⟨_,v4 an⟩
def wK(G:ao)(N:Nat)(L2:b8):Nat->ck
 |0=>fB
 |n+1=>BD G N L2 (wK G N L2 n)
def BB(G:ao)(N:Nat)(L2:b8):ew 1 3 5 Tryz.f137 G N (·.ad.ad.ad.ad.aj.ad.aj.aj) (bo L2 1 3 5) [(2,(bu (wH G N)))]:=⟨_,v3 (ak (ak ((wI G N L2).2) (bh (ak (ak (bh (bH (λm=>(BD G N L2 (wK G N L2 m)).2))) an) an))) an)⟩
def wJ(G:ao)(N:Nat):Nat->b8
 |0=>gQ
 |n+1=>BB G N (wJ G N n)
def BF(G:ao)(N:Nat):gT 1 3 Tryz.f137 G N (·.ad.ad.ad.ad) (a8 Tryz.f137) []:=⟨_,v2 (ak ((wH G N).2) (ak (bh (bH (λm=>(BB G N (wJ G N m)).2))) an))⟩
def BE(G:ao)(N:Nat)(L5:b8):ew 1 3 4 Tryz.f137 G N (·.ad.ad.ad.aj.ad.aj.aj) (bo L5 1 3 4) [(0,(bd (BF G N) 1 3))]:=⟨_,v3 an⟩
def wL(G:ao)(N:Nat):Nat->b8
 |0=>gQ
 |n+1=>BE G N (wL G N n)
def RK(G:ao)(N:Nat):f_ Tryz.f137 G N:=⟨_,t1 (ak (ak (ak (ak ((BF G N).2) (ak (bh (bH (λm=>(BE G N (wL G N m)).2))) an)) an) an) an)⟩
def afc(N:Nat):=eo Tryz.func137 λG=>(RK G N).2
def tQ(G:ao)(N:Nat):eP 7 Tryz.f141 G N (·.ad.ad.ad) (a8 Tryz.f141) []:=⟨_,v1 an⟩
def rK(G:ao)(N:Nat)(L1:cF):e6 0 1 2 7 8 Tryz.f141 G N (·.ad.ad.aj.ad.aj.aj.ad.ad) (b3 L1 0 1 2 7 8) [(0,(a6 (tQ G N) 7))]:=⟨_,v5 an⟩
def Hr(G:ao)(N:Nat)(L1:cF)(L3:ei):gZ 0 1 2 7 8 9 10 Tryz.f141 G N (·.ad.ad.aj.ad.aj.aj.ad.aj.aj.ad.ad.aj.aj.ad.ad) (dw L3 0 1 2 7 8 9 10) [(2,(b3 (rK G N L1) 0 1 2 7 8)),(1,(b3 (rK G N L1) 0 1 2 7 8)),(0,(a6 (tQ G N) 7))]:=⟨_,hf an⟩
def BL(G:ao)(N:Nat)(L1:cF)(L3:ei):gZ 0 1 2 7 8 9 10 Tryz.f141 G N (·.ad.ad.aj.ad.aj.aj.ad.aj.aj.ad.ad.aj.aj) (dw L3 0 1 2 7 8 9 10) [(2,(b3 (rK G N L1) 0 1 2 7 8)),(1,(b3 (rK G N L1) 0 1 2 7 8)),(0,(a6 (tQ G N) 7))]:=⟨_,hf (ak (ak ((Hr G N L1 L3).2) an) an)⟩
def tR(G:ao)(N:Nat)(L1:cF):Nat->ei
 |0=>k5
 |n+1=>BL G N L1 (tR G N L1 n)
def BK(G:ao)(N:Nat)(L1:cF):e6 0 1 2 7 8 Tryz.f141 G N (·.ad.ad.aj.ad.aj.aj) (b3 L1 0 1 2 7 8) [(0,(a6 (tQ G N) 7))]:=⟨_,nF (ak (ak ((rK G N L1).2) (bh (ak (ak (bh (bH (λm=>(BL G N L1 (tR G N L1 m)).2))) an) an))) an)⟩
def wO(G:ao)(N:Nat):Nat->cF
 |0=>hW
 |n+1=>BK G N (wO G N n)
def RO(G:ao)(N:Nat):nA Tryz.f141 G N:=⟨_,t3 (ak (ak (ak ((tQ G N).2) (ak (bh (bH (λm=>(BK G N (wO G N m)).2))) an)) an) an)⟩
def afg(N:Nat):=hp Tryz.func141 λG=>(RO G N).2
def RQ(G:ao):eQ Tryz.f148 G:=⟨_,λN=>t2 an⟩
def afk(N:Nat):=c6 Tryz.func148 λG=>(RQ G).2 N
def B_(G:ao)(N:Nat)(L0:ck):dO 0 1 2 6 Tryz.f192 G N (·.ad.aj.aj.ad.ad) (bO L0 0 1 2 6) [(0,(a8 Tryz.f192))]:=⟨_,v4 an⟩
def tY(G:ao)(N:Nat)(L0:ck):dO 0 1 2 6 Tryz.f192 G N (·.ad.aj.aj) (bO L0 0 1 2 6) [(0,(a8 Tryz.f192))]:=⟨_,v4 (ak (ak ((B_ G N L0).2) an) an)⟩
def rQ(G:ao)(N:Nat):Nat->ck
 |0=>fB
 |n+1=>tY G N (rQ G N n)
def R_(G:ao)(N:Nat):nA Tryz.f192 G N:=⟨_,t3 (ak (bh (bH (λm=>(tY G N (rQ G N m)).2))) an)⟩
def afM(N:Nat):=hp Tryz.func192 λG=>(R_ G N).2
def H3(G:ao)(N:Nat):hX Tryz.f193 G N (·.ad.ad) (a8 Tryz.f193) []:=⟨_,v0 an⟩
def Ca(G:ao)(N:Nat)(L1:b8):ew 0 1 5 Tryz.f193 G N (·.ad.aj.ad.aj.aj) (bo L1 0 1 5) [(0,(bu (H3 G N)))]:=⟨_,v3 an⟩
def w_(G:ao)(N:Nat):Nat->b8
 |0=>gQ
 |n+1=>Ca G N (w_ G N n)
def Sa(G:ao)(N:Nat):gn Tryz.f193 G N:=⟨_,t2 (ak (ak ((H3 G N).2) (ak (bh (bH (λm=>(Ca G N (w_ G N m)).2))) an)) an)⟩
def afN(N:Nat):=c6 Tryz.func193 λG=>(Sa G N).2
end
end
section
open Go.a2
set_option maxRecDepth 2000
section
variable {x:bq}{H:ae}{ok:Nat->Prop}
theorem Rz(au:ep x){a b cc d:af}{zX f:Nat}(aB:f<=x.ax.length)(aF:aI fO H ok x.ax cc)(aQ:H.get zX=A (.row I 5 [[a,b,cc,d,D F x.main]])){N:Nat}:∀(j k m:Nat),k+j=f->j<m->
  W (xU (aK P aD) N m (D F (f:Nat)) (.ptr zX 0 0) (D F (bj x.ax k:Nat)) (D F (k:Nat)) H) λr H'=>r= D F (bj x.ax f:Nat)/\H'=H
 |_,_,0,_,hm=>aa
 |0,k,m+1,e,_=>by
  have s:¬(k:Int)<(f:Int):=aa;refine cu @C5.eq_1 @C4.eq_1 @xU.eq_2 @C3.eq_1 ?_;grind[aE]
 |j+1,k,m+1,e,t=>by
  have h:k<x.ax.length:=aa;have q:=au.ax;obtain⟨L,n,gv,gw,l,o,bS,b2⟩:=aF.oC (j:=(k:Int)) (g:=x.ax[k]) aa al;have i:bj x.ax (k+1)=bj x.ax k+x.ax[k].vars.length:=Ec al;have v:=A4 au (List.getElem_mem h);have u:=qJ au k;have on:=Rz au aB aF aQ (N:=N) j (k+1) m aa aa;rw[i]at on;generalize x.ax[k]=c at*;have p:IntKind.i64.wrap ((bj x.ax k:Int)+(c.vars.length:Int))=((bj x.ax k+c.vars.length:Nat):Int):=by rw[wrap_i64 aa aa];omega
  refine bb @C5.eq_1 @C4.eq_1 @xU.eq_2 @C3.eq_1 (dh aQ) (ag l (ag (o _ (aw.refl _)) (ag (bS.bf cW) p))) ?_;omega
theorem tA(au:ep x){V:af}(aF:cE H ok x V){f:Nat}(aB:f<=x.ax.length):W (aK P aD 52 [V,D F (f:Nat)] H) λr H'=>r= D F (bj x.ax f:Nat)/\aw H H':=by
 obtain⟨_,rfl,a,b,cc,d,rfl,ah,ai,ay,aM⟩:=aF;refine agI (f+1) ?_;have e:=aw.push H (.row I 5 [[a,b,cc,d,D F x.main]]);have c:=ae.a1 H (.row I 5 [[a,b,cc,d,D F x.main]]);refine bF @C3.eq_1 (dQ ah ai ay aM) ?_;refine(Rz au aB (ay.aC e) c f 0 (f+1) aa aa).mono ?_;grind
theorem Ry(au:ep x){V:af}(aF:cE H ok x V){f v:Nat}(aB:f<=x.ax.length)(j:v<=1000000):W (aK P aD 56 [V,D F (f:Nat),D F (v:Nat)] H) λr H'=>r= D F (bj x.ax f+v:Nat)/\aw H H':=by
 have g:=aF;have k:=qJ au f;have i:=au.ax;obtain⟨_,rfl,a,b,cc,d,rfl,ah,ai,ay,aM⟩:=aF;refine agL 0 ?_;have c:=aw.push H (.row I 5 [[a,b,cc,d,D F x.main]]);have e:=ae.a1 H (.row I 5 [[a,b,cc,d,D F x.main]]);refine bT @Sn.eq_1 (dQ ah ai ay aM) (cq e) ?_;refine bz (tA au (g.aC c) aB) λK p=> ?_
 have h:IntKind.i64.wrap ((bj x.ax f:Int)+(v:Int))=((bj x.ax f+v:Nat):Int):=by grind[wrap_i64]
 refine bK h ?_;exact aE.2 ⟨rfl,c.trans p⟩
theorem Rk(au:ep x){V:af}(aF:cE H ok x V){f:Nat}(aB:f<=1000000):W (aK P aD 88 [V,D F (f:Nat)] H) λr H'=>r= D F (eM x f:Nat)/\aw H H':=by
 have g:=aF;have i:=lU au;obtain⟨_,rfl,a,b,cc,d,rfl,ah,ai,ay,aM⟩:=aF;refine ag2 0 ?_;have e:=aw.push H (.row I 5 [[a,b,cc,d,D F x.main]]);have c:=ae.a1 H (.row I 5 [[a,b,cc,d,D F x.main]]);refine dd @Sx.eq_1 (dQ ah ai ay aM) (cq c) (dh c) (ay.bf cG) ?_;refine bz (tA au (g.aC e) (ds _)) λK p=> ?_
 have h:IntKind.i64.wrap ((bj x.ax x.ax.length:Int)+(f:Int))=((eM x f:Nat):Int):=by grind[wrap_i64,ga,eM]
 refine bK h ?_;exact aE.2 ⟨rfl,e.trans p⟩
theorem QY(au:ep x){V:af}(aF:cE H ok x V){g:Nat}(aR:g<=1000000):W (aK P aD 86 [V,D F (g:Nat)] H) λr H'=>r= D F (eA x g:Nat)/\aw H H':=by
 have f:=aF;have k:=lU au;have l:=au.ax;obtain⟨_,rfl,a,b,cc,d,rfl,ah,ai,ay,aM⟩:=aF;refine ag0 0 ?_;have e:=aw.push H (.row I 5 [[a,b,cc,d,D F x.main]]);have c:=ae.a1 H (.row I 5 [[a,b,cc,d,D F x.main]]);have h:bG (A (.agg [a,b,cc,d,D F x.main])) (.agg [a,b,cc,d,D F x.main])=true:=by simp[bG,af.beq,e9.beq,ah.rd,ai.rd,ay.rd,aM.rd]
 refine dd @Sv.eq_1 (dQ ah ai ay aM) (cq c) (dh c) (ay.bf cG) ?_;refine bz (tA au (f.aC e) (ds _)) λK p=> ?_
 have i:IntKind.i64.wrap ((bj x.ax x.ax.length:Int)+(x.ax.length:Int))=((ga x.ax+x.ax.length:Nat):Int):=by grind[wrap_i64,ga]
 have j:IntKind.i64.wrap (((ga x.ax+x.ax.length:Nat):Int)+(g:Int))=((eA x g:Nat):Int):=by grind[wrap_i64,eA]
 refine cu (dh (p.get c)) (ay.bf cG) i j ?_;refine dy (λH' p=>(ag (cq (p.get c)) (ag (dh (p.get c)) (ag (ay.bf cG) (ag (ai.bf cW) (ag h (ag (dD ay) (ag (dD ai) @fz)))))))) (aE.2 ⟨rfl,e.trans p⟩)
theorem ad8(au:right x=J){V:af}(aF:cE H ok x V):W (aK P aD 25 [V] H) λr H'=>r= D F (b7 x:Nat)/\aw H H':=by
 have g:=aF;have e:=fG au;have n:=lU e;have o:=e.ax;have q:=e.globals;obtain⟨_,rfl,a,b,cc,d,rfl,ah,ai,ay,aM⟩:=aF;refine agb 0 ?_;have f:=aw.push H (.row I 5 [[a,b,cc,d,D F x.main]]);have c:=ae.a1 H (.row I 5 [[a,b,cc,d,D F x.main]]);have j:bG (A (.agg [a,b,cc,d,D F x.main])) (.agg [a,b,cc,d,D F x.main])=true:=by simp[bG,af.beq,e9.beq,ah.rd,ai.rd,ay.rd,aM.rd]
 refine bT @Se.eq_1 (dQ ah ai ay aM) (cq c) ?_;refine bz (A0 (g.aC f) (rD e) (rE au)) λK p=> ?_
 rw[au];refine bT (cq (p.get c)) (dh (p.get c)) (ay.bf cG) ?_;refine bz (tA e ((g.aC f).aC p) (ds _)) λm i=> ?_
 have h:=p.trans i;have k:IntKind.i64.wrap ((bj x.ax x.ax.length:Int)+(x.ax.length:Int))=((ga x.ax+x.ax.length:Nat):Int):=by grind[wrap_i64,ga]
 have l:IntKind.i64.wrap (((ga x.ax+x.ax.length:Nat):Int)+(x.globals.length:Int))=((b7 x:Nat):Int):=by grind[wrap_i64,b7]
 refine dd (dh (h.get c)) (ay.bf cG) (ai.bf cW) k l ?_;refine dy (λH' p=>(ag (cq (p.get (aw.get ‹_› c))) (ag (dh (p.get (aw.get ‹_› c))) (ag (ay.bf cG) (ag (ai.bf cW) (ag j (ag (dD ay) (ag (dD ai) @fz)))))))) (aE.2 ⟨rfl,f.trans h⟩)
end
end
section
open Go.a2
set_option maxRecDepth 2000
def lH(l:Nat){k a b e:Int}:gu P l 53 1 [(0,.agg [D F k,D F a,D F b,D F e])]=A (.az l 0 1 4 (A 1),.row I 4 [[D F k,D F a,D F b,D F e]]):=ng iG l rfl rfl rfl
def aZ.l4{H:ae}{B:Nat}{l:List bt}{v:af}{k a b e:Int}(d:bt)(aA:cZ d=[D F k,D F a,D F b,D F e])(h:aZ cU B ba H l v)(m:B<=H.next)(ar:l.length<=999999998):
  ∃c H',ej P (H.push (.row I 4 [[D F k,D F a,D F b,D F e]])) [53,53] v (.az H.next 0 1 4 (A 1))=A (c,H')/\aZ cU B ba H' (l++[d]) c/\cg B H H'/\H.next<H'.next:=by
 obtain⟨c,H',f,g,i,j,_⟩:=h.sI iG m (aw.refl _) (a:=d) (cs:=[D F k,D F a,D F b,D F e]) aA.symm (λ_ _=>trivial) aa;exact⟨c,H',f,g,i,j⟩
section
variable {H:ae}{ok:Nat->Prop}{x:bq}{f:Nat}{c:bQ}{i:In}{gv gw wi:af}
def nU(ah:aI fc H ok c.vars gv)(ai:aI fJ H ok c.ins gw){n:Int}(aL:a7 c n≠bw):W (aK P aD 148 [.agg (cL c gv gw),D F n] H) λr H'=>r= C (dE c n)/\aw H H':=by
 obtain⟨dL,cX,b⟩:=Gy aL;refine afk 0 ?_;have pp:=aw.push H (.row I 7 [cL c gv gw]);have b5:=ae.a1 H (.row I 7 [cL c gv gw]);obtain⟨q,d,e⟩:=ah.Ea dL b;have a:fl H.next (.agg (cL c gv gw))=A (.ptr H.next 0 0,.row I 7 [cL c gv gw]):=E2 ah ai _ _ _ _ _ _
 refine dd @RQ.eq_1 a (h2 b5) d (e _ pp) ?_;refine bz (GU (a7 c n)) λK p=> ?_
 exact aE.2 ⟨rfl,pp.trans p⟩
theorem QZ(au:ep x){V:af}(aF:cE H ok x V){n:Int}(a:0<=n)(aL:n<=1000):W (aK P aD 86 [V,D F n] H) λr H'=>r= D F (eA x n.toNat:Nat)/\aw H H':=by
 obtain⟨k,rfl⟩:∃k:Nat,n=k:=⟨n.toNat,aa⟩;grind[QY]
theorem Rl(au:ep x){V:af}(aF:cE H ok x V){n:Int}(a:0<=n)(aL:n<=1000):W (aK P aD 88 [V,D F n] H) λr H'=>r= D F (eM x n.toNat:Nat)/\aw H H':=by
 obtain⟨k,rfl⟩:∃k:Nat,n=k:=⟨n.toNat,aa⟩;grind[Rk]
theorem ahc(au:ep x){V:af}(aF:cE H ok x V){n:Int}(a:0<=n)(aL:n.toNat<=x.ax.length):W (aK P aD 52 [V,D F n] H) λr H'=>r= D F (bj x.ax n.toNat:Nat)/\aw H H':=by
 grind[tA]
theorem JU(au:ep x)(aB:f<=x.ax.length){n:Int}(aL:a7 c n≠bw)(b:c.vars.length<=4000):IntKind.i64.wrap ((bj x.ax f:Int)+n)=((bj x.ax f+n.toNat:Nat):Int):=by
 obtain⟨a,ah,_⟩:=y8 aL;have:=qJ au f;have:=au.ax;grind[wrap_i64]
structure k8(x:bq)(f:Nat)(c:bQ)(i:In)(a b cc d gv gw wi:af)(zA:Nat)(H:ae):Prop where
 aQ:H.get zA=some (.row false 5 [[a,b,cc,d,.int .i64 x.main]])
 U:H.get (zA+1)=some (.row false 6 [[.int .i64 i.op,.int .i64 i.a,.int .i64 i.b,.int .i64 i.c,.int .i64 i.n,wi]])
 b5:H.get (zA+2)=some (.row false 7 [cL c gv gw])
 aF:cE H (· <zA) x (.agg [a,b,cc,d,.int .i64 x.main])
 ah:aI fc H (· <zA) c.vars gv
 ai:aI fJ H (· <zA) c.ins gw
 hw:aI aN H (· <zA) i.args wi
def k8.eu{a b cc d:af}{zA:Nat}{H H':ae}(s:k8 x f c i a b cc d gv gw wi zA H)(p:cg (zA+3) H H'):k8 x f c i a b cc d gv gw wi zA H':=by
 have k:du H (· <zA) H' (· <zA):=λl b (ar:l<zA) g=>⟨ar,by rw[p.2 l aa];exact g⟩
 exact⟨(p.2 _ aa).trans s.aQ,(p.2 _ aa).trans s.U,(p.2 _ aa).trans s.b5,s.aF.keep k,s.ah.keep k,s.ai.keep k,s.hw.keep k⟩
def k8.lt{a b cc d:af}{zA:Nat}{H:ae}(s:k8 x f c i a b cc d gv gw wi zA H):zA+3<=H.next:=by have:=ae.bm s.b5;omega
theorem k8.aC{a b cc d:af}{zA:Nat}{H H':ae}(s:k8 x f c i a b cc d gv gw wi zA H)(p:aw H H'):k8 x f c i a b cc d gv gw wi zA H':=s.eu (ek p s.lt)
theorem adl(au:ep x)(aB:x.ax[f]? =A c){a b cc d:af}{zA:Nat}(z:i.op=13)(E:dM x f c i=J){H:ae}{l:List bt}{v:af}(s:k8 x f c i a b cc d gv gw wi zA H)(ar:aZ cU (zA+3) ba H l v)(O:l.length<=1000){N:Nat}:
  W (tE (aK P aD) N (D F (bj x.ax f:Nat)) (.ptr zA 0 0) (.ptr (zA+1) 0 0) (.ptr (zA+2) 0 0) v H) λr H'=>aZ cU (zA+3) ba H' (l++(bif decide (0<=i.a)&&dE c i.a then[.copy (bj x.ax f+i.a.toNat) (eM x i.c.toNat)]else[])) r/\cg (zA+3) H H':=by
 obtain⟨g,aR⟩:=ni z E;have R:=s.lt;by_cases q:0<=i.a
 ·have t:a7 c i.a≠bw:=by
   rcases aR.res with h|h
   ·omega
   grind
  have B:i.c<=1000:=by have:=au.ax;have:=(List.getElem?_eq_some_iff.1 aR.at_.2).1;omega
  have G:=JU au (f:=f) al t (hI (au.code aB)).vars;refine ob @tE.eq_1 @hR.eq_1 (o s.U) q @decide_true (lu s.b5) ?_;refine cY (nU s.ah s.ai t) λK p=> ?_
  have j:=s.aC p;cases Q:dE c i.a with
  |false=>
   refine JC @hR.eq_1 @Bool.and_false ?_;exact aE.2 ⟨by simpa using ar.aC p,ek p aa⟩
  |true=>
   refine JC (o j.U) (cq j.aQ) ?_;refine bz (Rl au j.aF aR.at_.1 B) λL m=> ?_
   have u:=j.aC m;have S:=u.lt;obtain⟨T,H',w,y,n,M⟩:=((ar.aC p).aC m).l4 (.copy (bj x.ax f+i.a.toNat) (eM x i.c.toNat)) (k:=2) (e:=0) rfl aa aa;refine ob @hR.eq_1 (o u.U) (o j.U) G @lH w ?_;have:=n.1;exact aE.2 ⟨y,(ek (p.trans m) aa).trans n⟩
 ·refine ob @tE.eq_1 @hR.eq_1 (o s.U) q @decide_false @Bool.false_and ?_;exact aE.2 ⟨al,.refl _ _⟩
theorem PR(au:ep x)(aB:x.ax[f]? =A c){a b cc d:af}{zA:Nat}(w:i.op=13)(y:dM x f c i=J){N:Nat}:∀(j k m:Nat) (H:ae) (l:List bt) (v:af),k+j=i.args.length->j<m->k8 x f c i a b cc d gv gw wi zA H->aZ cU (zA+3) ba H l v->l.length<=k->
  W (wc (aK P aD) N m (D F (bj x.ax f:Nat)) (.ptr zA 0 0) (.ptr (zA+1) 0 0) (.ptr (zA+2) 0 0) v (D F (bj x.ax i.c.toNat:Nat)) (D F (k:Nat)) H)
   λr H'=>aZ cU (zA+3) ba H' (l++(iO c (bj x.ax f) (bj x.ax i.c.toNat) (i.args.drop k) k++(bif decide (0<=i.a)&&dE c i.a then[.copy (bj x.ax f+i.a.toNat) (eM x i.c.toNat)]else[]))) r/\cg (zA+3) H H'
 |_,_,0,_,_,_,_,hm,_,_,_=>aa
 |0,k,m+1,H,l,v,Q,_,s,ar,R=>by
  obtain⟨g,aR⟩:=ni w y;have O:=(hI (au.code aR.at_.2)).params;have S:=aR.len;have ap:¬(k:Int)<(i.args.length:Int):=aa;refine cu @wc.eq_2 @Bb.eq_1 (fU s.U) (s.hw.bf bV) ?_;grind[iO,adl]
 |j+1,k,m+1,H,l,v,Q,av,s,ar,R=>by
  obtain⟨g,aR⟩:=ni w y;have O:=(hI (au.code aR.at_.2)).params;have S:=aR.len;have T:k<i.args.length:=aa;have aE:=s.lt;have ao:=(List.getElem?_eq_some_iff.1 aR.at_.2).1;have an:=au.ax;have aA:=qJ au i.c.toNat;obtain⟨E,_⟩:=aR.arg (j:=k) (v:=i.args[k]) al;have ak:=JU au (f:=f) al E (hI (au.code aB)).vars;obtain⟨q,B,V⟩:=s.hw.int (j:=(k:Int)) (a:=i.args[k]) aa al;have on:=PR au aB (a:=a) (b:=b) (cc:=cc) (d:=d) (zA:=zA) w y (N:=N) j (k+1) m;have Y:∀{t:ae},k8 x f c i a b cc d gv gw wi zA t->aJ P t 3 q=A (D F i.args[k]):=λs2=>by
   obtain⟨aG,z,o⟩:=s2.hw.int (j:=(k:Int)) (a:=i.args[k]) aa al;grind
  have M:i.args.drop k=i.args[k]::i.args.drop (k+1):=List.drop_eq_getElem_cons T;rw[M,iO];generalize i.args[k]=n at*;have aj:IntKind.i64.wrap ((bj x.ax i.c.toNat:Int)+(k:Int))=((bj x.ax i.c.toNat+k:Nat):Int):=by grind[wrap_i64]
  refine bb @wc.eq_2 @Bb.eq_1 (fU s.U) (s.hw.bf bV) (lu s.b5) (ag B V) ?_;refine bz (nU s.ah s.ai E) λK p=> ?_
  have h:=s.aC p;have aF:=h.lt;cases ay:dE c n with
  |false=>
   refine bK @G_.eq_1 ?_;refine(on K l v aa aa h (ar.aC p) aa).mono ?_;rintro r H' ⟨z,o⟩;exact⟨z,(ek p aa).trans o⟩
  |true=>
   obtain⟨ad,H',G,L,u,am⟩:=(ar.aC p).l4 (.copy (bj x.ax i.c.toNat+k) (bj x.ax f+n.toNat)) (k:=2) (e:=0) rfl aa aa;have hle:=u.1;refine bb @G_.eq_1 (fU h.U) B (Y h) aj (ag ak (ag @lH G)) ?_;have ab:k8 x f c i a b cc d gv gw wi zA H':=h.eu u;refine(on H' _ ad aa aa ab L al).mono ?_;rintro r t ⟨z,o⟩;refine⟨?_,((ek p aa).trans u).trans o⟩;grind
theorem aeB(au:ep x)(aB:x.ax[f]? =A c){V:af}(aF:cE H ok x V){ok':Nat->Prop}(hw:aI aN H ok' i.args wi)(y:dM x f c i=J):W (aK P aD 111 [V,D F (f:Nat),D F (bj x.ax f:Nat),.agg (cf i wi)] H) λr H'=>aZ cU H.next ba H' (c5 x f c i) r/\aw H H':=by
 have bd:=aF;obtain⟨_,rfl,a,b,cc,d,rfl,ah,ai,ay,aM⟩:=aF;refine aeY 10 ?_;obtain⟨zA,R⟩:∃zA,zA=H.next:=⟨_,rfl⟩
 have bv:=(List.getElem?_eq_some_iff.1 aB).1;have bu:=au.ax;have a_:=hI (au.code aB);obtain⟨L,n,gv,gw,be,bf,bS,b2⟩:∃L n v w,ct P 24 cc (D F f)=A (.ptr L n 0)/\(∀H',aw H H'->aJ P H' 49 (.ptr L n 0)=A (.agg (cL c v w)))/\aI fc H ok c.vars v/\aI fJ H ok c.ins w:=by
  obtain⟨L,n,ro,els,cs,ah,_,ai,ay,v,w,rfl,bS,b2⟩:=ay.at_ (K:=fO) cG (j:=(f:Int)) (a:=c) aa al;exact⟨L,n,v,w,ah,λH' p=>hA (n:=7) (c:=0) aG aG (p.get ai) ay (by exact ds 7),bS,b2⟩
 have a2:=aw.push H (.row I 5 [[a,b,cc,d,D F x.main]]);have aQ:=ae.a1 H (.row I 5 [[a,b,cc,d,D F x.main]]);have ao:=aw.push (H.push (.row I 5 [[a,b,cc,d,D F x.main]])) (.row I 6 [cf i wi]);have U:=ae.a1 (H.push (.row I 5 [[a,b,cc,d,D F x.main]])) (.row I 6 [cf i wi]);have aP:=aw.push ((H.push (.row I 5 [[a,b,cc,d,D F x.main]])).push (.row I 6 [cf i wi])) (.row I 7 [cL c gv gw]);have b5:=ae.a1 ((H.push (.row I 5 [[a,b,cc,d,D F x.main]])).push (.row I 6 [cf i wi])) (.row I 7 [cL c gv gw]);have st:=o8 (c:=c) (v:=gv) (w:=gw) (ae.a1 ((H.push (.row I 5 [[a,b,cc,d,D F x.main]])).push (.row I 6 [cf i wi])) (.row I 7 [[D F 0,.aq,C I,D F 0,D F 0,D F 0,.aq]])) bS.one b2.one
 simp only[ae.fW]at st;have a9:aJ P ((H.push (.row I 5 [[a,b,cc,d,D F x.main]])).push (.row I 6 [cf i wi])) 24 (.ptr H.next 0 2)=A cc:=(dh (ao.get aQ)).2.2.1;refine bb @RE.eq_1 (dQ ah ai ay aM) (dm hw) a9 be (ag (bf _ (a2.trans ao)) (ag st @ae.gD)) ?_;have ak:=(a2.trans ao).trans aP;have bc:aI aN (((H.push (.row I 5 [[a,b,cc,d,D F x.main]])).push (.row I 6 [cf i wi])).push (.row I 7 [cL c gv gw])) (· <zA) i.args wi:=R▸hw.below.aC ak;have m:k8 x f c i a b cc d gv gw wi zA (((H.push (.row I 5 [[a,b,cc,d,D F x.main]])).push (.row I 6 [cf i wi])).push (.row I 7 [cL c gv gw])):=by
  refine⟨?_,?_,?_,?_,R▸bS.below.aC ak,R▸b2.below.aC ak,bc⟩
  ·rw[R];exact aP.get (ao.get aQ)
  ·have z:=aP.get U;rw[ae.fW,<-R]at z;exact z
  ·rw[R];simpa using b5
  ·rw[R];exact bd.keep λl b _ g=>⟨ae.bm g,ak.get g⟩
 have bC:(((H.push (.row I 5 [[a,b,cc,d,D F x.main]])).push (.row I 6 [cf i wi])).push (.row I 7 [cL c gv gw])).next=zA+3:=by rw[R];simp
 generalize (((H.push (.row I 5 [[a,b,cc,d,D F x.main]])).push (.row I 6 [cf i wi])).push (.row I 7 [cL c gv gw]))=H0 at*;rw[<-R];clear aQ U b5 st a9 a2 ao aP;have fin:∀{am av:ae} {r:af} {l:List bt},aZ cU (zA+3) ba av l r->aw H0 am->cg (zA+3) am av->aZ cU zA ba av l r/\aw H av:=λg p q=>
  ⟨⟨g.eS,λL n c e=>by have:=g.low L n c e;omega⟩,by have:=ak.1;have:=p.1;have:=q.1;omega,λl ar=>by rw[q.2 l aa,p.2 l aa,ak.2 l ar]⟩
 have nil:∀{am:ae},c5 x f c i=[]->aw H0 am->W (hR (aK P aD) 10 af.aq am) λr H'=>aZ cU zA ba H' (c5 x f c i) r/\aw H H':=λe p=>by
  rw[hR];exact aE.2 (by rw[e];exact fin (aZ.nil _ _ _ _) p (.refl _ _))
 have M:=fU m.U;have G:∀{n:Int},a7 c n≠bw->IntKind.i64.wrap ((bj x.ax f:Int)+n)=((bj x.ax f+n.toNat:Nat):Int):=λh=>JU au aa h a_.vars
 by_cases ay:i.op=3
 ·have t:∀j:Int,(i.op==j)=(3==j):=λj=>by rw[ay]
  have u:=(y1 ay y).1;have S:a7 c i.b≠bw:=(y1 ay y).2▸u;have e:c5 x f c i=bif dE c i.a then[bt.copy (bj x.ax f+i.a.toNat) (bj x.ax f+i.b.toNat)]else[]:=by grind[c5]
  simp-implicitDefEqProofs(disch:=try exact aY)only[reduceAdd,reduceLeDiff,reduceIte,bB,M,o m.U,t,Int.reduceBEq,lu m.b5];refine bz (nU m.ah m.ai u) λK p=> ?_
  have s:=m.aC p;have aj:=s.lt;cases E:dE c i.a with
  |false=>
   refine bM ?_;grind
  |true=>
   rw[E]at e;obtain⟨T,H',B,N,O,Q⟩:=(aZ.nil cU (zA+3) ba K).l4 (.copy (bj x.ax f+i.a.toNat) (bj x.ax f+i.b.toNat)) (k:=2) (a:=((bj x.ax f+i.a.toNat:Nat):Int)) (b:=((bj x.ax f+i.b.toNat:Nat):Int)) (e:=0) rfl aa aW;refine bb @hR.eq_1 (o s.U) (G u) (G S) @lH B ?_;grind[aE]
 have bo:(i.op==3)=false:=beq_eq_false_iff_ne.2 ay;by_cases aA:i.op=6
 ·have t:∀j:Int,(i.op==j)=(6==j):=λj=>by rw[aA]
  have u:=(y2 aA y).1;have ap:fh x (a7 c i.b) i.c≠bw:=(y2 aA y).2▸u;have S:=s5 ap;have ad:=(s4 au ap).1;have e:c5 x f c i=bif dE c i.a then[bt.load (bj x.ax f+i.a.toNat) (bj x.ax f+i.b.toNat) i.c.toNat]else[]:=by grind[c5]
  simp-implicitDefEqProofs(disch:=try exact aY)only[reduceAdd,reduceLeDiff,reduceIte,bB,M,o m.U,t,Int.reduceBEq,lu m.b5];refine bz (nU m.ah m.ai u) λK p=> ?_
  have s:=m.aC p;have aj:=s.lt;cases E:dE c i.a with
  |false=>
   refine bM ?_;grind
  |true=>
   rw[E]at e;obtain⟨T,H',B,N,O,Q⟩:=(aZ.nil cU (zA+3) ba K).l4 (.load (bj x.ax f+i.a.toNat) (bj x.ax f+i.b.toNat) i.c.toNat) (k:=3) (a:=((bj x.ax f+i.a.toNat:Nat):Int)) (b:=((bj x.ax f+i.b.toNat:Nat):Int)) (e:=i.c) (by rw[cZ,tp ad]) aa aW;refine bb @hR.eq_1 (o s.U) (G u) (G S) @lH B ?_;grind[aE]
 have bp:(i.op==6)=false:=beq_eq_false_iff_ne.2 aA;by_cases aL:i.op=8
 ·have t:∀j:Int,(i.op==j)=(8==j):=λj=>by rw[aL]
  have u:=(y4 aL y).1;have S:=oD (y4 aL y).2.1;have e:c5 x f c i=bif dE c i.a then[bt.load (bj x.ax f+i.a.toNat) (bj x.ax f+i.b.toNat) 0]else[]:=by grind[c5]
  simp-implicitDefEqProofs(disch:=try exact aY)only[reduceAdd,reduceLeDiff,reduceIte,bB,M,o m.U,t,Int.reduceBEq,lu m.b5];refine bz (nU m.ah m.ai u) λK p=> ?_
  have s:=m.aC p;have aj:=s.lt;cases E:dE c i.a with
  |false=>
   refine bM ?_;grind
  |true=>
   rw[E]at e;obtain⟨T,H',B,N,O,Q⟩:=(aZ.nil cU (zA+3) ba K).l4 (.load (bj x.ax f+i.a.toNat) (bj x.ax f+i.b.toNat) 0) (k:=3) (a:=((bj x.ax f+i.a.toNat:Nat):Int)) (b:=((bj x.ax f+i.b.toNat:Nat):Int)) (e:=0) rfl aa aW;refine bb @hR.eq_1 (o s.U) (G u) (G S) @lH B ?_;grind[aE]
 have br:(i.op==8)=false:=beq_eq_false_iff_ne.2 aL;by_cases aH:i.op=7
 ·have t:∀j:Int,(i.op==j)=(7==j):=λj=>by rw[aH]
  have S:=(y3 aH y).1;have ap:fh x (a7 c i.a) i.c≠bw:=(y3 aH y).2▸S;have u:=s5 ap;have ad:=(s4 au ap).1;have e:c5 x f c i=bif dE c i.b then[bt.store (bj x.ax f+i.a.toNat) (bj x.ax f+i.b.toNat) i.c.toNat]else[]:=by grind[c5]
  simp-implicitDefEqProofs(disch:=try exact aY)only[reduceAdd,reduceLeDiff,reduceIte,bB,M,o m.U,t,Int.reduceBEq,lu m.b5];refine bz (nU m.ah m.ai S) λK p=> ?_
  have s:=m.aC p;have aj:=s.lt;cases E:dE c i.b with
  |false=>
   refine bM ?_;grind
  |true=>
   rw[E]at e;obtain⟨T,H',B,N,O,Q⟩:=(aZ.nil cU (zA+3) ba K).l4 (.store (bj x.ax f+i.a.toNat) (bj x.ax f+i.b.toNat) i.c.toNat) (k:=4) (a:=((bj x.ax f+i.a.toNat:Nat):Int)) (b:=((bj x.ax f+i.b.toNat:Nat):Int)) (e:=i.c) (by rw[cZ,tp ad]) aa aW;refine bb @hR.eq_1 (o s.U) (G u) (G S) @lH B ?_;grind[aE]
 have bq:(i.op==7)=false:=beq_eq_false_iff_ne.2 aH;by_cases aO:i.op=9
 ·have t:∀j:Int,(i.op==j)=(9==j):=λj=>by rw[aO]
  have a8:=(y5 aO y).1;have u:=oD (y5 aO y).2.1;have e:c5 x f c i=bif dE c i.c then[bt.store (bj x.ax f+i.a.toNat) (bj x.ax f+i.c.toNat) 0]else[]:=by grind[c5]
  simp-implicitDefEqProofs(disch:=try exact aY)only[reduceAdd,reduceLeDiff,reduceIte,bB,M,o m.U,t,Int.reduceBEq,lu m.b5];refine bz (nU m.ah m.ai a8) λK p=> ?_
  have s:=m.aC p;have aj:=s.lt;cases E:dE c i.c with
  |false=>
   refine bM ?_;grind
  |true=>
   rw[E]at e;obtain⟨T,H',B,N,O,Q⟩:=(aZ.nil cU (zA+3) ba K).l4 (.store (bj x.ax f+i.a.toNat) (bj x.ax f+i.c.toNat) 0) (k:=4) (a:=((bj x.ax f+i.a.toNat:Nat):Int)) (b:=((bj x.ax f+i.c.toNat:Nat):Int)) (e:=0) rfl aa aW;refine bb @hR.eq_1 (o s.U) (G u) (G a8) @lH B ?_;grind[aE]
 have bs:(i.op==9)=false:=beq_eq_false_iff_ne.2 aO;by_cases aT:i.op=11
 ·have t:∀j:Int,(i.op==j)=(11==j):=λj=>al
  have u:=(o9 aT y).1.1;have ad:=(kF (o9 aT y).2).1;have e:c5 x f c i=[bt.base (bj x.ax f+i.a.toNat) i.n.toNat]:=by grind[c5]
  have aj:=m.lt;obtain⟨T,H',B,N,O,Q⟩:=(aZ.nil cU (zA+3) ba H0).l4 (.base (bj x.ax f+i.a.toNat) i.n.toNat) (k:=1) (a:=((bj x.ax f+i.a.toNat:Nat):Int)) (b:=i.n) (e:=0) (by rw[cZ,tp ad]) aa aW;simp-implicitDefEqProofs(disch:=try exact aY)only[o1,hR,reduceAdd,reduceLeDiff,reduceIte,bB,M,o m.U,t,Int.reduceBEq,G u,lH,uK,B];grind[aE,aw.refl]
 have bg:(i.op==11)=false:=beq_eq_false_iff_ne.2 aT;by_cases aU:i.op=12
 ·have t:∀j:Int,(i.op==j)=(12==j):=λj=>al
  have u:=oD (o_ aU y).1.1;have ad:=(kF (o_ aU y).2).1;have e:c5 x f c i=[bt.base (bj x.ax f+i.a.toNat) i.n.toNat]:=by grind[c5]
  have aj:=m.lt;obtain⟨T,H',B,N,O,Q⟩:=(aZ.nil cU (zA+3) ba H0).l4 (.base (bj x.ax f+i.a.toNat) i.n.toNat) (k:=1) (a:=((bj x.ax f+i.a.toNat:Nat):Int)) (b:=i.n) (e:=0) (by rw[cZ,tp ad]) aa aW;simp-implicitDefEqProofs(disch:=try exact aY)only[o1,hR,reduceAdd,reduceLeDiff,reduceIte,bB,M,o m.U,t,Int.reduceBEq,G u,lH,uK,B];grind[aE,aw.refl]
 have bh:(i.op==12)=false:=beq_eq_false_iff_ne.2 aU;by_cases aV:i.op=13
 ·have t:∀j:Int,(i.op==j)=(13==j):=λj=>al
  obtain⟨g,aR⟩:=ni aV y;have a5:=(List.getElem?_eq_some_iff.1 aR.at_.2).1;have bx:=(hI (au.code aR.at_.2)).params;have bA:=aR.len;have e:c5 x f c i=iO c (bj x.ax f) (bj x.ax i.c.toNat) i.args 0++(bif decide (0<=i.a)&&dE c i.a then[.copy (bj x.ax f+i.a.toNat) (eM x i.c.toNat)]else[]):=by grind[c5]
  simp-implicitDefEqProofs(disch:=try exact aY)only[o1,reduceAdd,reduceLeDiff,reduceIte,bB,M,o m.U,t,Int.reduceBEq,cq m.aQ];refine bz (ahc au m.aF aR.at_.1 aa) λK p=> ?_
  have s:=m.aC p;refine(PR au aB aV y i.args.length 0 10 K [] .aq aa aa s (aZ.nil _ _ _ _) aW).mono ?_;grind
 have bi:(i.op==13)=false:=beq_eq_false_iff_ne.2 aV;by_cases a4:i.op=18
 ·have t:∀j:Int,(i.op==j)=(18==j):=λj=>al
  have e:c5 x f c i=bif decide (0<=i.a)&&dE c i.a then[bt.copy (eM x f) (bj x.ax f+i.a.toNat)]else[]:=by grind[c5]
  by_cases aS:0<=i.a
  ·have u:a7 c i.a≠bw:=by
    rcases Te a4 y with h|h
    ·grind
    omega
   simp-implicitDefEqProofs(disch:=try exact aY)only[o1,reduceAdd,reduceLeDiff,reduceIte,bB,M,o m.U,t,Int.reduceBEq,ge_iff_le,aS,decide_true,lu m.b5];refine cY (nU m.ah m.ai u) λK p=> ?_
   have s:=m.aC p;cases E:dE c i.a with
   |false=>
    refine bM ?_;grind
   |true=>
    rw[E,decide_eq_true aS]at e;refine bK (cq s.aQ) ?_;refine bz (Rl au s.aF (n:=(f:Int)) aa aa) λan Y=> ?_
    have ab:=s.aC Y;have a6:=ab.lt;obtain⟨T,H',B,N,O,Q⟩:=(aZ.nil cU (zA+3) ba an).l4 (.copy (eM x f) (bj x.ax f+i.a.toNat)) (k:=2) (e:=0) rfl aa aW;refine bb @hR.eq_1 (o ab.U) (o s.U) (G u) @lH (ag @Int.toNat_natCast B) ?_;exact aE.2 (by rw[e];exact fin N (p.trans Y) O)
  ·simp-implicitDefEqProofs(disch:=try exact aY)only[o1,reduceAdd,reduceLeDiff,reduceIte,bB,M,o m.U,t,Int.reduceBEq,ge_iff_le,aS,decide_false,Bool.false_and];grind[aw.refl]
 have bk:(i.op==18)=false:=beq_eq_false_iff_ne.2 a4;by_cases aX:i.op=19
 ·have t:∀j:Int,(i.op==j)=(19==j):=λj=>al
  have u:=(uD aX y).1;have a3:=mD (uD aX y).2;have a5:=au.globals;have e:c5 x f c i=bif dE c i.a then[bt.copy (bj x.ax f+i.a.toNat) (eA x i.n.toNat)]else[]:=by grind[c5]
  simp-implicitDefEqProofs(disch:=try exact aY)only[o1,reduceAdd,reduceLeDiff,reduceIte,bB,M,o m.U,t,Int.reduceBEq,lu m.b5];refine bz (nU m.ah m.ai u) λK p=> ?_
  have s:=m.aC p;cases E:dE c i.a with
  |false=>
   refine bM ?_;grind
  |true=>
   rw[E]at e;refine bF (o s.U) (cq s.aQ) ?_;refine bz (QZ au s.aF a3.1 aa) λan Y=> ?_
   have ab:=s.aC Y;have a6:=ab.lt;obtain⟨T,H',B,N,O,Q⟩:=(aZ.nil cU (zA+3) ba an).l4 (.copy (bj x.ax f+i.a.toNat) (eA x i.n.toNat)) (k:=2) (e:=0) rfl aa aW;refine bb @hR.eq_1 (o ab.U) (o s.U) (G u) @lH B ?_;exact aE.2 (by rw[e];exact fin N (p.trans Y) O)
 have bl:(i.op==19)=false:=beq_eq_false_iff_ne.2 aX;by_cases a0:i.op=20
 ·have t:∀j:Int,(i.op==j)=(20==j):=λj=>al
  have u:=(uE a0 y).1;have a3:=mD (uE a0 y).2;have a5:=au.globals;have e:c5 x f c i=bif dE c i.a then[bt.copy (eA x i.n.toNat) (bj x.ax f+i.a.toNat)]else[]:=by grind[c5]
  simp-implicitDefEqProofs(disch:=try exact aY)only[o1,reduceAdd,reduceLeDiff,reduceIte,bB,M,o m.U,t,Int.reduceBEq,lu m.b5];refine bz (nU m.ah m.ai u) λK p=> ?_
  have s:=m.aC p;cases E:dE c i.a with
  |false=>
   refine bM ?_;grind
  |true=>
   rw[E]at e;refine bF (o s.U) (cq s.aQ) ?_;refine bz (QZ au s.aF a3.1 aa) λan Y=> ?_
   have ab:=s.aC Y;have a6:=ab.lt;obtain⟨T,H',B,N,O,Q⟩:=(aZ.nil cU (zA+3) ba an).l4 (.copy (eA x i.n.toNat) (bj x.ax f+i.a.toNat)) (k:=2) (e:=0) rfl aa aW;refine bb @hR.eq_1 (o ab.U) (o s.U) (G u) @lH B ?_;exact aE.2 (by rw[e];exact fin N (p.trans Y) O)
 have bn:(i.op==20)=false:=beq_eq_false_iff_ne.2 a0;have e:c5 x f c i=[]:=by
  grind[c5]
 refine bb @o1.eq_1 M bo bp br (ag bq (ag bs (ag bg (ag bh (ag bi (ag bk (ag bl bn))))))) ?_;grind[aw.refl]
end
end
section
open Go.a2
set_option maxRecDepth 2000
def aZ.LF{ok:Nat->Prop}{B:Nat}{H1:ae}{l m:List bt}{v w:af}(h:aZ cU B ba H1 l v)(b:B<=H1.next)(hm:aI cU H1 ok m w)(ar:l.length+m.length<=1000000000):
  ∃a H',ej P H1 [53,53] v w=A (a,H')/\aZ cU B ba H' (l++m) a/\cg B H1 H'/\(∀k,k<H1.next->(∀L n c,v= .az L 0 n 4 c->k≠L)->H'.get k=H1.get k)/\(a=v\/∃n,a= .az H1.next 0 n 4 Z):=
 h.app iG b ((hm.zS iG).plain (okE':=λ_=>False) J5) (λ_ _ h=>h.elim) (λ_ _ _ _=>trivial) (ok':=ba) trivial ar
section
variable {H:ae}{ok:Nat->Prop}{x:bq}
theorem Pm(au:ep x){f:Nat}{c:bQ}(aB:x.ax[f]? =A c){a b cc d gv gw:af}{zA zC R:Nat}(T:zA<zC){L1:af->af->af->ae->O}{Q:af->ae->Prop}{N:Nat}:∀(j k n:Nat) (H:ae) (l:List bt) (v:af),k+j=c.ins.length->j<n->c.ins.length<=1000000->l.length+7*j+R<=1000000->
  H.get zA=A (.row I 5 [[a,b,cc,d,D F x.main]])->cE H (· <zA) x (.agg [a,b,cc,d,D F x.main])->H.get zC=A (.row I 7 [cL c gv gw])->aI fJ H (· <zA) c.ins gw->aZ cU (zA+1) ba H l v->(∀L n B,v= .az L 0 n 4 B->zC≠L)->
  (∀H' h o,cg (zA+1) H H'->o=l++(c.ins.drop k).flatMap (c5 x f c)->o.length+R<=1000000->aZ cU (zA+1) ba H' o h->W (xX (aK P aD) N L1 (.ptr zA 0 0) h (D F f) H') Q)->
  W (xZ (aK P aD) N L1 n (.ptr zA 0 0) v (D F f) (.ptr zC 0 0) (D F (bj x.ax f:Nat)) (D F k) H) Q
 |_,_,0,_,_,_,_,hm,_,_,_,_,_,_,_,_,_=>aa
 |0,k,n+1,H,l,v,U,_,_,ar,cp,aF,b5,aR,m,s,fin=>by
  have am:¬(k:Int)<(c.ins.length:Int):=aa;have:=fin H v l (.refl _ _) al aa m;refine cu @xZ.eq_2 @C8.eq_1 (h2 b5) (aR.bf eJ) ?_;omega
 |j+1,k,n+1,H,l,v,U,ao,V,ar,cp,aF,b5,aR,m,s,fin=>by
  have r:k<c.ins.length:=aa;obtain⟨L,nn,wi,ab,ad,aj⟩:=aR.rf (j:=(k:Int)) (i:=c.ins[k]) aa al;have t:dM x f c c.ins[k]=true:=(hI (au.code aB)).ins (List.getElem_mem r);have on:=Pm au aB (a:=a) (b:=b) (cc:=cc) (d:=d) (gv:=gv) (gw:=gw) T (R:=R) (L1:=L1) (Q:=Q) (N:=N) j (k+1) n;rw[List.drop_eq_getElem_cons r,List.flatMap_cons]at fin;generalize c.ins[k]=i at*;have an:=FB t au;have iS:=ae.bm b5;refine bb @xZ.eq_2 @C8.eq_1 (h2 b5) (aR.bf eJ) (cq cp) (ag ab (ad _ (aw.refl _))) ?_;refine e2 (aeB au aB aF aj t) λw K ak p=> ?_
  obtain⟨h,H',E,G,q,M,e⟩:=(m.aC p).LF (m:=c5 x f c i) (w:=w) (by have:=p.1;omega) ak.az aa;have hle:=q.1;have S:H'.get zC=A (.row I 7 [cL c gv gw]):=by
   rw[M zC (by have:=p.1;omega) s];exact p.get b5
  refine bK E ?_;have pu:cg (zA+1) H H':=(ek p aa).trans q;have u:du H (· <zA) H' (· <zA):=λz b (Y:z<zA) g=>⟨Y,by rw[pu.2 z aa];exact g⟩
  refine on H' (l++c5 x f c i) h aa aa V al ((pu.2 zA aa).trans cp) (aF.keep u) S (aR.keep u) G ?_ λy v2 l2 ah ai ay aM=>fin y v2 l2 (pu.trans ah) al ay aM
  rintro L2 ap bd rfl;rcases e with e|⟨av,e⟩
  ·grind
  ·cases e;have:=p.1;omega
theorem Po(au:ep x)(hlen:∀c∈x.ax,c.ins.length<=2500){a b cc d:af}{zA N:Nat}(E:2501<=N):∀(j k n:Nat) (H:ae) (l:List bt) (v:af),k+j=x.ax.length->j<n->l.length+7*hz (x.ax.drop k)<=1000000->
  H.get zA=A (.row I 5 [[a,b,cc,d,D F x.main]])->cE H (· <zA) x (.agg [a,b,cc,d,D F x.main])->aI fO H (· <zA) x.ax cc->aZ cU (zA+1) ba H l v->
  W (xY (aK P aD) N n (.ptr zA 0 0) v (D F k) H) λr H'=>cg (zA+1) H H'/\aZ cU (zA+1) ba H' (l++kJ x (x.ax.drop k) k) r
 |_,_,0,_,_,_,_,hm,_,_,_,_,_=>aa
 |0,k,n+1,H,l,v,M,_,_,cp,aF,aA,m=>by
  have am:¬(k:Int)<(x.ax.length:Int):=aa;refine dd @xY.eq_2 @C7.eq_1 @xW.eq_1 (dh cp) (aA.bf cG) ?_;refine aE.2 ⟨.refl _ _,?_⟩;grind[kJ]
 |j+1,k,n+1,H,l,v,M,an,ar,cp,aF,aA,m=>by
  have h:k<x.ax.length:=aa;have aj:=au.ax;have ao:=ae.bm cp;obtain⟨L,nn,gv,gw,U,V,bS,b2⟩:∃L n v w,ct P 24 cc (D F k)=A (.ptr L n 0)/\(∀H',aw H H'->aJ P H' 49 (.ptr L n 0)=A (.agg (cL x.ax[k] v w)))/\aI fc H (· <zA) x.ax[k].vars v/\aI fJ H (· <zA) x.ax[k].ins w:=by
   obtain⟨L,n,ro,els,cs,ah,_,ai,ay,v,w,rfl,bS,b2⟩:=aA.at_ (K:=fO) cG (j:=(k:Int)) (a:=x.ax[k]) aa al;exact⟨L,n,v,w,ah,λH' p=>hA (n:=7) (c:=0) aG aG (p.get ai) ay (by exact ds 7),bS,b2⟩
  have ak:=hlen _ (List.getElem_mem h);have G:x.ax[k]? =A x.ax[k]:=al;have on:=Po au hlen (a:=a) (b:=b) (cc:=cc) (d:=d) (zA:=zA) E j (k+1) n;rw[List.drop_eq_getElem_cons h,hz]at ar;rw[List.drop_eq_getElem_cons h,kJ,vb];generalize x.ax[k]=g at*;have st:=o8 (c:=g) (v:=gv) (w:=gw) (ae.a1 H (.row I 7 [[D F 0,.aq,C I,D F 0,D F 0,D F 0,.aq]])) bS.one b2.one;have o:=aw.push H (.row I 7 [cL g gv gw]);have b5:=ae.a1 H (.row I 7 [cL g gv gw]);have B:=o.get cp;have Q:du H (· <zA) (H.push (.row I 7 [cL g gv gw])) (· <zA):=λz b (f:z<zA) q=>⟨f,o.get q⟩
  refine bb @xY.eq_2 @C7.eq_1 (dh cp) (aA.bf cG) U (ag (V _ (aw.refl _)) (ag st (ag @ae.gD (cq B)))) ?_;refine bz (tA au (aF.keep Q) (Nat.le_of_lt h)) λK p=> ?_
  have i:=o.trans p;have t:du H (· <zA) K (· <zA):=λz b (f:z<zA) q=>⟨f,i.get q⟩
  refine Pm au G (R:=7*hz (x.ax.drop (k+1))) (show zA<H.next by omega) g.ins.length 0 N _ l v aa aa aa aa (i.get cp) (aF.keep t) (p.get b5) (b2.keep t) (m.aC i) (λL2 ap bd e=>by have:=m.eS.lt e;omega) ?_;intro H' Y S pu e O T;rw[List.drop_zero]at e;have s:cg (zA+1) H H':=(ek i aa).trans pu;have u:du H (· <zA) H' (· <zA):=λz b (f:z<zA) q=>⟨f,by rw[s.2 z aa];exact q⟩
  refine bK @xX.eq_1 ?_;refine(on H' S Y aa aa O ((s.2 zA aa).trans cp) (aF.keep u) (aA.keep u) T).mono ?_;rintro r ab ⟨y,ad⟩;exact⟨s.trans y,al⟩
theorem aey(au:right x=J){V:af}(aF:cE H ok x V):W (aK P aD 57 [V] H) λr H'=>aZ cU H.next ba H' (cons x) r/\aw H H':=by
 have o:=aF;have i:=fG au;obtain⟨_,rfl,a,b,cc,d,rfl,ah,ai,ay,aM⟩:=aF;refine agM 2501 ?_;have h:=aw.push H (.row I 5 [[a,b,cc,d,D F x.main]]);have m:=ae.a1 H (.row I 5 [[a,b,cc,d,D F x.main]]);refine bF @Sp.eq_1 (dQ ah ai ay aM) ?_;have q:=nT au;have j:du H ok (H.push (.row I 5 [[a,b,cc,d,D F x.main]])) (· <H.next):=λz b _ g=>⟨ae.bm g,h.get g⟩
 have p:=i.ax;refine(Po i (λc aA=>by have:=oH aA;omega) (N:=2501) (ds _) x.ax.length 0 2501 _ [] .aq aa aa al m (o.keep j) (ay.keep j) (aZ.nil _ _ _ _)).mono ?_;rintro r H' ⟨k,f⟩;rw[List.drop_zero,List.nil_append]at f;exact⟨⟨f.eS,λL n c e=>by have:=f.low L n c e;omega⟩,by have:=h.1;have:=k.1;omega,λl ar=>by rw[k.2 l aa,h.2 l ar]⟩
end
end
end Go.Proofs.YtmhhnnklfcbgfaaGreat
namespace Go.a2
open Go.cv
open Classical
def dr(l:List Bool)(s:Nat):Bool:=l.getD s I
theorem zz{l:List Bool}{s:Nat}:dr l s=J↔l[s]? =A true:=by
 grind[dr]
def E1{l:List Bool}{s:Nat}(h:dr l s=J):s<l.length:=(by grind[zz])
theorem qX{l:List Bool}{s:Nat}(h:s<l.length):l[s]? =A (dr l s):=by
 grind[dr]
theorem zy{l:List Bool}{s t:Nat}(h:s<l.length):dr (l.set s J) t=J↔t=s\/dr l t=true:=by
 grind[zz]
theorem La(m s:Nat):dr (List.replicate m I) s=false:=by
 grind[dr]
def ly:List Bool->Nat
 |[]=>0
 |b::bs=>(if b then 1 else 0)+ly bs
theorem Az:∀(l:List Bool),ly l<=l.length
 |[]=>ds _
 |b::bs=>by have:=Az bs;grind[ly]
theorem Gn:∀{l:List Bool} {s:Nat},l[s]? =A I->ly (l.set s J)=ly l+1
 |[],_,h=>by grind
 |b::bs,0,h=>by
  simp only[List.getElem?_cons_zero,bE]at h;subst h;simp[ly];omega
 |b::bs,s+1,h=>by
  have:=Gn (l:=bs) (s:=s) (by grind);grind[ly]
def lj(B:Nat->List Bool):Nat->Nat
 |0=>0
 |v+1=>lj B v+ly (B v)
def nk(B:Nat->List Bool)(v s:Nat):Nat->List Bool:=λu=>if u=v then(B v).set s J else B u
def Fa{B:Nat->List Bool}{m:Nat}(h:∀v,(B v).length=m):∀N,lj B N<=N*m
 |0=>by simp[lj]
 |v+1=>by
  have:=Fa h v;grind[Az,lj]
def LG{B:Nat->List Bool}{v s:Nat}(h:(B v)[s]? =A I):∀N,lj (nk B v s) N=lj B N+if v<N then 1 else 0
 |0=>by simp[lj]
 |u+1=>by
  have a:=LG h u;grind[lj,nk,Gn]
def akF{B:Nat->List Bool}{m v s:Nat}(h:∀v,(B v).length=m):∀u,(nk B v s u).length=m:=by
 grind[nk]
def akE{B:Nat->List Bool}{v s u t:Nat}(a:s<(B v).length):dr (nk B v s u) t=J↔(u=v/\t=s)\/dr (B u) t=true:=by
 grind[nk,zy]
structure k_(N:Nat)(t:Bool)(B:Nat->List Bool)(b:Bool)(a:Nat->List Bool):Prop where
 le:lj B N<=lj a N
 on:b=true->t=true\/lj B N<lj a N
 off:b=false->t=false/\a=B
theorem k_.refl(N:Nat)(t:Bool)(B:Nat->List Bool):k_ N t B t B:=⟨(by omega),.inl,λh=>⟨h,rfl⟩⟩
theorem k_.trans{N:Nat}{t j l:Bool}{B f g:Nat->List Bool}(h:k_ N t B j f)(k:k_ N j f l g):k_ N t B l g:=
 ⟨Nat.le_trans h.le k.le,λe=>by
  rcases k.on e with i|i
  ·rcases h.on i with m|m
   ·grind
   ·exact .inr (by have:=k.le;omega)
  ·exact .inr (by have:=h.le;omega),λe=>by
  obtain⟨a,b⟩:=k.off e;obtain⟨c,d⟩:=h.off a;grind⟩
theorem k_.set{N v s:Nat}{t:Bool}{B:Nat->List Bool}(a:v<N)(h:(B v)[s]? =A I):k_ N t B J (nk B v s):=by
 have:=LG h N;rw[if_pos a]at this;exact⟨by omega,(by omega),λe=>by cases e⟩
structure ie(n m:Nat)(l:List bt)(B:Nat->List Bool):Prop where
 len:∀v,(B v).length=m
 snd:∀v s,dr (B v) s=true->dN n l v s
theorem ie.set{n m:Nat}{l:List bt}{B:Nat->List Bool}(h:ie n m l B){v s:Nat}(b:s<m)(a:dN n l v s):ie n m l (nk B v s):=by
 refine⟨akF h.len,λu t a_=> ?_⟩;rcases(akE (by rw[h.len];omega)).1 a_ with⟨rfl,rfl⟩|ah
 ·omega
 ·exact h.snd u t ah
theorem ie.start(n m:Nat)(l:List bt):ie n m l λ_=>List.replicate m false:=
 ⟨λ_=>by simp,(by grind[La])⟩
def k7(n:Nat)(B:Nat->List Bool):bt->Prop
 | .base a b=>dr (B a) b=J
 | .copy a b=>∀s,dr (B b) s=J->dr (B a) s=J
 | .load a b f=>∀t s,dr (B b) t=J->dr (B (n+t*8+f)) s=J->dr (B a) s=J
 | .store a b f=>∀t s,dr (B a) t=J->dr (B b) s=J->dr (B (n+t*8+f)) s=J
 | .same a b=>∀f s,f<8->(dr (B (n+a*8+f)) s=J↔dr (B (n+b*8+f)) s=J)
def Zw{n:Nat}{l:List bt}{B:Nat->List Bool}(h:∀c∈l,k7 n B c):Fit n l λv s=>dr (B v) s=true:=
 ⟨λaA=>h _ aA,λaA=>h _ aA _,λaA=>h _ aA _ _,λaA=>h _ aA _ _,λaA aB ah=>(h _ aA _ _ aB).1 ah,λaA aB ah=>(h _ aA _ _ aB).2 ah⟩
def ie.iff{n m:Nat}{l:List bt}{B:Nat->List Bool}(h:ie n m l B)(aB:∀c∈l,k7 n B c)(v s:Nat):dr (B v) s=J↔dN n l v s:=
 ⟨h.snd v s,λp=>p.least (Zw aB)⟩
def ie.row{n m:Nat}{l:List bt}{B:Nat->List Bool}(h:ie n m l B)(aB:∀c∈l,k7 n B c)(v:Nat):iY (B v) 0=(db m (dN n l v)).map λ(n:Nat)=>(n:Int):=by
 have:=D9 (m:=m) (p:=dN n l v) (bs:=B v) (k:=0) (by have:=h.len v;omega) λi _ _=>by rw[Nat.sub_zero,<-zz];exact h.iff aB v i
 grind[List.filter_eq_self]
end Go.a2
namespace Go.Proofs.YtmhhnnklfcbgfaaGreat
open Go.cv
open Nat (reduceAdd reduceLeDiff)
section
open Go.a2
set_option maxRecDepth 2000
def jn(m:Nat):e0 Nat:=⟨1,λ_ _ L cs=>cs=[.az L 0 m 1 (A m)],by rintro _ _ _ _ rfl;exact⟨rfl,rfl⟩,λ_ h=>h⟩
def tj:fj 203 104 1:=⟨aG,aG,⟨24,aG,b0⟩,⟨.aq,aG,rfl,rfl⟩,b0⟩
theorem pX:fj 204 203 1:=⟨aG,aG,⟨24,aG,b0⟩,⟨.aq,aG,rfl,rfl⟩,b0⟩
def jE(M:Nat)(ll:List Nat)(k:Nat):Prop:=k∉ll/\k≠M
structure fe(n m M:Nat)(ll:List Nat)(fls:List (List Nat))(nv fv:af)(B:Nat->List Bool)(t:Bool)(H:ae):Prop where
 bR:H.get M=some (.row false 3 [[nv,fv,.bool t]])
 aL:aI (jn m) H (jE M ll) (ll.take n) nv
 aB:aI (bp (jn m)) H (jE M ll) fls fv
 dz:fls.length=m
 pK:∀t fs,fls[t]? =some fs->fs.length=8/\∀f,f<8->fs[f]? =ll[n+t*8+f]?
 row:∀v L,ll[v]? =some L->H.get L=some (.row false 1 (da (B v)))
 cA:ll.Nodup
 lx:M∉ll
 len:ll.length=n+m*8
def iL(M:Nat)(ll:List Nat)(H H':ae):Prop:=H.next<=H'.next/\∀k,k<H.next->k∉ll->k≠M->H'.get k=H.get k
theorem iL.refl(M:Nat)(ll:List Nat)(H:ae):iL M ll H H:=⟨Nat.le.refl,λ_ _ _ _=>rfl⟩
theorem iL.trans{M:Nat}{ll:List Nat}{H1 a b:ae}(h:iL M ll H1 a)(k:iL M ll a b):iL M ll H1 b:=
 ⟨Nat.le_trans h.1 k.1,λq aH ah ai=>(k.2 q (Nat.lt_of_lt_of_le aH h.1) ah ai).trans (h.2 q aH ah ai)⟩
def ZJ{M:Nat}{ll:List Nat}{H H':ae}(p:aw H H'):iL M ll H H':=⟨p.1,λk a _ _=>p.2 k a⟩
def iL.keep{M:Nat}{ll:List Nat}{H H':ae}(h:iL M ll H H'):du H (jE M ll) H' (jE M ll):=λk b a g=>⟨a,by rw[h.2 k (ae.bm g) a.1 a.2];exact g⟩
def iF{H:ae}{M:Nat}{nv fv:af}{t:Bool}(g:H.get M=A (.row I 3 [[nv,fv,C t]])):aJ P H 203 (.ptr M 0 0)=A nv/\aJ P H 204 (.ptr M 0 1)=A fv/\aJ P H 4 (.ptr M 0 2)=A (C t):=by
 refine⟨?_,?_,?_⟩<;>(rw[eW aG g rfl];rfl)
def Jt{H:ae}{M:Nat}{nv fv:af}{t a:Bool}(g:H.get M=A (.row I 3 [[nv,fv,C t]])):cz P H 4 (.ptr M 0 2) (C a)=A (H.set M (.row I 3 [[nv,fv,C a]])):=by
 rw[fb (n:=1) aG g rfl rfl rfl b0];rfl
section
variable {n m M:Nat}{ll:List Nat}{fls:List (List Nat)}{nv fv:af}{B:Nat->List Bool}{t:Bool}{H:ae}{l:List bt}
theorem fe.aC{H':ae}(s:fe n m M ll fls nv fv B t H)(p:aw H H'):fe n m M ll fls nv fv B t H':=
 ⟨p.get s.bR,s.aL.aC p,s.aB.aC p,s.dz,s.pK,λv L h=>p.get (s.row v L h),s.cA,s.lx,s.len⟩
def fe.lt(s:fe n m M ll fls nv fv B t H):M<H.next:=ae.bm s.bR
def fe.ir(s:fe n m M ll fls nv fv B t H){v:Nat}(a:v<n+m*8):∃L,ll[v]? =A L:=⟨_,List.getElem?_eq_getElem (by rw[s.len];omega)⟩
def fe.inj(s:fe n m M ll fls nv fv B t H){u v L:Nat}(ah:ll[u]? =A L)(ai:ll[v]? =A L):u=v:=by
 obtain⟨a,rfl⟩:=List.getElem?_eq_some_iff.1 ah;obtain⟨b,h⟩:=List.getElem?_eq_some_iff.1 ai;exact((List.getElem_inj s.cA).1 h.symm)
theorem fe.uH(s:fe n m M ll fls nv fv B t H)(a:Bool):fe n m M ll fls nv fv B a (H.set M (.row I 3 [[nv,fv,C a]]))/\iL M ll H (H.set M (.row I 3 [[nv,fv,C a]])):=by
 have o:∀q,q≠M->(H.set M (.row I 3 [[nv,fv,C a]])).get q=H.get q:=(by grind[ae.b_]);have ec:iL M ll H (H.set M (.row I 3 [[nv,fv,C a]])):=⟨aW,λk _ _ h=>o k h⟩;exact⟨⟨ae.cO s.lt,s.aL.keep ec.keep,s.aB.keep ec.keep,s.dz,s.pK,λv L h=>by rw[o L (by rintro rfl;exact s.lx (List.mem_of_getElem? h))];exact s.row v L h,s.cA,s.lx,s.len⟩,ec⟩
theorem fe.set(s:fe n m M ll fls nv fv B t H){v i L:Nat}(h:ll[v]? =A L):fe n m M ll fls nv fv (nk B v i) t (H.set L (.row I 1 (da ((B v).set i J))))/\iL M ll H (H.set L (.row I 1 (da ((B v).set i J)))):=by
 have o:∀q,q≠L->(H.set L (.row I 1 (da ((B v).set i J)))).get q=H.get q:=(by grind[ae.b_]);have hm:=List.mem_of_getElem? h;have ec:iL M ll H (H.set L (.row I 1 (da ((B v).set i J)))):=⟨aW,al⟩;refine⟨⟨?_,s.aL.keep ec.keep,s.aB.keep ec.keep,s.dz,s.pK,λu L' cD=> ?_,s.cA,s.lx,s.len⟩,ec⟩
 ·rw[o M (by rintro rfl;exact s.lx hm)];exact s.bR
 ·by_cases e:u=v
  ·subst e;obtain rfl:L=L':=al;rw[ae.cO (ae.bm (s.row _ _ h))];simp[nk]
  ·rw[o L' (by rintro rfl;exact e (s.inj cD h))];rw[s.row u L' cD];simp[nk,e]
theorem fe.node(s:fe n m M ll fls nv fv B t H){v:Nat}(c:v<n):∃q L,ct P 203 nv (D F (v:Nat))=A q/\aJ P H 104 q=A (.az L 0 m 1 (A m))/\ll[v]? =A L:=by
 obtain⟨L,b⟩:=s.ir (v:=v) aa;obtain⟨p,cs,ah,ai,ay⟩:=aI.val (K:=jn m) tj JD s.aL (j:=(v:Int)) (a:=L) aa al;exact⟨p,L,ah,by rw[ai,show cs=[_]from ay];rfl,b⟩
theorem fe.er(s:fe n m M ll fls nv fv B t H){k f:Nat}(r:k<m)(aB:f<8):∃q w b L,ct P 204 fv (D F (k:Nat))=A q/\aJ P H 203 q=A w/\ct P 203 w (D F (f:Nat))=A b/\aJ P H 104 b=A (.az L 0 m 1 (A m))/\ll[n+k*8+f]? =A L/\∀H0,bD P H0 .len [203] [w]=A (D F 8):=by
 have i:k<fls.length:=by rw[s.dz];omega
 obtain⟨d,o⟩:=s.pK k fls[k] (List.getElem?_eq_getElem i);obtain⟨L,h⟩:=s.ir (v:=n+k*8+f) aa;obtain⟨p,cs,ah,ai,w,rfl,ay⟩:=aI.val (K:=bp (jn m)) pX Tq s.aB (j:=(k:Int)) (a:=fls[k]) aa al;obtain⟨l,c,aM,e,g⟩:=aI.val (K:=jn m) tj JD ay (j:=(f:Int)) (a:=L) aa al;exact⟨p,w,l,L,ah,ai,aM,by rw[e,show c=[_]from g];rfl,h,λH0=>by rw[ay.len tj,d];rfl⟩
theorem fe.bit(s:fe n m M ll fls nv fv B t H)(a:∀v,(B v).length=m){v L i:Nat}(h:ll[v]? =A L)(aP:i<m):ct P 104 (.az L 0 m 1 (A m)) (D F (i:Nat))=A (.ptr L i 0)/\aJ P H 4 (.ptr L i 0)=A (C (dr (B v) i)):=by
 refine⟨?_,?_⟩
 ·grind[nJ,pW]
 ·rw[eW D7 (s.row v L h) (u3 (qX al))];rfl
theorem fe.Tc(s:fe n m M ll fls nv fv B t H)(a:∀v,(B v).length=m){v L i:Nat}(h:ll[v]? =A L)(aP:i<m):cz P H 4 (.ptr L i 0) (C J)=A (H.set L (.row I 1 (da ((B v).set i J)))):=
 yY (s.row v L h) (qX al)
def mw(n m M:Nat)(l:List bt)(ll:List Nat)(fls:List (List Nat))(nv fv:af)(B:Nat->List Bool)(t:Bool)(H:ae)(zF:(Nat->List Bool)->Prop)(H':ae):Prop:=∃a b,fe n m M ll fls nv fv a b H'/\ie n m l a/\k_ (n+m*8) t B b a/\(b=I->zF B)/\iL M ll H H'
theorem Ra{u v x y:Nat}(hm:m<=1000000)(hu:ll[u]? =A x)(K:ll[v]? =A y)(G:∀s,dN n l v s->dN n l u s){N:Nat}:∀(j k q:Nat) (H:ae) (B:Nat->List Bool) (t:Bool),k+j=m->j<q->fe n m M ll fls nv fv B t H->ie n m l B->(t=I->∀s,s<k->dr (B v) s=J->dr (B u) s=J)->
  W (rQ (aK P aD) N q (.ptr M 0 0) (.az x 0 m 1 (A m)) (.az y 0 m 1 (A m)) (.int .i64 (k:Nat)) H) λr H'=>r= .tuple []/\mw n m M l ll fls nv fv B t H (λB=>∀s,dr (B v) s=J->dr (B u) s=J) H'
 |_,_,0,_,_,_,_,hm,_,_,_=>aa
 |0,k,q+1,H,B,t,R,_,s,a,aA=>by
  have o:¬(k:Int)<(m:Int):=aa;simp-implicitDefEqProofs(disch:=try exact aY)only[rQ,tY,reduceAdd,reduceLeDiff,reduceIte,bB,hN (by kernel_rfl:P.underlying 104=A (.slice 4)),o,decide_false];exact aE.2 ⟨rfl,B,t,s,a,.refl _ _ _,λe z L=>aA e z (by have:=E1 L;rw[a.len]at this;omega) L,.refl _ _ _⟩
 |j+1,k,q+1,H,B,t,R,aH,s,a,aA=>by
  have o:(k:Int)<(m:Int):=aa;have d:k<m:=aa;obtain⟨f,b⟩:=s.bit a.len K d;obtain⟨E,c⟩:=s.bit a.len hu d;have on:=Ra hm hu K G (N:=N) j (k+1) q;have w:=e8 (show k<=1000000000 by omega);have T:=hN (H:=H) (by kernel_rfl:P.underlying 104=A (.slice 4));have p:=hN (H:= .empty) (by kernel_rfl:P.underlying 104=A (.slice 4));cases g:dr (B v) k with
  |false=>
   rw[g]at b;refine bb @rQ.eq_2 @tY.eq_1 @B_.eq_1 p f (ag b w) ?_;grind
  |true=>
   rw[g]at b;cases h:dr (B u) k with
   |true=>
    rw[h]at c;refine bb @rQ.eq_2 @tY.eq_1 @B_.eq_1 p f (ag b (ag E (ag c w))) ?_;grind
   |false=>
    rw[h]at c;obtain⟨s1,f1⟩:=s.set (i:=k) hu;obtain⟨s2,f2⟩:=s1.uH J;have S:u<n+m*8:=by have:=(List.getElem?_eq_some_iff.1 hu).1;rw[s.len]at this;omega
    have Q:(B u)[k]? =A false:=by rw[qX (by rw[a.len];omega),h]
    have U:dS (.ptr M 0 0)=A (.ptr M 0 0):=rfl;simp-implicitDefEqProofs(disch:=try exact aY)only[rQ,tY,B_,reduceAdd,reduceLeDiff,reduceIte,bB,T,p,o,decide_true,f,b,E,c,w,Bool.not_false,s.Tc a.len hu d,U,Jt s1.bR];refine(on _ _ J aa aa s2 (a.set d (G k (a.snd v k g))) (λe=>by cases e)).mono ?_;rintro r H' ⟨rfl,O,V,Y,ab,z3,z4,z5⟩;refine⟨rfl,O,V,Y,ab,(k_.set S Q).trans z3,λe=> ?_,(f1.trans f2).trans z5⟩;have:=(z3.off e).1;grind
def vY{u v a b:Nat}(hm:m<=1000000)(hu:ll[u]? =A a)(d:ll[v]? =A b)(c:∀s,dN n l v s->dN n l u s)(s:fe n m M ll fls nv fv B t H)(e:ie n m l B):
  W (aK P aD 192 [.ptr M 0 0,.az a 0 m 1 (A m),.az b 0 m 1 (A m)] H) λr H'=>r= .tuple []/\mw n m M l ll fls nv fv B t H (λB=>∀s,dr (B v) s=J->dr (B u) s=J) H':=by
 refine afM (m+1) ?_;rw[R_];exact Ra hm hu d c m 0 (m+1) H B t aa aa s e aa
