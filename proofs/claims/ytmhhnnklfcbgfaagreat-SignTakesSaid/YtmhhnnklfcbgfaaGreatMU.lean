/-
  Texts of one proof, laid together: Yg Hk2 Hk3 ShP Ku.
-/
import Derived.Test.YtmhhnnklfcbgfaaGreatMT
set_option linter.unusedVariables false
set_option linter.unusedSimpArgs false
set_option linter.defProp false
open Option renaming some→A,none→Z
open Bool renaming true→J,false→I
open Go.cv.af renaming int→D,str→X,bool→C
open Go.IntKind renaming i64→F
namespace Go.Proofs.YtmhhnnklfcbgfaaGreat
open Go.cv
section
open Go.a2
set_option maxRecDepth 2000
section
variable {x:bq}{H:ae}{ok:Nat->Prop}
theorem ajV(x:bq):(pa x).length<=1000000000/\(∀a∈pa x,a.length<=1000000000)/\(oT x).length<=1000000000/\(∀a∈oT x,a.length<=1000000000)/\∀f,(p3 x f).length<=1000000000:=by
 unfold pa oT p3;by_cases au:right x=J
 ·have c:=u_ x;have b:=fG au;have ai:=c.kH;have aM:=c.dz;have d:=b.sites;have e:=b.ax;simp only[if_pos au,List.length_map,List.length_range,List.mem_map,List.mem_range];refine⟨aa,?_,aa,?_,λf=> ?_⟩
  ·rintro a ⟨f,_,rfl⟩;have:(lI x (a2.fK x) f).length<=(a2.fK x).count:=kW _ _;rw[fI];omega
  ·rintro a ⟨f,_,rfl⟩;have:(lB x (a2.fK x) f).length<=(a2.fK x).fields.length:=by
    unfold lB;split
    ·exact kW _ _
    ·simp
   rw[fI];omega
  grind[AN,fI]
 grind
theorem ajd(aB:qO x){V:af}(aF:cE H ok x V):W (aK P aD 18 [V] H) λr H'=>aI (bp aN) H' ba (pa x) r/\aw H H':=by
 by_cases au:right x=J
 ·grind[pa,ajY]
 ·have e:pa x=[]:=if_neg au;rw[e];have g:=aF;obtain⟨_,rfl,a,b,cc,d,rfl,ah,ai,ay,aM⟩:=aF;refine Rr 0 ?_;have c:=aw.push H (.row I 5 [[a,b,cc,d,D F x.main]]);have f:=ae.a1 H (.row I 5 [[a,b,cc,d,D F x.main]]);refine bT @BS.eq_1 (dQ ah ai ay aM) (cq f) ?_;refine bz (JI aB.1 aB.2 al (g.aC c)) λK p=> ?_
  have ne:bx P .eql 73 J .gC .gC=A (C J):=aG;refine bK ne ?_;exact aE.2 ⟨.nil,c.trans p⟩
theorem aio(aB:qO x){V:af}(aF:cE H ok x V):W (aK P aD 20 [V] H) λr H'=>aI (bp aN) H' ba (oT x) r/\aw H H':=by
 by_cases au:right x=J
 ·have e:oT x=(List.range x.ax.length).map λf=>aO (nR x (a2.fK x) f):=if_pos au
  grind[adM]
 ·have e:oT x=[]:=if_neg au;rw[e];have h:=aF;obtain⟨_,rfl,a,b,cc,d,rfl,ah,ai,ay,aM⟩:=aF;refine Rs 0 ?_;have c:=aw.push H (.row I 5 [[a,b,cc,d,D F x.main]]);have g:=ae.a1 H (.row I 5 [[a,b,cc,d,D F x.main]]);refine bT @Cb.eq_1 (dQ ah ai ay aM) (cq g) ?_;refine bz (JI aB.1 aB.2 al (h.aC c)) λK p=> ?_
  have ne:bx P .eql 73 J .gC .gC=A (C J):=aG;refine bK ne ?_;exact aE.2 ⟨.nil,c.trans p⟩
theorem ajX{V:af}(aF:cE H ok x V){f:Int}:W (hq (pI P aD 16 J) V (D F f) H) λr H'=>r= C J/\aw H H':=by
 have s:=aF;obtain⟨_,rfl,a,b,cc,d,rfl,ah,ai,ay,aM⟩:=aF;have j:=aw.push H (.row I 5 [[a,b,cc,d,D F x.main]]);have aQ:=ae.a1 H (.row I 5 [[a,b,cc,d,D F x.main]]);have K:bG (A (.agg [a,b,cc,d,D F x.main])) (.agg [a,b,cc,d,D F x.main])=true:=by simp[bG,af.beq,e9.beq,ah.rd,ai.rd,ay.rd,aM.rd]
 obtain⟨L,M,z3,z4,z5⟩:=ajV x;refine bT @hq.eq_1 (dQ ah ai ay aM) (cq aQ) ?_;rw[nG b0];refine e2 (aah (s.aC j)) ?_;rintro _ N ⟨q,rfl,aH⟩ i;cases q with
 |true=>
  refine bM ?_;exact aE.2 ⟨rfl,j.trans i⟩
 |false=>
  have e:=aH rfl;have c:=i.get aQ;have g:=(s.aC j).aC i;refine bK (cq c) ?_;rw[nG b0];refine e2 (ajd e.s3 g) λt1 O bS k=> ?_
  refine bK (cq (k.get c)) ?_;rw[nG b0];refine e2 (aeL e.s3 (g.aC k)) λt2 Q b2 t=> ?_
  have l:=k.trans t;refine bM ?_;rw[nG b0];refine dK (x:= C J) ((Rn (bS.aC t) b2 L M).mono λr H' h=>⟨al,h.2⟩) ?_;refine bK (cq (l.get c)) ?_;rw[nG b0];refine zj (aio e.s3 (g.aC l)) λY R w E=> ?_
  have m:=l.trans E;refine bK (cq (m.get c)) ?_;rw[nG b0];refine zj (aeF e.s3 (g.aC m)) λaa S y u=> ?_
  have n:=m.trans u;refine bM ?_;rw[nG b0];refine hY (x:= C J) ((Rn (w.aC u) y z3 z4).mono λr H' h=>⟨al,h.2⟩) ?_;refine bK (cq (n.get c)) ?_;rw[nG b0];refine zj (aim e.s3 (g.aC n)) λab T cX G=> ?_
  have o:=n.trans G;refine bK (cq (o.get c)) ?_;rw[nG b0];refine zj (aeC e.s3 (g.aC o)) λad U z v=> ?_
  have B:=o.trans v;refine bM ?_;rw[nG b0];refine hY (x:= C J) ((GW (cX.aC v) z (z5 f)).mono λr H' h=>⟨al,h.2⟩) ?_;refine bM ?_;refine hY (x:= C J) (by grind[XH,aE]) ?_;refine bM ?_;refine dy (λH' p=>(ag (cq (p.get c)) K)) (aE.2 ⟨rfl,(j.trans i).trans B⟩)
end
end
end Go.Proofs.YtmhhnnklfcbgfaaGreat
namespace Go.cv
abbrev JY:=ao->List af->ae->O
inductive jo where
 |leaf (n:Nat) (b:JY)
 |node (m:Nat) (a b:jo)
noncomputable section
def jo.run(aD:ao)(t:jo)(G:ao)(f:Nat)(args:List af)(H:ae):O:=@jo.rec (λ_=>O) (λn b=> @Bool.rec (λ_=>O) (aD f args H) (b G args H) (Nat.beq f n)) (λm _ _ x y=> @Bool.rec (λ_=>O) y x (Nat.ble f m)) t
def Mv(aD:ao)(t:jo)(n:Nat):ao:= @Nat.rec (λ_=>ao) (λ_ _ _=>Z) (λ_ a f args H=>t.run aD a f args H) n
def zq(l:List af)(k:O):O:= @List.rec af (λ_=>O) k (λ_ _ _=>Z) l
def zr(l:List af)(k:af->O):O:= @List.rec af (λ_=>O) Z (λa r _=>zq r (k a)) l
def zs(l:List af)(k:af->af->O):O:= @List.rec af (λ_=>O) Z (λa r _=>zr r (k a)) l
def zt(l:List af)(k:af->af->af->O):O:= @List.rec af (λ_=>O) Z (λa r _=>zs r (k a)) l
def zu(l:List af)(k:af->af->af->af->O):O:= @List.rec af (λ_=>O) Z (λa r _=>zt r (k a)) l
def EN(l:List af)(k:af->af->af->af->af->O):O:= @List.rec af (λ_=>O) Z (λa r _=>zu r (k a)) l
def Kx{l:List af}{k:O}{r}(h:zq l k=A r):l=[]/\k=A r:=by
 cases l with
 |nil=>exact⟨rfl,h⟩
 |cons a l=>cases h
def Ky{l:List af}{k:af->O}{r}(h:zr l k=A r):∃a,l=[a]/\k a=A r:=by
 cases l with
 |nil=>cases h
 |cons a l=>obtain⟨rfl,h⟩:=Kx h;exact⟨a,rfl,h⟩
def Kz{l:List af}{k:af->af->O}{r}(h:zs l k=A r):∃a b,l=[a,b]/\k a b=A r:=by
 cases l with
 |nil=>cases h
 |cons a l=>obtain⟨b,rfl,h⟩:=Ky h;exact⟨a,b,rfl,h⟩
def KA{l:List af}{k:af->af->af->O}{r}(h:zt l k=A r):∃a b c,l=[a,b,c]/\k a b c=A r:=by
 cases l with
 |nil=>cases h
 |cons a l=>obtain⟨b,c,rfl,h⟩:=Kz h;exact⟨a,b,c,rfl,h⟩
def KB{l:List af}{k:af->af->af->af->O}{r}(h:zu l k=A r):∃a b c d,l=[a,b,c,d]/\k a b c d=A r:=by
 cases l with
 |nil=>cases h
 |cons a l=>obtain⟨b,c,d,rfl,h⟩:=KA h;exact⟨a,b,c,d,rfl,h⟩
def Vu{l:List af}{k:af->af->af->af->af->O}{r}(h:EN l k=A r):∃a b c d e,l=[a,b,c,d,e]/\k a b c d e=A r:=by
 cases l with
 |nil=>cases h
 |cons a l=>obtain⟨b,c,d,e,rfl,h⟩:=KB h;exact⟨a,b,c,d,e,rfl,h⟩
def qL(E:Env)(P:Program)(n:Nat)(b:JY):Prop:=∀G,e_ E P G->∀args H v H',b G args H=A (v,H')->hE E P n args H v H'
def jo.Ok(E:Env)(P:Program):jo->Prop
 | .leaf n b=>qL E P n b
 | .node _ a b=>a.Ok E P/\b.Ok E P
section
variable {E:Env}{P:Program}{aD G:ao}
def jo.G7(e:e_ E P aD)(d:e_ E P G):∀{t:jo},t.Ok E P->∀{f:Nat} {args:List af} {H:ae} {v:af} {H':ae},t.run aD G f args H=A (v,H')->hE E P f args H v H'
 | .leaf n b,a_,f,args,H,v,H',h=>by
  have ai: @Bool.rec (λ_=>O) (aD f args H) (b G args H) (Nat.beq f n)=A (v,H'):=h;cases c:Nat.beq f n with
  |false=>rw[c]at ai;exact e _ _ _ _ _ ai
  |true=>
   rw[c]at ai;obtain rfl:=Nat.eq_of_beq_eq_true c;exact a_ G d _ _ _ _ ai
 | .node m a b,a_,f,args,H,v,H',h=>by
  have ai: @Bool.rec (λ_=>O) (b.run aD G f args H) (a.run aD G f args H) (Nat.ble f m)=A (v,H'):=h;cases c:Nat.ble f m with
  |false=>rw[c]at ai;exact jo.G7 e d a_.2 ai
  |true=>rw[c]at ai;exact jo.G7 e d a_.1 ai
def pJ(a:e_ E P aD){t:jo}(a_:t.Ok E P):∀n,e_ E P (Mv aD t n)
 |0=>λ_ _ _ _ _ h=>by cases h
 |n+1=>λ_ _ _ _ _ h=>jo.G7 a (pJ a a_ n) a_ h
abbrev sP(P:Program)(fn:Func)(G:ao)(N:Nat):bU:=bX P G N (bL fn) (lF P fn.results.toList) [] (lF P fn.results.toList)
structure sm(P:Program)(n:Nat)(fn:Func)(k:Nat):Prop where
 f:P.funcs[n]? =some fn
 b:fn.body=some (bL fn)
 d:ha fn.ntmps (bL fn)=true
 n:Nat.ble k fn.ntmps=true
variable {n N:Nat}{fn:Func}
def abP(c:kD P)(w:sm P n fn 0){s:ao->ae->O}(h:∀G H,sP P fn G N (c4 []) H=s G H):qL E P n λG l H=>zq l (s G H):=by
 intro G a l H v H' e;obtain⟨rfl,e⟩:=Kx e;exact q1 (args:=[]) c a w.f w.b w.d w.n ((h G H).trans e)
def abQ(g:kD P)(w:sm P n fn 1){s:ao->af->ae->O}(h:∀G a H,sP P fn G N (c4 [a]) H=s G a H):qL E P n λG l H=>zr l λa=>s G a H:=by
 intro G c l H v H' e;obtain⟨a,rfl,e⟩:=Ky e;exact q1 (args:=[a]) g c w.f w.b w.d w.n ((h G a H).trans e)
def abR(g:kD P)(w:sm P n fn 2){s:ao->af->af->ae->O}(h:∀G a b H,sP P fn G N (c4 [a,b]) H=s G a b H):qL E P n λG l H=>zs l λa b=>s G a b H:=by
 intro G c l H v H' e;obtain⟨a,b,rfl,e⟩:=Kz e;exact q1 (args:=[a,b]) g c w.f w.b w.d w.n ((h G a b H).trans e)
def abS(i:kD P)(w:sm P n fn 3){s:ao->af->af->af->ae->O}(h:∀G a b c H,sP P fn G N (c4 [a,b,c]) H=s G a b c H):qL E P n λG l H=>zt l λa b c=>s G a b c H:=by
 intro G g l H v H' e;obtain⟨a,b,c,rfl,e⟩:=KA e;exact q1 (args:=[a,b,c]) i g w.f w.b w.d w.n ((h G a b c H).trans e)
def abT(i:kD P)(w:sm P n fn 4){s:ao->af->af->af->af->ae->O}(h:∀G a b c d H,sP P fn G N (c4 [a,b,c,d]) H=s G a b c d H):qL E P n λG l H=>zu l λa b c d=>s G a b c d H:=by
 intro G g l H v H' e;obtain⟨a,b,c,d,rfl,e⟩:=KB e;exact q1 (args:=[a,b,c,d]) i g w.f w.b w.d w.n ((h G a b c d H).trans e)
def abU(i:kD P)(w:sm P n fn 5){s:ao->af->af->af->af->af->ae->O}(h:∀G a b c d x H,sP P fn G N (c4 [a,b,c,d,x]) H=s G a b c d x H):qL E P n λG l H=>EN l λa b c d x=>s G a b c d x H:=by
 intro G g l H v H' e;obtain⟨a,b,c,d,x,rfl,e⟩:=Vu e;exact q1 (args:=[a,b,c,d,x]) i g w.f w.b w.d w.n ((h G a b c d x H).trans e)
def vm(b:Bool)(o:O):Bool:= @Option.rec _ (λ_=>Bool) I (λp=> @Prod.rec _ _ (λ_=>Bool) (λv _=>match v with
 | .bool c=>c==b
 |_=>I) p) o
def aaY{b:Bool}{o:O}(h:vm b o=J):∃H,o=A (C b,H):=by
 match o,h with
 |some (C c,H),h=>
  have:c=b:=by simpa [vm]using h
  exact⟨H,by rw[this]⟩
def WY(a:e_ E P aD){t:jo}(a_:t.Ok E P){m f:Nat}{args:List af}{H:ae}{b:Bool}(h:vm b (Mv aD t m f args H)=J):∃H',hE E P f args H (C b) H':=by
 obtain⟨H',e⟩:=aaY h;exact⟨H',pJ a a_ m _ _ _ _ _ e⟩
end
end
def zJ:List (List af)->List (List af)->Bool
 |[],[]=>J
 |a::us,b::bs=>e9.beq a b&&zJ us bs
 |_,_=>I
def Ln:∀{a b:List (List af)},zJ a b=J->a=b
 |[],[],_=>rfl
 |[],_::_,h=>by cases h
 |_::_,[],h=>by cases h
 |a::us,b::bs,h=>by
  simp only[zJ,Bool.and_eq_true]at h;rw[e9.beq_eq h.1,Ln h.2]
def EY(o:Option bA)(b:bA):Bool:=match o,b with
 |some (.row r e els),.row dc a c=>(r==dc)&&(Nat.beq e a&&zJ els c)
 |_,_=>I
def V7{o:Option bA}{b:bA}(h:EY o b=J):o=A b:=by
 unfold EY at h;split at h
 ·simp only[Bool.and_eq_true,beq_iff_eq]at h;obtain⟨rfl,ai,ay⟩:=h;rw[Nat.eq_of_beq_eq_true ai,Ln ay]
 ·cases h
def p1:List (Nat×bA)->bJ bA
 |[]=> .leaf
 |p::dt=>bJ.put p.2 0 (p1 dt) p.1
def pZ(ls:List (Nat×bA))(n:Nat):ae:=⟨p1 ls,n⟩
def Pa{l:Nat}{b:bA}:∀{ls:List (Nat×bA)},(p1 ls).get l=A b->(l,b)∈ls
 |[],h=>by rw[p1,bJ.s8]at h;cases h
 |p::dt,h=>by
  by_cases e:p.1=l
  ·subst e;rw[p1,bJ.put,bJ.get,bJ.zZ]at h;cases h;simp
  ·have:(bJ.put p.2 0 (p1 dt) p.1).get l=(p1 dt).get l:=bJ.s_ _ _ _ _ _ e;rw[p1,this]at h;exact List.mem_cons_of_mem _ (Pa h)
def acO{ls:List (Nat×bA)}{n l:Nat}{b:bA}(h:(pZ ls n).get l=A b):(l,b)∈ls:=by
 unfold ae.get at h;split at h
 ·exact Pa h
 ·cases h
def z2(H:ae)(ls:List (Nat×bA)):Bool:=ls.all λp=>EY (H.get p.1) p.2
structure Sub(zA B:ae):Prop where
 next:zA.next=B.next
 get:∀l b,zA.get l=some b->B.get l=some b
def Ti{H:ae}{ls:List (Nat×bA)}{n:Nat}(h:z2 H ls=J)(aL:Nat.beq H.next n=J):Sub (pZ ls n) H:=by
 refine⟨(Nat.eq_of_beq_eq_true aL).symm,λl b aR=> ?_⟩;unfold z2 at h;rw[List.all_eq_true]at h;exact V7 (h _ (acO aR))
theorem Sub.rw{zA B:ae}(h:Sub zA B){l:Nat}(ar:zA.rw l):B.rw l:=by
 rcases ar with⟨e,s,g⟩|⟨es,g⟩|⟨t,e,s,g⟩
 ·exact .inl ⟨e,s,h.get _ _ g⟩
 ·exact .inr (.inl ⟨es,h.get _ _ g⟩)
 ·exact .inr (.inr ⟨t,e,s,h.get _ _ g⟩)
theorem Sub.live{zA B:ae}(h:Sub zA B){l:Nat}(ar:zA.live l):B.live l:=by
 rcases ar with⟨r,e,s,g⟩|⟨es,g⟩|⟨t,e,s,g⟩
 ·exact .inl ⟨r,e,s,h.get _ _ g⟩
 ·exact .inr (.inl ⟨es,h.get _ _ g⟩)
 ·exact .inr (.inr ⟨t,e,s,h.get _ _ g⟩)
def Sub.owned{ρ:Env}{zA B:ae}{b:Nat}(h:Sub zA B):e5 ρ zA b->e5 ρ B b:=λ⟨l,loc,ah,ai,ay⟩=>⟨l,loc,h.rw ah,ai,ay⟩
def Sub.rel{ρ:Env}{zA B:ae}{w:World}(h:Sub zA B)(r:Rel ρ B w):Rel ρ zA w:=
 ⟨λl ro esz els g=>r.row l ro esz els (h.get _ _ g),λl es g=>r.map l es (h.get _ _ g),λl t esz els g=>r.ee l t esz els (h.get _ _ g),λl d a b ah ai=>r.apart l d a b (h.rw ah) (h.live ai),λl s esz els g=>by
  obtain⟨loc,f,e,i⟩:=r.old _ _ _ _ (h.get _ _ g);exact⟨loc,f,e,i.imp id λc=>⟨c.1,λq=>c.2 (h.owned q)⟩⟩⟩
def hE.narrow{E:Env}{P:Program}{g:Nat}{args:List af}{v:af}{H H0 H1 d:ae}(h:hE E P g args H0 v H1)(a:Sub H0 H)(ah:Sub d H1):hE E P g args H v d:=by
 intro ρ w xs n aB o aL next p
 refine h ρ w xs (a.rel n) (by rw[a.next,<-ah.next];exact aB) o (by rw[a.next,<-ah.next];exact aL) next λx r t aF s=>p x r t aF ⟨s.le,by have:=s.next;rw[a.next,<-ah.next]at this;exact this,λl ar=>s.keep l (by rw[a.next,<-ah.next];exact ar),ah.rel s.rel,s.os,s.tape,s.output,s.size,λb c aX=>s.frame b c λcD=>aX (a.owned cD),λb c=>(s.own b (ah.owned c)).imp a.owned id,λl esz els g=>a.get _ _ (s.ro l esz els (ah.get _ _ g)),λk q esz els g=>(s.olds k q esz els (ah.get _ _ g)).imp (λ⟨s1,m,j,e⟩=>⟨s1,m,j,a.get _ _ e⟩) λ⟨loc,f,i⟩=>⟨loc,f,i.imp a.owned id⟩⟩
structure gY where
 f:Nat
 args:List af
 dL:Nat
 F7:List (Nat×bA)
 v:af
 cX:Nat
 Av:List (Nat×bA)
def E6(o:O)(v:af)(n:Nat)(ls:List (Nat×bA)):Bool:=match o with
 |some (w,H)=>af.beq w v&&(Nat.beq H.next n&&z2 H ls)
 |none=>I
def WJ{o:O}{v:af}{n:Nat}{ls:List (Nat×bA)}(h:E6 o v n ls=J):∃H,o=A (v,H)/\Sub (pZ ls n) H:=by
 unfold E6 at h;split at h
 ·rename_i w H;simp only[Bool.and_eq_true]at h;exact⟨H,by rw[af.beq_eq h.1],Ti h.2.2 h.2.1⟩
 ·cases h
def gY.Ok(E:Env)(P:Program)(s:gY):Prop:=hE E P s.f s.args (pZ s.F7 s.dL) s.v (pZ s.Av s.cX)
def gY.oS{E:Env}{P:Program}{s:gY}{G:ao}(a:e_ E P G)(h:E6 (G s.f s.args (pZ s.F7 s.dL)) s.v s.cX s.Av=J):s.Ok E P:=by
 obtain⟨H,e,b⟩:=WJ h;exact hE.narrow (a _ _ _ _ _ e) ⟨rfl,λ_ _ g=>g⟩ b
def gY.fits(s:gY)(f:Nat)(args:List af)(H:ae):Bool:=Nat.beq s.f f&&(Nat.beq H.next s.dL&&(e9.beq args s.args&&z2 H s.F7))
def Jv(aD:ao):List gY->ao
 |[],f,args,H=>aD f args H
 |s::a,f,args,H=>bif s.fits f args H then A (s.v,pZ s.Av s.cX)else Jv aD a f args H
def Jw{E:Env}{P:Program}{aD:ao}(c:e_ E P aD):∀{b:List gY},(∀s∈b,s.Ok E P)->e_ E P (Jv aD b)
 |[],_=>c
 |s::b,h=>by
  intro f args H v H' e;have a:(bif s.fits f args H then A (s.v,pZ s.Av s.cX)else Jv aD b f args H)=A (v,H'):=e;cases aB:s.fits f args H with
  |true=>
   rw[aB]at a;cases a;unfold gY.fits at aB;simp only[Bool.and_eq_true]at aB;obtain⟨ah,ai,ay,aM⟩:=aB;obtain rfl:=Nat.eq_of_beq_eq_true ah;rw[e9.beq_eq ay];exact hE.narrow (h s aW) (Ti aM ai) ⟨rfl,λ_ _ g=>g⟩
  |false=>
   rw[aB]at a;exact Jw c (λt a_=>h t (by simp[a_])) _ _ _ _ _ a
end Go.cv
namespace Go.Proofs.YtmhhnnklfcbgfaaGreat
open Go.cv
section
set_option maxRecDepth 100000
set_option maxHeartbeats 4000000
noncomputable section
def Sr(G:ao)(N:Nat):ew 0 3 4 Tryz.f58 G N (·.ad.ad.ad.ad.ad) (a8 Tryz.f58) []:=⟨_,v3 an⟩
def Sq(G:ao)(N:Nat)(L1:ck):dO 0 3 4 5 Tryz.f58 G N (·.ad.ad.ad.ad.aj.aj.aj) (bO L1 0 3 4 5) [(0,(bo (Sr G N) 0 3 4))]:=⟨_,v4 an⟩
def Ss(G:ao)(N:Nat):Nat->ck
 |0=>fB
 |n+1=>Sq G N (Ss G N n)
def ahp(G:ao)(N:Nat):f_ Tryz.f58 G N:=⟨_,t1 (ak (ak (ak (ak (ak ((Sr G N).2) (bh (bH (λm=>(Sq G N (Ss G N m)).2)))) an) an) an) an)⟩
def Ha(G:ao)(N:Nat):eP 1 Tryz.f112 G N (·.ad.ad) (a8 Tryz.f112) []:=⟨_,v1 an⟩
def RG(G:ao)(N:Nat)(L1:T2)(L2:T2):gT 0 1 Tryz.f112 G N (·.ad.aj.aj.aj.ad.aj.aj.ad.ad.ad.aj.aj.aj) (bd L2 0 1) [(3,(bd L1 0 1)),(2,(bd L1 0 1)),(1,(bd L1 0 1)),(0,(a6 (Ha G N) 1))]:=⟨_,v2 an⟩
def RI(G:ao)(N:Nat)(L1:T2):Nat->T2
 |0=>ns
 |n+1=>RG G N L1 (RI G N L1 n)
def RF(G:ao)(N:Nat)(L1:T2):gT 0 1 Tryz.f112 G N (·.ad.aj.aj.aj) (bd L1 0 1) [(0,(a6 (Ha G N) 1))]:=⟨_,v2 (ak (bh (bh (ak (c9 an (ak (c9 (bh (bH (λm=>(RG G N L1 (RI G N L1 m)).2))) an) an)) an))) an)⟩
def RH(G:ao)(N:Nat):Nat->T2
 |0=>ns
 |n+1=>RF G N (RH G N n)
def ahe(G:ao)(N:Nat):gn Tryz.f112 G N:=⟨_,t2 (ak (ak ((Ha G N).2) (bh (bH (λm=>(RF G N (RH G N m)).2)))) an)⟩
def ahf(G:ao):eQ Tryz.f113 G:=⟨_,λN=>t2 an⟩
def ahh(G:ao):hr Tryz.f149 G:=⟨_,λN=>t1 an⟩
def RT(G:ao)(N:Nat):eP 7 Tryz.f150 G N (·.ad.ad.ad) (a8 Tryz.f150) []:=⟨_,v1 an⟩
def RR(G:ao)(N:Nat)(L1:ck):dO 0 1 2 7 Tryz.f150 G N (·.ad.ad.aj.aj.aj) (bO L1 0 1 2 7) [(0,(a6 (RT G N) 7))]:=⟨_,v4 an⟩
def RU(G:ao)(N:Nat):Nat->ck
 |0=>fB
 |n+1=>RR G N (RU G N n)
def ahi(G:ao)(N:Nat):nA Tryz.f150 G N:=⟨_,t3 (ak (ak (ak ((RT G N).2) (bh (bH (λm=>(RR G N (RU G N m)).2)))) an) an)⟩
def RW(G:ao)(N:Nat):hX Tryz.f151 G N (·.ad.ad.ad) (a8 Tryz.f151) []:=⟨_,v0 an⟩
def RV(G:ao)(N:Nat)(L1:b8):ew 0 3 4 Tryz.f151 G N (·.ad.ad.aj.ad.aj.aj) (bo L1 0 3 4) [(0,(bu (RW G N)))]:=⟨_,v3 an⟩
def RX(G:ao)(N:Nat):Nat->b8
 |0=>gQ
 |n+1=>RV G N (RX G N n)
def ahj(G:ao)(N:Nat):f_ Tryz.f151 G N:=⟨_,t1 (ak (ak (ak ((RW G N).2) (ak (bh (bH (λm=>(RV G N (RX G N m)).2))) an)) an) an)⟩
def RZ(G:ao)(N:Nat):hX Tryz.f152 G N (·.ad.ad.ad) (a8 Tryz.f152) []:=⟨_,v0 an⟩
def RY(G:ao)(N:Nat)(L1:T2):gT 0 3 Tryz.f152 G N (·.ad.ad.aj.ad.aj.aj) (bd L1 0 3) [(0,(bu (RZ G N)))]:=⟨_,v2 an⟩
def R0(G:ao)(N:Nat):Nat->T2
 |0=>ns
 |n+1=>RY G N (R0 G N n)
def ahk(G:ao)(N:Nat):f_ Tryz.f152 G N:=⟨_,t1 (ak (ak (ak ((RZ G N).2) (ak (bh (bH (λm=>(RY G N (R0 G N m)).2))) an)) an) an)⟩
def ahl(G:ao):hr Tryz.f153 G:=⟨_,λN=>t1 an⟩
def Hu(G:ao)(N:Nat):eP 4 Tryz.f154 G N (·.ad.ad.ad) (a8 Tryz.f154) []:=⟨_,v1 an⟩
def R1(G:ao)(N:Nat)(L1:b8):ew 0 4 5 Tryz.f154 G N (·.ad.ad.aj.ad.aj.aj) (bo L1 0 4 5) [(0,(a6 (Hu G N) 4))]:=⟨λa x4 x5 H=>eU P .len [9] [a] H λx9=>aU (bx P .lss 3 I x5 x9) λx10=>eB (A x10) (aU (qS P 9 a x5) λx15=>aU (bx P .sub 5 J x15 (D .u8 48)) λx16=>JW P 5 3 x16 H λx17=>aU (bx P .sub 3 J (D F 9223372036854775807) x17) λb=>aU (bx P .quo 3 J b (D F 10)) λc=>aU (bx P .gtr 3 I x4 c) λd=>eB (A d) (A (.tuple [D F 0,C I],H)) (aU (bx P .mul 3 J (D F 10) x4) λe=>aU (bx P .add 3 I e x17) λx26=>aU (bx P .add 3 J x5 (D F 1)) λx12=>L1 a x26 x12 H)) (Hu G N x4 H),cR an⟩
def R2(G:ao)(N:Nat):Nat->b8
 |0=>gQ
 |n+1=>R1 G N (R2 G N n)
def ahm(G:ao)(N:Nat):f_ Tryz.f154 G N:=⟨_,t1 (ak (ak (ak ((Hu G N).2) (ak (bh (bH (λm=>(R1 G N (R2 G N m)).2))) an)) an) an)⟩
def R6(G:ao)(N:Nat):hX Tryz.f155 G N (·.ad.ad.ad.ad.ad) (a8 Tryz.f155) []:=⟨_,v0 an⟩
def R3(G:ao)(N:Nat)(L2:ck):dO 0 1 7 8 Tryz.f155 G N (·.ad.ad.ad.ad.aj.ad.aj.aj) (bO L2 0 1 7 8) [(2,(bu (R6 G N)))]:=⟨_,v4 an⟩
def R7(G:ao)(N:Nat):Nat->ck
 |0=>fB
 |n+1=>R3 G N (R7 G N n)
def R5(G:ao)(N:Nat):gT 0 1 Tryz.f155 G N (·.ad.ad.ad) (a8 Tryz.f155) []:=⟨_,v2 (ak (ak ((R6 G N).2) (ak (bh (bH (λm=>(R3 G N (R7 G N m)).2))) an)) an)⟩
def R4(G:ao)(N:Nat)(L3:ck):dO 0 1 5 6 Tryz.f155 G N (·.ad.ad.aj.ad.aj.aj) (bO L3 0 1 5 6) [(0,(bd (R5 G N) 0 1))]:=⟨_,v4 an⟩
def Hv(G:ao)(N:Nat):Nat->ck
 |0=>fB
 |n+1=>R4 G N (Hv G N n)
def ahn(G:ao)(N:Nat):gn Tryz.f155 G N:=⟨λa x1 H=>fp H (A (.az (H).next 0 5 1 (A 5),.row I 1 [[X [60,61]],[X [61,61]],[X [33,61]],[X [38,38]],[X [124,124]]])) λx9 ah=>Hv G N N a x1 x9 (D F 0) ah,N9 (ak (ak (ak ((R5 G N).2) (ak (bh (bH (λm=>(R4 G N (Hv G N m)).2))) an)) an) an)⟩
def aho(G:ao):uT Tryz.f206 G:=⟨λH=>fp H (A (.az (H).next 0 18 1 (A 18),.row I 1 [[X [114,101,99,111,114,100]],[X [103,108,111,98,97,108]],[X [102,117,110,99]],[X [118,97,114]],[X [108,101,116]],[X [105,102]],[X [101,108,115,101]],[X [119,104,105,108,101]],[X [114,101,116,117,114,110]],[X [112,114,105,110,116]],[X [110,117,108,108]],[X [110,101,119]],[X [108,101,110]],[X [114,101,97,100]],[X [116,114,117,101]],[X [102,97,108,115,101]],[X [105,110,116]],[X [98,111,111,108]]])) λx1 ah=>A (x1,ah),λN=>N8 an⟩
end
end
section
set_option maxRecDepth 100000
noncomputable section
abbrev j:Nat:=1000000
abbrev ny:={t:jo // t.Ok E0 P}
def aV(m:Nat)(a b:ny):ny:=⟨.node m a.1 b.1,a.2,b.2⟩
def Ad{n:Nat}{f:Func}{s:ao->kE}(aB:P.funcs[n]? =A f)(h:∀G H,eF f G j (c4 []) H=s G H)(a:f.body=A (bL f):=by first|kernel_rfl)(b:ha f.ntmps (bL f)=true:=by first|kernel_rfl)(aL:Nat.ble 0 f.ntmps=true:=by first|kernel_rfl):ny:=⟨.leaf n λG l H=>zq l (s G H),abP (N:=j) lC ⟨aB,a,b,aL⟩ h⟩
def e7{n:Nat}{f:Func}{s:ao->T1}(aB:P.funcs[n]? =A f)(h:∀G a H,eF f G j (c4 [a]) H=s G a H)(b:f.body=A (bL f):=by first|kernel_rfl)(c:ha f.ntmps (bL f)=true:=by first|kernel_rfl)(aL:Nat.ble 1 f.ntmps=true:=by first|kernel_rfl):ny:=⟨.leaf n λG l H=>zr l λa=>s G a H,abQ (N:=j) lC ⟨aB,b,c,aL⟩ h⟩
def dI{n:Nat}{f:Func}{s:ao->T2}(aB:P.funcs[n]? =A f)(h:∀G a b H,eF f G j (c4 [a,b]) H=s G a b H)(c:f.body=A (bL f):=by first|kernel_rfl)(d:ha f.ntmps (bL f)=true:=by first|kernel_rfl)(aL:Nat.ble 2 f.ntmps=true:=by first|kernel_rfl):ny:=⟨.leaf n λG l H=>zs l λa b=>s G a b H,abR (N:=j) lC ⟨aB,c,d,aL⟩ h⟩
def jh{n:Nat}{f:Func}{s:ao->b8}(aB:P.funcs[n]? =A f)(h:∀G a b c H,eF f G j (c4 [a,b,c]) H=s G a b c H)(d:f.body=A (bL f):=by first|kernel_rfl)(e:ha f.ntmps (bL f)=true:=by first|kernel_rfl)(aL:Nat.ble 3 f.ntmps=true:=by first|kernel_rfl):ny:=⟨.leaf n λG l H=>zt l λa b c=>s G a b c H,abS (N:=j) lC ⟨aB,d,e,aL⟩ h⟩
def Ae{n:Nat}{f:Func}{s:ao->ck}(aB:P.funcs[n]? =A f)(h:∀G a b c d H,eF f G j (c4 [a,b,c,d]) H=s G a b c d H)(e:f.body=A (bL f):=by first|kernel_rfl)(g:ha f.ntmps (bL f)=true:=by first|kernel_rfl)(aL:Nat.ble 4 f.ntmps=true:=by first|kernel_rfl):ny:=⟨.leaf n λG l H=>zu l λa b c d=>s G a b c d H,abT (N:=j) lC ⟨aB,e,g,aL⟩ h⟩
def NZ{n:Nat}{f:Func}{s:ao->cF}(aB:P.funcs[n]? =A f)(h:∀G a b c d x H,eF f G j (c4 [a,b,c,d,x]) H=s G a b c d x H)(e:f.body=A (bL f):=by first|kernel_rfl)(g:ha f.ntmps (bL f)=true:=by first|kernel_rfl)(aL:Nat.ble 5 f.ntmps=true:=by first|kernel_rfl):ny:=⟨.leaf n λG l H=>EN l λa b c d x=>s G a b c d x H,abU (N:=j) lC ⟨aB,e,g,aL⟩ h⟩
def Oa:ny:=(aV 155 (aV 84 (aV 43 (aV 20 (aV 14 (aV 11 (e7 Tryz.func11 λG=>(ahd G).2 j) (aV 13 (dI Tryz.func13 λG=>(we G j).2) (e7 Tryz.func14 λG=>(ahg G).2 j))) (aV 17 (aV 16 (Ad Tryz.func16 λG=>(R8 G).2 j) (dI Tryz.func17 λG=>(wQ G j).2)) (aV 18 (e7 Tryz.func18 λG=>(BS G j).2) (e7 Tryz.func20 λG=>(Cb G j).2)))) (aV 38 (aV 35 (aV 22 (dI Tryz.func22 λG=>(Cg G).2 j) (e7 Tryz.func35 λG=>(mg G).2 j)) (aV 36 (e7 Tryz.func36 λG=>(IE G j).2) (e7 Tryz.func38 λG=>(CF G j).2))) (aV 41 (aV 40 (jh Tryz.func40 λG=>(II G j).2) (e7 Tryz.func41 λG=>(IK G).2 j)) (aV 42 (e7 Tryz.func42 λG=>(IL G).2 j) (e7 Tryz.func43 λG=>(xP G).2 j))))) (aV 74 (aV 46 (aV 44 (dI Tryz.func44 λG=>(IM G).2 j) (aV 45 (dI Tryz.func45 λG=>(IN G).2 j) (dI Tryz.func46 λG=>(IP G j).2))) (aV 58 (aV 47 (dI Tryz.func47 λG=>(IS G).2 j) (e7 Tryz.func58 λG=>(ahp G j).2)) (aV 73 (e7 Tryz.func73 λG=>(IV G j).2) (dI Tryz.func74 λG=>(Da G j).2)))) (aV 78 (aV 76 (aV 75 (e7 Tryz.func75 λG=>(Dc G j).2) (e7 Tryz.func76 λG=>(IY G j).2)) (aV 77 (e7 Tryz.func77 λG=>(I0 G j).2) (dI Tryz.func78 λG=>(I1 G).2 j))) (aV 80 (aV 79 (e7 Tryz.func79 λG=>(I2 G j).2) (e7 Tryz.func80 λG=>(I8 G j).2)) (aV 81 (dI Tryz.func81 λG=>(uu G j).2) (dI Tryz.func84 λG=>(Jb G).2 j)))))) (aV 128 (aV 100 (aV 94 (aV 85 (dI Tryz.func85 λG=>(Jc G).2 j) (aV 93 (jh Tryz.func93 λG=>(Jh G).2 j) (dI Tryz.func94 λG=>(Ji G).2 j))) (aV 98 (aV 97 (dI Tryz.func97 λG=>(ahq G j).2) (jh Tryz.func98 λG=>(Jj G).2 j)) (aV 99 (dI Tryz.func99 λG=>(Jk G).2 j) (dI Tryz.func100 λG=>(G9 G).2 j)))) (aV 124 (aV 112 (aV 101 (dI Tryz.func101 λG=>(qb G j).2) (dI Tryz.func112 λG=>(ahe G j).2)) (aV 113 (dI Tryz.func113 λG=>(ahf G).2 j) (dI Tryz.func124 λG=>(o2 G).2 j))) (aV 126 (aV 125 (e7 Tryz.func125 λG=>(Hb G).2 j) (dI Tryz.func126 λG=>(Hc G j).2)) (aV 127 (e7 Tryz.func127 λG=>(Hd G j).2) (e7 Tryz.func128 λG=>(Hf G).2 j))))) (aV 146 (aV 131 (aV 129 (dI Tryz.func129 λG=>(Hg G).2 j) (aV 130 (Ae Tryz.func130 λG=>(Hh G j).2) (e7 Tryz.func131 λG=>(Hi G).2 j))) (aV 133 (aV 132 (e7 Tryz.func132 λG=>(Hj G j).2) (dI Tryz.func133 λG=>(Bx G).2 j)) (aV 134 (dI Tryz.func134 λG=>(wC G j).2) (dI Tryz.func146 λG=>(Hs G j).2)))) (aV 151 (aV 149 (aV 147 (dI Tryz.func147 λG=>(BN G).2 j) (e7 Tryz.func149 λG=>(ahh G).2 j)) (aV 150 (jh Tryz.func150 λG=>(ahi G j).2) (e7 Tryz.func151 λG=>(ahj G j).2))) (aV 153 (aV 152 (e7 Tryz.func152 λG=>(ahk G j).2) (e7 Tryz.func153 λG=>(ahl G).2 j)) (aV 154 (e7 Tryz.func154 λG=>(ahm G j).2) (dI Tryz.func155 λG=>(ahn G j).2))))))) (aV 220 (aV 181 (aV 173 (aV 169 (aV 167 (Ad Tryz.func167 λG=>(Hw G).2 j) (aV 168 (jh Tryz.func168 λG=>(Hx G).2 j) (NZ Tryz.func169 λG=>(Hy G).2 j))) (aV 171 (aV 170 (dI Tryz.func170 λG=>(Hz G).2 j) (dI Tryz.func171 λG=>(HA G j).2)) (aV 172 (dI Tryz.func172 λG=>(BP G).2 j) (dI Tryz.func173 λG=>(HC G).2 j)))) (aV 177 (aV 175 (aV 174 (dI Tryz.func174 λG=>(HD G).2 j) (dI Tryz.func175 λG=>(HE G).2 j)) (aV 176 (dI Tryz.func176 λG=>(BQ G).2 j) (dI Tryz.func177 λG=>(HF G).2 j))) (aV 179 (aV 178 (Ae Tryz.func178 λG=>(HG G).2 j) (Ae Tryz.func179 λG=>(rL G).2 j)) (aV 180 (dI Tryz.func180 λG=>(rM G j).2) (dI Tryz.func181 λG=>(BU G).2 j))))) (aV 188 (aV 184 (aV 182 (e7 Tryz.func182 λG=>(HJ G j).2) (aV 183 (e7 Tryz.func183 λG=>(HL G j).2) (jh Tryz.func184 λG=>(HN G).2 j))) (aV 186 (aV 185 (e7 Tryz.func185 λG=>(HO G j).2) (e7 Tryz.func186 λG=>(HQ G j).2)) (aV 187 (dI Tryz.func187 λG=>(HS G j).2) (dI Tryz.func188 λG=>(HU G j).2)))) (aV 206 (aV 190 (aV 189 (e7 Tryz.func189 λG=>(HW G j).2) (dI Tryz.func190 λG=>(B8 G).2 j)) (aV 191 (jh Tryz.func191 λG=>(HZ G j).2) (Ad Tryz.func206 λG=>(aho G).2 j))) (aV 218 (aV 217 (e7 Tryz.func217 λG=>(hS G).2 j) (e7 Tryz.func218 λG=>(H4 G).2 j)) (aV 219 (dI Tryz.func219 λG=>(H5 G j).2) (jh Tryz.func220 λG=>(Ch G).2 j)))))) (aV 246 (aV 227 (aV 223 (aV 221 (jh Tryz.func221 λG=>(xf G).2 j) (aV 222 (dI Tryz.func222 λG=>(H7 G).2 j) (e7 Tryz.func223 λG=>(xg G).2 j))) (aV 225 (aV 224 (e7 Tryz.func224 λG=>(H8 G).2 j) (jh Tryz.func225 λG=>(H9 G j).2)) (aV 226 (dI Tryz.func226 λG=>(Ia G j).2) (jh Tryz.func227 λG=>(Ic G).2 j)))) (aV 242 (aV 240 (aV 228 (dI Tryz.func228 λG=>(Ie G j).2) (NZ Tryz.func240 λG=>(fL G).2 j)) (aV 241 (dI Tryz.func241 λG=>(Ih G).2 j) (dI Tryz.func242 λG=>(Ii G).2 j))) (aV 244 (aV 243 (dI Tryz.func243 λG=>(xk G).2 j) (jh Tryz.func244 λG=>(Ij G j).2)) (aV 245 (e7 Tryz.func245 λG=>(Il G).2 j) (Ae Tryz.func246 λG=>(Im G).2 j))))) (aV 253 (aV 249 (aV 247 (jh Tryz.func247 λG=>(Io G).2 j) (aV 248 (jh Tryz.func248 λG=>(uc G).2 j) (e7 Tryz.func249 λG=>(Ip G).2 j))) (aV 251 (aV 250 (dI Tryz.func250 λG=>(Iq G j).2) (jh Tryz.func251 λG=>(Ir G j).2)) (aV 252 (dI Tryz.func252 λG=>(Is G).2 j) (dI Tryz.func253 λG=>(It G).2 j)))) (aV 261 (aV 259 (aV 258 (e7 Tryz.func258 λG=>(Iu G j).2) (dI Tryz.func259 λG=>(Cp G).2 j)) (aV 260 (jh Tryz.func260 λG=>(xt G).2 j) (dI Tryz.func261 λG=>(Iv G j).2))) (aV 282 (aV 281 (jh Tryz.func281 λG=>(Ix G).2 j) (jh Tryz.func282 λG=>(Iy G).2 j)) (aV 283 (e7 Tryz.func283 λG=>(Iz G).2 j) (dI Tryz.func284 λG=>(IA G).2 j))))))))
def Ob:ny:=(aV 13 (dI Tryz.func13 λG=>(we G j).2) (aV 16 (Ad Tryz.func16 λG=>(R8 G).2 j) (dI Tryz.func17 λG=>(wQ G j).2)))
abbrev abt:jo:=Oa.1
def tg:abt.Ok E0 P:=Oa.2
abbrev abu:jo:=Ob.1
def abv:abu.Ok E0 P:=Ob.2
