/-
  Texts of one proof, laid together: E1 Ms E2 Z12 Zb ShS U1 U2.
-/
import Derived.Test.YtghmbpmaafnodaaGreatDoorMH
import Derived.Test.YtghmbpmaafnodaaGreatDoorMJ
import Derived.Test.YtghmbpmaafnodaaGreatDoorMF
import Derived.Test.YtghmbpmaafnodaaGreatDoorMD
set_option linter.unusedVariables false
set_option linter.unusedSimpArgs false
namespace Go.Proofs.YtghmbpmaafnodaaGreatDoor
open Go.gd
open Nat (reduceAdd reduceLeDiff)
section
theorem RS(x y:Bool):Option.map I.bool (bif x then(bif y then some true else some false) else some false)=some (.bool (x&&y)):=by cases x<;>cases y<;>rfl
theorem afb(x y z:Bool):Option.map I.bool (bif x then(bif y then(bif z then some true else some false) else some false) else some false)=some (.bool (x&&(y&&z))):=by cases x<;>cases y<;>cases z<;>rfl
theorem jn{c:Bool}(a eg:List UInt8)(b fq:Int):aW P .eql 43 c (.agg [.str a,.int .i64 b]) (.agg [.str eg,.int .i64 fq])=some (.bool (a==eg&&b==fq)):=
 Eq.trans ad (RS (a==eg) (b==fq))
theorem amh{c:Bool}(a eg:Int)(b fq:Int):aW P .eql 29 c (.agg [.int .i64 a,.int .i64 b]) (.agg [.int .i64 eg,.int .i64 fq])=some (.bool (a==eg&&b==fq)):=
 Eq.trans ad (RS (a==eg) (b==fq))
theorem pW{c:Bool}(a eg:Int)(b fq:Int)(d ep:Int):aW P .eql 101 c (.agg [.int .i64 a,.int .i64 b,.int .i64 d]) (.agg [.int .i64 eg,.int .i64 fq,.int .i64 ep])=some (.bool (a==eg&&(b==fq&&d==ep))):=
 Eq.trans ad (afb (a==eg) (b==fq) (d==ep))
theorem pT(a b c:Int):cj (some (.agg [.int .i64 a,.int .i64 b,.int .i64 c])) (.agg [.int .i64 a,.int .i64 b,.int .i64 c])=true:=by simp[cj,I.beq,jR.beq]
mutual
def um:bp->bp->Bool
 | .mk a bQ,.mk b ls=>a.kind==b.kind&&(a.n==b.n&&(a.name==b.name&&((a.eV==b.eV&&a.fT==b.fT)&&((a.wE==b.wE&&(a.Bc==b.Bc&&a.tv==b.tv))&&(a.ref==b.ref&&i7 bQ ls)))))
def i7:List bp->List bp->Bool
 |[],[]=>true
 |[],_::_=>false
 |_::_,[]=>false
 |e::es,f::eD=>um e f&&i7 es eD
end
mutual
def fE(B:Nat):bp->Prop
 | .mk _ bQ=>bQ.length<=B/\gy B bQ
def gy(B:Nat):List bp->Prop
 |[]=>True
 |e::es=>fE B e/\gy B es
end
theorem JD: ∀(es eD:List bp),es.length≠eD.length->i7 es eD=false
 |[],[],h=>absurd rfl h
 |[],_::_,_=>by rw[i7]
 |_::_,[],_=>by rw[i7]
 |e::es,f::eD,h=>by rw[i7,JD es eD (by simpa using h),Bool.and_false]
theorem dP.gi{H:J}{ok:Nat->Prop}{bQ:List bp}{kv:I}(h:dP H ok bQ kv):kv.one=true:=by
 rcases h with⟨rfl,_⟩|⟨l,i,cap,ro,els,rfl,_⟩|⟨l,i,cap,rfl,_⟩<;>rfl
theorem dP.aK{H H':J}{ok:Nat->Prop}{bQ:List bp}{kv:I}(h:dP H ok bQ kv)(p:aR H H'):dP H' ok bQ kv:=h.bo (e_.aK p λ_ h=>h)
theorem ea.aK{H H':J}{ok:Nat->Prop}{e:bp}{v:I}(h:ea H ok e v)(p:aR H H'):ea H' ok e v:=ea.bo (e_.aK p λ_ h=>h) e v h
theorem gq.cons{H:J}{ok:Nat->Prop}{e:bp}{es:List bp}{els:List (List I)}{k:Nat}(h:gq H ok (e::es) (els.drop k)): ∃cs,els[k]? =some cs/\ea H ok e (.agg cs)/\gq H ok es (els.drop (k+1)):=by
 cases bd:els.drop k with
 |nil=>rw[bd,gq] at h;exact h.elim
 |cons cs qV=>
  rw[bd,gq] at h;have U:els[k]? =some cs:=by
   have:=List.getElem?_drop (xs:=els) (i:=k) (j:=0);rw[bd] at this;simpa using this.symm
  have aa:els.drop (k+1)=qV:=by
   have:(els.drop k).drop 1=qV:=by rw[bd];rfl
   rwa[List.drop_drop] at this
  exact⟨cs,U,h.1,by rw[aa];exact h.2⟩
theorem ajV{H:J}{a b:f6}{bQ ls:List bp}{kv br:I}(U:kv.one=true)(aa:br.one=true)
  (az: ∀H',aR H H'->W (aq P ao 86 [kv,br] H') λr nF=>r= .bool (i7 bQ ls)/\aR H' nF):
  W (aq P ao 111 [.agg (a.cells kv),.agg (b.cells br)] H) λr H'=>r= .bool (um (.mk a bQ) (.mk b ls))/\aR H H':=by
 refine cP (λ_=>ahR 0) ?_;have dQ: ∀l,eK l (.agg (a.cells kv))=some (.ptr l 0 0,.row false 11 [a.cells kv]):=λl=>h8 l _ (by simp only[f6.cells,List.all_cons,List.all_nil,iF,jO,U,Bool.and_self])
 have ck: ∀l,eK l (.agg (b.cells br))=some (.ptr l 0 0,.row false 11 [b.cells br]):=λl=>h8 l _ (by simp only[f6.cells,List.all_cons,List.all_nil,iF,jO,aa,Bool.and_self])
 have aJ:=(aR.push H (.row false 11 [a.cells kv])).bX (.row false 11 [b.cells br]);rw[um];simp only[f6.cells] at dQ ck aJ ⊢;cases c0:a.kind==b.kind with
 |false=>
  simp-implicitDefEqProofs(disch:=try exact af) only[sW,reduceAdd,reduceLeDiff,reduceIte,aw,dQ,ck,jn,pW,pT,c0];exact a_.2 ⟨by simp only[Bool.false_and,Bool.and_false],aJ⟩
 |true=>
  cases bM:a.n==b.n with
  |false=>
   simp-implicitDefEqProofs(disch:=try exact af) only[sW,reduceAdd,reduceLeDiff,reduceIte,aw,dQ,ck,jn,pW,pT,c0,bM];exact a_.2 ⟨by simp only[Bool.false_and,Bool.and_false],aJ⟩
  |true=>
   cases c2:a.name==b.name with
   |false=>
    simp-implicitDefEqProofs(disch:=try exact af) only[sW,reduceAdd,reduceLeDiff,reduceIte,aw,dQ,ck,jn,pW,pT,c0,bM,c2];exact a_.2 ⟨by simp only[Bool.false_and,Bool.and_false],aJ⟩
   |true=>
    cases c3:(a.eV==b.eV&&a.fT==b.fT) with
    |false=>
     simp-implicitDefEqProofs(disch:=try exact af) only[sW,reduceAdd,reduceLeDiff,reduceIte,aw,dQ,ck,jn,pW,pT,c0,bM,c2,c3];exact a_.2 ⟨by simp only[Bool.false_and,Bool.and_false],aJ⟩
    |true=>
     cases c4:(a.wE==b.wE&&(a.Bc==b.Bc&&a.tv==b.tv)) with
     |false=>
      simp-implicitDefEqProofs(disch:=try exact af) only[sW,reduceAdd,reduceLeDiff,reduceIte,aw,dQ,ck,jn,pW,pT,c0,bM,c2,c3,c4];exact a_.2 ⟨by simp only[Bool.false_and,Bool.and_false],aJ⟩
     |true=>
      cases c5:a.ref==b.ref with
      |false=>
       simp-implicitDefEqProofs(disch:=try exact af) only[sW,reduceAdd,reduceLeDiff,reduceIte,aw,dQ,ck,jn,pW,pT,c0,bM,c2,c3,c4,c5];exact a_.2 ⟨by simp only[Bool.false_and,Bool.and_false],aJ⟩
      |true=>
       simp-implicitDefEqProofs(disch:=try exact af) only[sW,reduceAdd,reduceLeDiff,reduceIte,aw,dQ,ck,jn,pW,pT,c0,bM,c2,c3,c4,c5];refine gP (az _ aJ) ?_;rintro _ cT ⟨rfl,bB⟩;refine⟨bB.1,?_⟩;simp-implicitDefEqProofs(disch:=try exact af) only[sW,bg,bL];exact a_.2 ⟨by simp only[Bool.true_and],aJ.trans bB⟩
theorem ajW{H:J}{a b:f6}{bQ ls:List bp}{kv br:I}(U:kv.one=true)(aa:br.one=true)
  (az: ∀H',aR H H'->W (aq P ao 91 [kv,br,.func (.func 92) [] []] H') λr nF=>r= .bool (i7 bQ ls)/\aR H' nF):
  W (aq P ao 92 [.agg (a.cells kv),.agg (b.cells br)] H) λr H'=>r= .bool (um (.mk a bQ) (.mk b ls))/\aR H H':=by
 refine cP (λ_=>alT 0) ?_;have dQ: ∀l,eK l (.agg (a.cells kv))=some (.ptr l 0 0,.row false 11 [a.cells kv]):=λl=>h8 l _ (by simp only[f6.cells,List.all_cons,List.all_nil,iF,jO,U,Bool.and_self])
 have ck: ∀l,eK l (.agg (b.cells br))=some (.ptr l 0 0,.row false 11 [b.cells br]):=λl=>h8 l _ (by simp only[f6.cells,List.all_cons,List.all_nil,iF,jO,aa,Bool.and_self])
 have aJ:=(aR.push H (.row false 11 [a.cells kv])).bX (.row false 11 [b.cells br]);rw[um];simp only[f6.cells] at dQ ck aJ ⊢;cases c0:a.kind==b.kind with
 |false=>
  simp-implicitDefEqProofs(disch:=try exact af) only[tk,reduceAdd,reduceLeDiff,reduceIte,aw,dQ,ck,jn,pW,pT,c0];exact a_.2 ⟨by simp only[Bool.false_and,Bool.and_false],aJ⟩
 |true=>
  cases bM:a.n==b.n with
  |false=>
   simp-implicitDefEqProofs(disch:=try exact af) only[tk,reduceAdd,reduceLeDiff,reduceIte,aw,dQ,ck,jn,pW,pT,c0,bM];exact a_.2 ⟨by simp only[Bool.false_and,Bool.and_false],aJ⟩
  |true=>
   cases c2:a.name==b.name with
   |false=>
    simp-implicitDefEqProofs(disch:=try exact af) only[tk,reduceAdd,reduceLeDiff,reduceIte,aw,dQ,ck,jn,pW,pT,c0,bM,c2];exact a_.2 ⟨by simp only[Bool.false_and,Bool.and_false],aJ⟩
   |true=>
    cases c3:(a.eV==b.eV&&a.fT==b.fT) with
    |false=>
     simp-implicitDefEqProofs(disch:=try exact af) only[tk,reduceAdd,reduceLeDiff,reduceIte,aw,dQ,ck,jn,pW,pT,c0,bM,c2,c3];exact a_.2 ⟨by simp only[Bool.false_and,Bool.and_false],aJ⟩
    |true=>
     cases c4:(a.wE==b.wE&&(a.Bc==b.Bc&&a.tv==b.tv)) with
     |false=>
      simp-implicitDefEqProofs(disch:=try exact af) only[tk,reduceAdd,reduceLeDiff,reduceIte,aw,dQ,ck,jn,pW,pT,c0,bM,c2,c3,c4];exact a_.2 ⟨by simp only[Bool.false_and,Bool.and_false],aJ⟩
     |true=>
      cases c5:a.ref==b.ref with
      |false=>
       simp-implicitDefEqProofs(disch:=try exact af) only[tk,reduceAdd,reduceLeDiff,reduceIte,aw,dQ,ck,jn,pW,pT,c0,bM,c2,c3,c4,c5];exact a_.2 ⟨by simp only[Bool.false_and,Bool.and_false],aJ⟩
      |true=>
       simp-implicitDefEqProofs(disch:=try exact af) only[tk,reduceAdd,reduceLeDiff,reduceIte,aw,dQ,ck,jn,pW,pT,c0,bM,c2,c3,c4,c5];refine gP (az _ aJ) ?_;rintro _ cT ⟨rfl,bB⟩;refine⟨bB.1,?_⟩;simp-implicitDefEqProofs(disch:=try exact af) only[tk,bg,bL];exact a_.2 ⟨by simp only[Bool.true_and],aJ.trans bB⟩
end
section
def dH.cells(a:dH)(ev bv fw:I):List I:=[.int .i64 a.kind,.str a.name,.str a.eV,.int .i64 a.fT,ev,bv,fw,.int .i64 a.pos,.int .i64 a.ref]
mutual
def h9(H:J)(ok:Nat->Prop):cE->I->Prop
 | .mk a es b c,v=> ∃ev bv fw,v= .agg (a.cells ev bv fw)/\dP H ok es ev/\
  ((bv= .ap/\b.length=0)\/(∃l i cap ro els,bv= .aN l i b.length 9 (Option.map (· +b.length) cap)/\ok l/\H.get l=some (.row ro 9 els)/\gE H ok b (els.drop i))\/ ∃l i cap,bv= .aN l i 0 9 cap/\b.length=0)/\
  ((fw= .ap/\c.length=0)\/(∃l i cap ro els,fw= .aN l i c.length 9 (Option.map (· +c.length) cap)/\ok l/\H.get l=some (.row ro 9 els)/\gE H ok c (els.drop i))\/ ∃l i cap,fw= .aN l i 0 9 cap/\c.length=0)
def gE(H:J)(ok:Nat->Prop):List cE->List (List I)->Prop
 |[],_=>True
 |_::_,[]=>False
 |e::es,cs::qV=>h9 H ok e (.agg cs)/\gE H ok es qV
end
def ez(H:J)(ok:Nat->Prop)(b:List cE)(bv:I):Prop:=(bv= .ap/\b.length=0)\/(∃l i cap ro els,bv= .aN l i b.length 9 (Option.map (· +b.length) cap)/\ok l/\H.get l=some (.row ro 9 els)/\gE H ok b (els.drop i))\/ ∃l i cap,bv= .aN l i 0 9 cap/\b.length=0
theorem rz{H:J}{ok:Nat->Prop}{a:dH}{es:List bp}{b c:List cE}{v:I}:h9 H ok (.mk a es b c) v↔ ∃ev bv fw,v= .agg (a.cells ev bv fw)/\dP H ok es ev/\ez H ok b bv/\ez H ok c fw:=by
 rw[h9];rfl
structure fG(H:J)(ok:Nat->Prop)(H':J)(ok':Nat->Prop):Prop where
 ex:e_ H ok H' ok'
 st: ∀l ro els,ok l->H.get l=some (.row ro 9 els)->ok' l/\H'.get l=some (.row ro 9 els)
section
variable {H H':J}{ok ok':Nat->Prop}
mutual
theorem h9.bo(p:fG H ok H' ok'): ∀(e:cE) (v:I),h9 H ok e v->h9 H' ok' e v
 | .mk a es b c,v,h=>by
  rw[h9] at h ⊢;obtain⟨ev,bv,fw,U,aa,ae,am⟩:=h;refine⟨ev,bv,fw,U,aa.bo p.ex,?_,?_⟩
  ·rcases ae with ae|⟨l,i,cap,ro,els,aI,bc,dq,eZ⟩|ae
   ·exact .inl ae
   ·obtain⟨cD,cu⟩:=p.st l ro els bc dq;exact .inr (.inl ⟨l,i,cap,ro,els,aI,cD,cu,gE.bo p b _ eZ⟩)
   ·exact .inr (.inr ae)
  ·rcases am with ae|⟨l,i,cap,ro,els,aI,bc,dq,eZ⟩|ae
   ·exact .inl ae
   ·obtain⟨cD,cu⟩:=p.st l ro els bc dq;exact .inr (.inl ⟨l,i,cap,ro,els,aI,cD,cu,gE.bo p c _ eZ⟩)
   ·exact .inr (.inr ae)
theorem gE.bo(p:fG H ok H' ok'): ∀(es:List cE) (cs:List (List I)),gE H ok es cs->gE H' ok' es cs
 |[],_,_=>by rw[gE];trivial
 |e::es,[],h=>by rw[gE] at h;exact h.elim
 |e::es,cs::qV,h=>by
  rw[gE] at h ⊢;exact⟨h9.bo p e _ h.1,gE.bo p es qV h.2⟩
end
theorem ez.bo(p:fG H ok H' ok'){b:List cE}{v:I}(h:ez H ok b v):ez H' ok' b v:=by
 rcases h with ae|⟨l,i,cap,ro,els,aI,bc,dq,eZ⟩|ae
 ·exact .inl ae
 ·obtain⟨cD,cu⟩:=p.st l ro els bc dq;exact .inr (.inl ⟨l,i,cap,ro,els,aI,cD,cu,gE.bo p b _ eZ⟩)
 ·exact .inr (.inr ae)
theorem fG.mut{r:Nat}(m:cC r H H')(a8: ¬ok r)(az: ∀l,ok l->ok' l):fG H ok H' ok':=⟨e_.mut m a8 az,λl ro els h e=>⟨az l h,m.get e (by rintro rfl;exact a8 h)⟩⟩
theorem fG.aK(m:aR H H')(az: ∀l,ok l->ok' l):fG H ok H' ok':=⟨e_.aK m az,λl ro els h e=>⟨az l h,m.get e⟩⟩
theorem fG.set{l:Nat}(b:dY)(h: ¬ok l)(az: ∀l,ok l->ok' l):fG H ok (H.set l b) ok':=⟨e_.set b h az,λj ro els bH e=>⟨az j bH,by rw[J.get_set_other (by rintro rfl;exact h bH)];exact e⟩⟩
theorem fG.q4(h: ∀l,ok l->ok' l):fG H ok H ok':=⟨e_.q4 h,λl ro els az e=>⟨h l az,e⟩⟩
theorem ez.gi{b:List cE}{v:I}(h:ez H ok b v):v.one=true:=by
 rcases h with⟨rfl,_⟩|⟨l,i,cap,ro,els,rfl,_⟩|⟨l,i,cap,rfl,_⟩<;>rfl
theorem ez.nil(H:J)(ok:Nat->Prop):ez H ok [] .ap:= .inl ⟨rfl,rfl⟩
theorem h9.cells{e:cE}{v:I}(h:h9 H ok e v): ∃cs,v= .agg cs/\cs.length=9/\cs.all I.one=true:=by
 cases e with|mk a es b c=>
 rw[rz] at h;obtain⟨ev,bv,fw,rfl,U,aa,ae⟩:=h;refine⟨_,rfl,rfl,?_⟩;simp only[dH.cells,List.all_cons,List.all_nil,iF,jO,U.gi,aa.gi,ae.gi,Bool.and_self]
theorem h9.leaf(H:J)(ok:Nat->Prop)(a:dH):h9 H ok (.mk a [] [] []) (.agg (a.cells .ap .ap .ap)):=
 rz.2 ⟨_,_,_,rfl,.inl ⟨rfl,rfl⟩,.inl ⟨rfl,rfl⟩,.inl ⟨rfl,rfl⟩⟩
theorem h9.mut{r:Nat}{e:cE}{v:I}(h:h9 H ok e v)(m:cC r H H')(a8: ¬ok r)(az: ∀l,ok l->ok' l):h9 H' ok' e v:=h9.bo (fG.mut m a8 az) e v h
theorem fG.new{n:Nat}(m:dC (· <n) H H')(az: ∀l,n<=l->ok l):fG H (bI n) H' ok:=
 ⟨λl ro els dD g=>⟨az l dD,m.get g (Nat.not_lt.2 dD)⟩,λl ro els dD g=>⟨az l dD,m.get g (Nat.not_lt.2 dD)⟩⟩
end
def xv(ok:Nat->Prop)(H:J)(r:Nat)(T:List Tok)(ak:I)(e:cE)(s':aA)(v:I)(H':J):Prop:=cC r H H'/\c_ H' r T ak s'/\h9 H' ok e v
abbrev gJ(H:J):=xv (bI H.next) H
theorem gJ.fin{H dR:J}{r:Nat}{T:List Tok}{ak:I}{s s':aA}{a:dH}{es:List bp}{b c:List cE}{ev bv fw:I}{x lo:Nat}(ag:c_ H r T ak s)(m:cC r H dR)(bd:c7 dR r ak s')(U:dP dR (bI lo) es ev)(aa:ez dR (bI lo) b bv)(ae:ez dR (bI lo) c fw)(ax:H.next<=x)(ko:x<lo)(hj:dY):
  gJ H r T ak (.mk a es b c) s' (.agg (a.cells ev bv fw)) (dR.set x hj):=by
 have az:=ag.rd.lt;have fr:=m.db (.inr ax) hj;have k:fG dR (bI lo) (dR.set x hj) (bI H.next):=fG.set _ (by unfold bI;omega) λl az=>by unfold bI at*;omega
 refine⟨fr,ag.mut fr ?_,rz.2 ⟨ev,bv,fw,rfl,U.bo k.ex,aa.bo k,ae.bo k⟩⟩;unfold c7 at bd ⊢;rw[J.get_set_other Z];exact bd
theorem gJ.ret{H bm:J}{r:Nat}{T:List Tok}{ak:I}{s s':aA}{e:cE}{v:I}{b n:Nat}(ag:c_ H r T ak s)(m:cC r H bm)(bd:c7 bm r ak s')(ax:H.next<=b)(he:h9 bm (bI n) e v)(aU:b<n)(hj:dY):gJ H r T ak e s' v (bm.set b hj):=by
 have az:=ag.rd.lt;have fr:=m.db (.inr ax) hj;refine⟨fr,ag.mut fr ?_,h9.bo (fG.set _ (by unfold bI;omega) λl az=>by unfold bI at*;omega) e v he⟩;unfold c7 at bd ⊢;rw[J.get_set_other Z];exact bd
theorem h9.at{H:J}{ok:Nat->Prop}{e:cE}{cs:List I}(h:h9 H ok e (.agg cs))(p:Int):h9 H ok (e.at p) (.agg (cs.set 7 (.int .i64 p))):=by
 cases e with|mk a es b c=>
 rw[rz] at h;obtain⟨ev,bv,fw,aY,U,aa,ae⟩:=h;cases aY;exact rz.2 ⟨ev,bv,fw,rfl,U,aa,ae⟩
set_option linter.defProp false
def d_:=au Mu (au CK (au Mt CJ))
end
section
theorem dP.uz{H:J}{ok:Nat->Prop}{bQ:List bp}{x:I}(ag:dP H ok bQ x)(H':J):dF P H' .len [96] [x]=some (.int .i64 bQ.length):=by
 rcases ag with⟨rfl,aI⟩|⟨eG,i1,bM,gm,o7,rfl,_⟩|⟨eG,i1,bM,rfl,aI⟩
 ·rw[aI];exact LU
 ·exact HK
 ·rw[aI];exact HK
theorem dP.row{H:J}{ok:Nat->Prop}{bQ:List bp}{x:I}(ag:dP H ok bQ x)(h: ¬bQ.length=0): ∃l i cap ro els,x= .aN l i bQ.length 11 cap/\ok l/\H.get l=some (.row ro 11 els)/\gq H ok bQ (els.drop i):=by
 rcases ag with⟨_,aI⟩|U|⟨_,_,_,_,aI⟩
 ·exact absurd aI h
 ·exact U
 ·exact absurd aI h
def xe(F:Nat)(B:Nat)(e:bp):Prop:=fE B e-> ∀(f:bp) (v w:I) (H:J) (ok ok':Nat->Prop),ea H ok e v->ea H ok' f w->W (aq P ao F [v,w] H) λr H'=>r= .bool (um e f)/\aR H H'
theorem gy.mem{B:Nat}: ∀{es:List bp},gy B es-> ∀e∈es,fE B e
 |[],_,e,he=>by simp at he
 |x::xs,h,e,he=>by
  rw[gy] at h;rcases List.mem_cons.1 he with rfl|he
  ·exact h.1
  ·exact gy.mem h.2 e he
theorem bp.P_{a:f6}{bQ:List bp}{e:bp}(h:e∈bQ):SizeOf.sizeOf e<SizeOf.sizeOf (bp.mk a bQ):=by
 have:=List.sizeOf_lt_of_mem h;simp only[bp.mk.sizeOf_spec];omega
theorem Va{N B:Nat}{f7 g7 gW li:Nat}{kc lc:Option Nat}{ju jv:Bool}{hc hd:List (List I)}{ok ok':Nat->Prop}: ∀(es eD:List bp) (j dA n:Nat) (H:J),(∀e∈es,xe 111 B e)->gy B es->gq H ok es (hc.drop (g7+j))->gq H ok' eD (hd.drop (li+j))->es.length=eD.length->dA=j+es.length->dA<=1000000000000->H.get f7=some (.row ju 11 hc)->H.get gW=some (.row jv 11 hd)->es.length<n->
  W (vC (aq P ao) N n (.aN f7 g7 dA 11 kc) (.aN gW li dA 11 lc) (.int .i64 j) H) λr H'=>r= .bool (i7 es eD)/\aR H H'
 |_,_,_,_,0,_,_,_,_,_,_,_,_,_,_,aU=>Z
 |[],[],j,dA,n+1,H,aM,eu,U,aa,ae,am,aB,aG,aP,aU=>by
  have bH: ¬((j:Int)<(dA:Int)):=by simp at am;omega
  simp-implicitDefEqProofs(disch:=try exact af) only[vC,rJ,vB,uO,reduceAdd,reduceLeDiff,reduceIte,aw,bH,decide_false];exact a_.2 ⟨by rw[i7],.refl _⟩
 |[],_::_,j,dA,n+1,H,aM,eu,U,aa,ae,am,aB,aG,aP,aU=>by simp at ae
 |_::_,[],j,dA,n+1,H,aM,eu,U,aa,ae,am,aB,aG,aP,aU=>by simp at ae
 |e::es,f::eD,j,dA,n+1,H,aM,eu,U,aa,ae,am,aB,aG,aP,aU=>by
  simp only[List.length_cons] at ae am aU;have bH:(j:Int)<(dA:Int):=Z;have aY:(0:Int)<=(j:Int):=Z;have bz:((j:Int)).toNat=j:=Z;obtain⟨cs,g1,g2,g3⟩:=U.cons;obtain⟨bU,g4,g5,g6⟩:=aa.cons;obtain⟨_,cD,cu,eH⟩:=g2.cells;cases cD;obtain⟨_,eE,eR,gI⟩:=g5.cells;cases eE;have q6:List.take 11 cs=cs:=List.take_of_length_le Z;have q7:List.take 11 bU=bU:=List.take_of_length_le Z;have eG:=J.aX aG;have fA:=J.aX aP;rw[gy] at eu;have hw:IntKind.i64.wrap ((j:Int)+1)=((j+1:Nat):Int):=by rw[wrap_i64 Z Z];omega
  simp-implicitDefEqProofs(disch:=try exact af) only[vC,rJ,vB,uO,reduceAdd,reduceLeDiff,reduceIte,aw,bH,decide_true,bz,aG,aP,g1,g4,q6,q7];refine a6 (aM e (by simp) eu.1 f _ _ _ ok ok' g2 g5) ?_;rintro _ bm ⟨rfl,aJ⟩;refine⟨aJ.1,?_⟩;cases aS:um e f with
  |false=>
   simp-implicitDefEqProofs(disch:=try exact af) only[rJ,vB,uO,bg,bL,Bool.not_false];exact a_.2 ⟨by rw[i7,aS,Bool.false_and],aJ⟩
  |true=>
   simp-implicitDefEqProofs(disch:=try exact af) only[rJ,vB,uO,bg,bL,ee,Bool.not_true,hw];refine(Va es eD (j+1) dA n bm (λcN l0=>aM cN (by simp[l0])) eu.2 (gq.bo (e_.aK aJ λ_ h=>h) _ _ g3) (gq.bo (e_.aK aJ λ_ h=>h) _ _ g6) Z Z aB (aJ.get aG) (aJ.get aP) Z).mono ?_;rintro v H' ⟨rfl,q⟩;exact⟨by rw[i7,aS,Bool.true_and],aJ.trans q⟩
theorem U4{B:Nat}(ig:B<=1000000000000){H:J}{ok ok':Nat->Prop}{bQ ls:List bp}{kv br:I}(aM: ∀e∈bQ,xe 111 B e)(eu:bQ.length<=B/\gy B bQ)(U:dP H ok bQ kv)(aa:dP H ok' ls br):W (aq P ao 86 [kv,br] H) λr H'=>r= .bool (i7 bQ ls)/\aR H H':=by
 refine cP (λ_=>alR (bQ.length+1)) ?_;have neq: ∀m k:Nat,m≠k->((m:Int) != (k:Int))=true:=λm k h=>by simp;omega
 have Mp: ∀m:Nat,((m:Int) != (m:Int))=false:=λm=>by simp
 have z0:((0:Nat):Int)=0:=rfl;have bM:=U.uz;have c2:=aa.uz;by_cases aU:bQ.length=ls.length
 ·by_cases cn:bQ.length=0
  ·have lq:ls.length=0:=Z;obtain rfl:=List.length_eq_zero_iff.1 cn;obtain rfl:=List.length_eq_zero_iff.1 lq;simp-implicitDefEqProofs(disch:=try exact af) only[vC,rJ,vB,uO,reduceAdd,reduceLeDiff,reduceIte,aw,bM,c2,List.length_nil,z0,bne_self_eq_false,Int.lt_irrefl,decide_false];exact a_.2 ⟨by rw[i7],.refl _⟩
  ·obtain⟨eG,i1,cG,gm,o7,rfl,cR,g1,eo⟩:=U.row cn;obtain⟨fA,i2,dh,e0,qW,rfl,dd,g2,eX⟩:=aa.row Z;rw[<-aU];simp-implicitDefEqProofs(disch:=try exact af) only[rJ,uO,bg,bL,fH,ee,Mp bQ.length];exact Va bQ ls 0 bQ.length (bQ.length+1) H aM eu.2 eo eX aU Z Z g1 g2 Z
 ·have hz:=neq _ _ aU;simp-implicitDefEqProofs(disch:=try exact af) only[rJ,vB,uO,bg,bL,ee,bM,c2,hz];exact a_.2 ⟨by rw[JD _ _ aU],.refl _⟩
theorem Vt{B:Nat}(ig:B<=1000000000000): ∀(e:bp),xe 111 B e
 | .mk a bQ=>by
  intro eu f v w H ok ok' U aa;cases f with|mk b ls=>
  rw[lD] at U aa;obtain⟨kv,rfl,U⟩:=U;obtain⟨br,rfl,aa⟩:=aa;rw[fE] at eu;have aM: ∀e∈bQ,xe 111 B e:=λe he=>Vt ig e
  exact ajV U.gi aa.gi λH' p=>U4 ig aM eu (U.aK p) (aa.aK p)
 termination_by e=>SizeOf.sizeOf e
 decreasing_by exact bp.P_ he
theorem Vb{N B:Nat}{f7 g7 gW li:Nat}{kc lc:Option Nat}{ju jv:Bool}{hc hd:List (List I)}{ok ok':Nat->Prop}: ∀(es eD:List bp) (j dA n:Nat) (H:J),(∀e∈es,xe 92 B e)->gy B es->gq H ok es (hc.drop (g7+j))->gq H ok' eD (hd.drop (li+j))->es.length=eD.length->dA=j+es.length->dA<=1000000000000->H.get f7=some (.row ju 11 hc)->H.get gW=some (.row jv 11 hd)->es.length<n->
  W (vE (aq P ao) N n (.aN gW li dA 11 lc) (.func (.func 92) [] []) (.aN f7 g7 dA 11 kc) (.int .i64 dA) (.int .i64 j) H) λr H'=>r= .bool (i7 es eD)/\aR H H'
 |_,_,_,_,0,_,_,_,_,_,_,_,_,_,_,aU=>Z
 |[],[],j,dA,n+1,H,aM,eu,U,aa,ae,am,aB,aG,aP,aU=>by
  have bH: ¬((j:Int)<(dA:Int)):=by simp at am;omega
  simp-implicitDefEqProofs(disch:=try exact af) only[vE,rK,vD,uP,reduceAdd,reduceLeDiff,reduceIte,aw,bH,decide_false];exact a_.2 ⟨by rw[i7],.refl _⟩
 |[],_::_,j,dA,n+1,H,aM,eu,U,aa,ae,am,aB,aG,aP,aU=>by simp at ae
 |_::_,[],j,dA,n+1,H,aM,eu,U,aa,ae,am,aB,aG,aP,aU=>by simp at ae
 |e::es,f::eD,j,dA,n+1,H,aM,eu,U,aa,ae,am,aB,aG,aP,aU=>by
  simp only[List.length_cons] at ae am aU;have bH:(j:Int)<(dA:Int):=Z;have aY:(0:Int)<=(j:Int):=Z;have bz:((j:Int)).toNat=j:=Z;obtain⟨cs,g1,g2,g3⟩:=U.cons;obtain⟨bU,g4,g5,g6⟩:=aa.cons;obtain⟨_,cD,cu,eH⟩:=g2.cells;cases cD;obtain⟨_,eE,eR,gI⟩:=g5.cells;cases eE;have q6:List.take 11 cs=cs:=List.take_of_length_le Z;have q7:List.take 11 bU=bU:=List.take_of_length_le Z;have eG:=J.aX aG;have fA:=J.aX aP;rw[gy] at eu;have hw:IntKind.i64.wrap ((j:Int)+1)=((j+1:Nat):Int):=by rw[wrap_i64 Z Z];omega
  simp-implicitDefEqProofs(disch:=try exact af) only[vE,rK,vD,uP,reduceAdd,reduceLeDiff,reduceIte,aw,bH,decide_true,bz,aG,aP,g1,g4,q6,q7,cu,eH,eR,gI,List.append_nil];have aV:=(aR.push H (.row false 11 [cs])).bX (.row false 11 [bU]);refine afD ?_;refine a6 (aM e (by simp) eu.1 f _ _ _ ok ok' (g2.aK aV) (g5.aK aV)) ?_;rintro _ bm ⟨rfl,aJ⟩;refine⟨aJ.1,?_⟩;replace aJ:=aV.trans aJ;cases aS:um e f with
  |false=>
   simp-implicitDefEqProofs(disch:=try exact af) only[rK,vD,uP,bg,bL,Bool.not_false];exact a_.2 ⟨by rw[i7,aS,Bool.false_and],aJ⟩
  |true=>
   simp-implicitDefEqProofs(disch:=try exact af) only[rK,vD,uP,bg,bL,ee,Bool.not_true,hw];refine(Vb es eD (j+1) dA n bm (λcN l0=>aM cN (by simp[l0])) eu.2 (gq.bo (e_.aK aJ λ_ h=>h) _ _ g3) (gq.bo (e_.aK aJ λ_ h=>h) _ _ g6) Z Z aB (aJ.get aG) (aJ.get aP) Z).mono ?_;rintro v H' ⟨rfl,q⟩;exact⟨by rw[i7,aS,Bool.true_and],aJ.trans q⟩
theorem U5{B:Nat}(ig:B<=1000000000000){H:J}{ok ok':Nat->Prop}{bQ ls:List bp}{kv br:I}(aM: ∀e∈bQ,xe 92 B e)(eu:bQ.length<=B/\gy B bQ)(U:dP H ok bQ kv)(aa:dP H ok' ls br):W (aq P ao 91 [kv,br,.func (.func 92) [] []] H) λr H'=>r= .bool (i7 bQ ls)/\aR H H':=by
 refine cP (λ_=>alS (bQ.length+1)) ?_;have neq: ∀m k:Nat,m≠k->((m:Int) != (k:Int))=true:=λm k h=>by simp;omega
 have Mp: ∀m:Nat,((m:Int) != (m:Int))=false:=λm=>by simp
 have z0:((0:Nat):Int)=0:=rfl;have bM:=U.uz;have c2:=aa.uz;by_cases aU:bQ.length=ls.length
 ·by_cases cn:bQ.length=0
  ·have lq:ls.length=0:=Z;obtain rfl:=List.length_eq_zero_iff.1 cn;obtain rfl:=List.length_eq_zero_iff.1 lq;simp-implicitDefEqProofs(disch:=try exact af) only[vE,rK,vD,uP,reduceAdd,reduceLeDiff,reduceIte,aw,bM,c2,List.length_nil,z0,bne_self_eq_false,Int.lt_irrefl,decide_false];exact a_.2 ⟨by rw[i7],.refl _⟩
  ·obtain⟨eG,i1,cG,gm,o7,rfl,cR,g1,eo⟩:=U.row cn;obtain⟨fA,i2,dh,e0,qW,rfl,dd,g2,eX⟩:=aa.row Z;rw[<-aU];simp-implicitDefEqProofs(disch:=try exact af) only[rK,uP,bg,bL,fH,ee,Mp bQ.length];exact Vb bQ ls 0 bQ.length (bQ.length+1) H aM eu.2 eo eX aU Z Z g1 g2 Z
 ·have hz:=neq _ _ aU;simp-implicitDefEqProofs(disch:=try exact af) only[rK,vD,uP,bg,bL,ee,bM,c2,hz];exact a_.2 ⟨by rw[JD _ _ aU],.refl _⟩
theorem Vu{B:Nat}(ig:B<=1000000000000): ∀(e:bp),xe 92 B e
 | .mk a bQ=>by
  intro eu f v w H ok ok' U aa;cases f with|mk b ls=>
  rw[lD] at U aa;obtain⟨kv,rfl,U⟩:=U;obtain⟨br,rfl,aa⟩:=aa;rw[fE] at eu;have aM: ∀e∈bQ,xe 92 B e:=λe he=>Vu ig e
  exact ajW U.gi aa.gi λH' p=>U5 ig aM eu (U.aK p) (aa.aK p)
 termination_by e=>SizeOf.sizeOf e
 decreasing_by exact bp.P_ he
end
section
theorem fE.leaf{B:Nat}(a:f6):fE B (.mk a []):=by rw[fE,gy];exact⟨Nat.zero_le _,trivial⟩
theorem fE.one{B:Nat}(ig:2<=B)(a:f6){e:bp}(h:fE B e):fE B (.mk a [e]):=by
 rw[fE,gy,gy];exact⟨by simp;omega,h,trivial⟩
theorem fE.two{B:Nat}(ig:2<=B)(a:f6){e f:bp}(h:fE B e)(bZ:fE B f):fE B (.mk a [e,f]):=by
 rw[fE,gy,gy,gy];exact⟨by simp;omega,h,bZ,trivial⟩
theorem gy.append{B:Nat}{e:bp}(h:fE B e): ∀{l:List bp},gy B l->gy B (l++[e])
 |[],_=>by simp only[List.nil_append];rw[gy,gy];exact⟨h,trivial⟩
 |x::xs,az=>by
  rw[gy] at az;simp only[List.cons_append];rw[gy];exact⟨az.1,gy.append h az.2⟩
structure aj3(T:List Tok)(B n:Nat):Prop where
 row: ∀lev s p,i_ T n lev s=some p->fE B p.1
 lM: ∀lev e s p,fE B e->lM T n lev e s=some p->fE B p.1
 unary: ∀s p,pL T n s=some p->fE B p.1
 sign: ∀x k s p,rS T n x k s=some p->fE B p.1
 chain: ∀s p,rB T n s=some p->fE B p.1
 jl: ∀e s p,fE B e->jl T n e s=some p->fE B p.1
 single: ∀b c s p,ki T n b c s=some p->fE B p.1
 first: ∀s p,og T n s=some p->fE B p.1
 name: ∀s p,ul T n s=some p->fE B p.1
 fresh: ∀s p,sH T n s=some p->fE B p.1
 list: ∀s p,rQ T n s=some p->p.1.length<=B/\gy B p.1
 mm: ∀l s p,l.length+n<=B->gy B l->mm T n l s=some p->p.1.length<=B/\gy B p.1
theorem hX{α β:Type}{x:Option α}{f:α->Option β}{b:β}(h:x.bind f=some b): ∃a,x=some a/\f a=some b:=eW.1 h
theorem Lq(T:List Tok)(B:Nat): ∀n,n+2<=B->aj3 T B n
 |0,_=>by
  constructor<;>intros<;>rename_i h<;>cases h
 |n+1,ig=>by
  have aT:=Lq T B n Z;have aa:2<=B:=Z;refine⟨?_,?_,?_,?_,?_,?_,?_,?_,?_,?_,?_,?_⟩
  ·intro lev s p h;simp only[i_] at h;split at h
   ·exact aT.unary _ _ h
   ·obtain⟨q,g1,g2⟩:=hX h;exact aT.lM _ _ _ _ (aT.row _ _ _ g1) g2
  ·intro lev e s p he h;simp only[Go.Proofs.YtghmbpmaafnodaaGreatDoor.lM] at h;split at h
   ·cases h;exact he
   ·obtain⟨q,g1,g2⟩:=hX h;exact aT.lM _ _ _ _ (fE.two aa _ he (aT.row _ _ _ g1)) g2
  ·intro s p h;simp only[pL,Bool.cond_eq_ite] at h;split at h
   ·exact aT.sign _ _ _ _ h
   ·split at h
    ·exact aT.sign _ _ _ _ h
    ·exact aT.chain _ _ h
  ·intro x k s p h;simp only[rS,Bool.cond_eq_ite] at h;split at h
   ·obtain⟨q,g1,g2⟩:=hX h;cases g2;exact fE.one aa _ (aT.unary _ _ g1)
   ·cases h;exact fE.leaf _
  ·intro s p h;simp only[rB] at h;obtain⟨q,g1,g2⟩:=hX h;exact aT.jl _ _ _ (aT.first _ _ g1) g2
  ·intro e s p he h;simp only[Go.Proofs.YtghmbpmaafnodaaGreatDoor.jl,Bool.cond_eq_ite] at h;split at h
   ·split at h
    ·exact aT.jl _ _ _ (fE.one aa _ he) h
    ·split at h
     ·obtain⟨q,g1,g2⟩:=hX h;exact aT.jl _ _ _ (fE.two aa _ he (aT.single _ _ _ _ g1)) g2
     ·cases h;exact he
   ·cases h;exact he
  ·intro b c s p h;simp only[ki,Bool.cond_eq_ite] at h;split at h
   ·obtain⟨q,g1,g2⟩:=hX h;cases g2;exact aT.row _ _ q g1
   ·cases h;exact fE.leaf _
  ·intro s p h;simp only[og,Bool.cond_eq_ite] at h;split at h
   ·cases h;exact fE.leaf _
   ·split at h
    ·cases h;exact fE.leaf _
    ·split at h
     ·exact aT.name _ _ h
     ·split at h
      ·split at h
       ·split at h
        ·exact aT.single _ _ _ _ h
        ·cases h;exact fE.leaf _
       ·split at h
        ·cases h;exact fE.leaf _
        ·split at h
         ·cases h;exact fE.leaf _
         ·split at h
          ·exact aT.fresh _ _ h
          ·split at h
           ·obtain⟨q,g1,g2⟩:=hX h;cases g2;exact fE.one aa _ (aT.single _ _ _ _ g1)
           ·split at h
            ·cases h;exact fE.leaf _
            ·cases h;exact fE.leaf _
      ·cases h;exact fE.leaf _
  ·intro s p h;simp only[ul,Bool.cond_eq_ite] at h;split at h
   ·obtain⟨q,g1,g2⟩:=hX h;cases g2;rw[fE];exact aT.list _ _ g1
   ·cases h;exact fE.leaf _
  ·intro s p h;simp only[sH,Bool.cond_eq_ite] at h;split at h
   ·obtain⟨q,g1,g2⟩:=hX h;cases g2;exact fE.one aa _ (aT.single _ _ _ _ g1)
   ·cases h;exact fE.leaf _
  ·intro s p h;simp only[rQ,Bool.cond_eq_ite] at h;split at h
   ·split at h
    ·cases h;exact⟨Nat.zero_le _,by rw[gy];trivial⟩
    ·obtain⟨q,g1,g2⟩:=hX h;exact aT.mm _ _ _ (by simp;omega) (by rw[gy,gy];exact⟨aT.row _ _ _ g1,trivial⟩) g2
   ·cases h;exact⟨Nat.zero_le _,by rw[gy];trivial⟩
  ·intro l s p az eu h;simp only[Go.Proofs.YtghmbpmaafnodaaGreatDoor.mm,Bool.cond_eq_ite] at h;split at h
   ·obtain⟨q,g1,g2⟩:=hX h;exact aT.mm _ _ _ (by simp;omega) (gy.append (aT.row _ _ _ g1) eu) g2
   ·cases h;exact⟨by show l.length<=B;omega,eu⟩
end
section
theorem DR(T:List Tok)(s:aA):left T s<=T.length:=by unfold left;split<;>omega
theorem acU{T:List Tok}(aH:T.length<=20000000)(at_ bR:Int): ∃e s cN s',i_ T 800000000 0 (lI at_ bR)=some (e,s)/\jF T 800000000 0 (lI at_ bR)=some (cN,s')/\lF cN s'=lF e s/\fE 1000000000 (lF e s).1:=by
 obtain⟨p,q,U,aa,ae,am⟩:=Gv (T:=T) Z T.length (lI at_ bR) (DR _ _) 0 800000000 800000000 Z Z Z;refine⟨p.1,p.2,q.1,q.2,U,aa,?_,?_⟩
 ·rcases ae with⟨h,rfl⟩|⟨h,bV,ax⟩
  ·rfl
  ·have bZ: ¬q.2.aC=0:=by rw[bV];exact h
   simp only[lF,if_neg h,if_neg bZ,bV,ax]
 ·unfold lF;split
  ·exact(Lq T 1000000000 800000000 Z).row _ _ _ U
  ·exact fE.leaf _
end
section
set_option maxRecDepth 100000
noncomputable section
def Ae(G:av)(Y:I)(H:J):O:=
 cy H [(.int .i64 0),(.str []),(.int .i64 0),(.int .i64 0)] λan U=>
 ab (b5 Y) λba=>
 ab (aE P 112 ba 1) λbb=>
 ab (aj P U 3 bb) λbu=>
 ab (aW P .lss 3 true bu (.int .i64 0)) λbx=>
 aD bx false U (di Y) λbE aa=>
 aD bx false aa (bh (b5 bE)) λcq ae=>
 aD bx false ae (bh (aE P 112 cq 1)) λb1 am=>
 aD bx false am (qr (aj P am 3 b1)) λcb aB=>
 aD bx false aB (di Y) λb6 aG=>
 aD bx false aG (bh (b5 b6)) λbT aP=>
 aD bx false aP (bh (aE P 112 bT 0)) λbW bq=>
 aD bx false bq (qr (aj P bq 50 bW)) λbG bJ=>
 aD bx false bJ (λq=>iu (dF P .empty .len [50] [bG]) (dF P bJ .len [50] [bG]) q) λcc co=>
 aD bx false co (bh (aW P .geq 3 false cb cc)) λcK ds=>
 ab (cX bx (some (.bool true)) (some cK)) λcM=>
 bO (some cM) (a7 ds (aQ P ds 57 an (.agg [(.int .i64 0),(.str []),(.int .i64 0),(.int .i64 0)])) λdV=>
 ab (aj P dV 57 an) λr=>
 some (r,dV)) (ab (b5 Y) λcz=>
 ab (aE P 112 cz 0) λcH=>
 ab (aj P ds 50 cH) λc1=>
 ab (b5 Y) λdt=>
 ab (aE P 112 dt 1) λdc=>
 ab (aj P ds 3 dc) λdT=>
 ab (dS P 50 c1 dT) λdJ=>
 ab (aj P ds 57 dJ) λcF=>
 a7 ds (aQ P ds 57 an cF) λdV=>
 ab (aj P dV 57 an) λr=>
 some (r,dV))
theorem agq(G:av)(N:Nat)(Y:I)(H:J):bn Tryz.f123 G N (cB [Y]) H=Ae G Y H:=by
 refine cL (A:=bn Tryz.f123 G N) (aL _) ?_;delta Ae;kernel_rfl
theorem ahY(N:Nat){Y:I}{H:J}{r:I×J}(h:Ae (aq P ao) Y H=some r):aq P ao 123 [Y] H=some r:=
 cQ ad Tryz.func123 ad ad ad ((agq (aq P ao) N Y H).trans h)
def IX(G:av)(Y:I)(H:J):O:=
 ab (b5 Y) λba=>
 ab (aE P 112 ba 3) λbb=>
 ab (aE P 29 bb 0) λbu=>
 ab (aj P H 27 bu) λbx=>
 ab (aW P .neq 27 true bx (.int .i64 0)) λbS=>
 some (bS,H)
theorem ajC(G:av)(N:Nat)(Y:I)(H:J):bn Tryz.f75 G N (cB [Y]) H=IX G Y H:=by
 refine cL (A:=bn Tryz.f75 G N) (aL _) ?_;delta IX;kernel_rfl
theorem alG(N:Nat){Y:I}{H:J}{r:I×J}(h:IX (aq P ao) Y H=some r):aq P ao 75 [Y] H=some r:=
 cQ ad Tryz.func75 ad ad ad ((ajC (aq P ao) N Y H).trans h)
def Aa(G:av)(Y ai:I)(H:J):O:=
 aO H (G 75 [Y] H) λbb U=>
 ab (eY .not bb) λbu=>
 bO (some bu) (aO U (G 123 [Y] U) λcq aa=>
 ab (d8 P 57 cq 3) λb1=>
 ab (cO P 29 [(0,ai),(1,b1)]) λcb=>
 ab (b5 Y) λb6=>
 ab (aE P 112 b6 3) λbT=>
 a7 aa (aQ P aa 29 bT cb) λae=>
 some (.tuple [],ae)) (some (.tuple [],U))
theorem agb(G:av)(N:Nat)(Y:I)(ai:I)(H:J):bn Tryz.f104 G N (cB [Y,ai]) H=Aa G Y ai H:=by
 refine cL (A:=bn Tryz.f104 G N) (aL _) ?_;delta Aa;kernel_rfl
theorem ahK(N:Nat){Y ai:I}{H:J}{r:I×J}(h:Aa (aq P ao) Y ai H=some r):aq P ao 104 [Y,ai] H=some r:=
 cQ ad Tryz.func104 ad ad ad ((agb (aq P ao) N Y ai H).trans h)
def xX(G:av)(Y ai an:I)(H:J):O:=
 aO H (G 123 [Y] H) λbE U=>
 cy U [(.int .i64 0),(.str []),(.int .i64 0),(.int .i64 0)] λbx aa=>
 a7 aa (aQ P aa 57 bx bE) λae=>
 aO ae (G 75 [Y] ae) λb1 am=>
 ab (eY .not b1) λcb=>
 aD cb true am (bh (aE P 57 bx 0)) λbT aB=>
 aD cb true aB (qr (aj P aB 3 bT)) λbW aG=>
 aD cb true aG (di ai) λbG aP=>
 aD cb true aP (bh (aW P .eql 3 false bW bG)) λcc bq=>
 ab (cX cb (some cc) (some (.bool false))) λcK=>
 aD cK true bq (bh (aE P 57 bx 1)) λcA bJ=>
 aD cK true bJ (qr (aj P bJ 9 cA)) λcx co=>
 aD cK true co (di an) λcz ds=>
 aD cK true ds (bh (aW P .eql 9 false cx cz)) λcH dV=>
 ab (cX cK (some cH) (some (.bool false))) λc1=>
 some (c1,dV)
theorem aga(G:av)(N:Nat)(Y:I)(ai:I)(an:I)(H:J):bn Tryz.f103 G N (cB [Y,ai,an]) H=xX G Y ai an H:=by
 refine cL (A:=bn Tryz.f103 G N) (aL _) ?_;delta xX;kernel_rfl
theorem ahJ(N:Nat){Y ai an:I}{H:J}{r:I×J}(h:xX (aq P ao) Y ai an H=some r):aq P ao 103 [Y,ai,an] H=some r:=
 cQ ad Tryz.func103 ad ad ad ((aga (aq P ao) N Y ai an H).trans h)
def CA(G:av)(Y ai an:I)(H:J):O:=
 aO H (G 103 [Y,ai,an] H) λcq U=>
 ab (eY .not cq) λb1=>
 bO (some b1) (some ((.bool false),U)) (ab (b5 Y) λb6=>
 ab (aE P 112 b6 1) λbT=>
 ab (aj P U 3 bT) λbW=>
 ab (aW P .add 3 true bW (.int .i64 1)) λbG=>
 ab (b5 Y) λcc=>
 ab (aE P 112 cc 1) λcK=>
 a7 U (aQ P U 3 cK bG) λaa=>
 some ((.bool true),aa))
theorem agt(G:av)(N:Nat)(Y:I)(ai:I)(an:I)(H:J):bn Tryz.f126 G N (cB [Y,ai,an]) H=CA G Y ai an H:=by
 refine cL (A:=bn Tryz.f126 G N) (aL _) ?_;delta CA;kernel_rfl
theorem ah1(N:Nat){Y ai an:I}{H:J}{r:I×J}(h:CA (aq P ao) Y ai an H=some r):aq P ao 126 [Y,ai,an] H=some r:=
 cQ ad Tryz.func126 ad ad ad ((agt (aq P ao) N Y ai an H).trans h)
def Cz(G:av)(Y ai:I)(H:J):O:=
 aO H (G 126 [Y,(.int .i64 4),ai] H) λbu U=>
 ab (eY .not bu) λbx=>
 bO (some bx) (aO U (G 104 [Y,(.int .i64 2)] U) λbE aa=>
 some (.tuple [],aa)) (some (.tuple [],U))
theorem age(G:av)(N:Nat)(Y:I)(ai:I)(H:J):bn Tryz.f107 G N (cB [Y,ai]) H=Cz G Y ai H:=by
 refine cL (A:=bn Tryz.f107 G N) (aL _) ?_;delta Cz;kernel_rfl
theorem ahN(N:Nat){Y ai:I}{H:J}{r:I×J}(h:Cz (aq P ao) Y ai H=some r):aq P ao 107 [Y,ai] H=some r:=
 cQ ad Tryz.func107 ad ad ad ((age (aq P ao) N Y ai H).trans h)
def EH(G:av)(Y ai an:I)(H:J):O:=
 dv H (eK (H).next an) λbb U=>
 ab (aE P 29 bb 0) λbu=>
 ab (aj P U 27 bu) λbx=>
 ab (aW P .neq 27 true bx (.int .i64 0)) λbS=>
 bO (some bS) (ab (aj P U 29 bb) λcq=>
 ab (b5 Y) λb1=>
 ab (aE P 112 b1 3) λcb=>
 a7 U (aQ P U 29 cb cq) λaa=>
 some (.tuple [],aa)) (ab (b5 Y) λbW=>
 ab (aE P 112 bW 1) λbG=>
 a7 U (aQ P U 3 bG ai) λaa=>
 some (.tuple [],aa))
theorem agJ(G:av)(N:Nat)(Y:I)(ai:I)(an:I)(H:J):bn Tryz.f154 G N (cB [Y,ai,an]) H=EH G Y ai an H:=by
 refine cL (A:=bn Tryz.f154 G N) (aL _) ?_;delta EH;kernel_rfl
theorem aig(N:Nat){Y ai an:I}{H:J}{r:I×J}(h:EH (aq P ao) Y ai an H=some r):aq P ao 154 [Y,ai,an] H=some r:=
 cQ ad Tryz.func154 ad ad ad ((agJ (aq P ao) N Y ai an H).trans h)
def x1(G:av)(Y:I)(H:J):O:=
 cy H [(.int .i64 0),(.int .i64 0),(.str []),(.str []),(.int .i64 0),I.ap,(.int .i64 0),(.int .i64 0),(.int .i64 0),(.int .i64 0),(.int .i64 0)] λan U=>
 aO U (G 75 [Y] U) λbx aa=>
 bO (some bx) (a7 aa (aQ P aa 103 an (.agg [(.int .i64 0),(.int .i64 0),(.str []),(.str []),(.int .i64 0),I.ap,(.int .i64 0),(.int .i64 0),(.int .i64 0),(.int .i64 0),(.int .i64 0)])) λae=>
 ab (aj P ae 103 an) λr=>
 some (r,ae)) (ab (b5 Y) λb1=>
 ab (aE P 112 b1 0) λcb=>
 ab (aj P aa 50 cb) λb6=>
 ab (b5 Y) λbW=>
 ab (aE P 112 bW 1) λbG=>
 ab (aj P aa 3 bG) λcc=>
 ab (b5 Y) λcM=>
 ab (aE P 112 cM 2) λcA=>
 ab (aj P aa 3 cA) λcx=>
 aO aa (G 153 [b6,cc,cx] aa) λcz ae=>
 ab (gT cz 0) λcH=>
 cy ae [(.int .i64 0),(.int .i64 0),(.str []),(.str []),(.int .i64 0),I.ap,(.int .i64 0),(.int .i64 0),(.int .i64 0),(.int .i64 0),(.int .i64 0)] λay am=>
 cy am [(.int .i64 0),(.int .i64 0)] λbb aB=>
 a7 aB (aQ P aB 103 ay cH) λaG=>
 ab (gT cz 1) λc1=>
 ab (gT cz 2) λdn=>
 a7 aG (aQ P aG 29 bb dn) λaP=>
 bif ((cj (aj P aa 50 cb) b6&&true)&&((cj (aj P aa 3 bG) cc&&true)&&((cj (aj P aa 3 cA) cx&&true)&&true))) then(ab (aj P aP 29 bb) λdT=>
 aO aP (G 154 [Y,c1,dT] aP) λdJ bq=>
 ab (aj P bq 103 ay) λcF=>
 a7 bq (aQ P bq 103 an cF) λbJ=>
 ab (aj P bJ 103 an) λr=>
 some (r,bJ)) else none)
theorem agy(G:av)(N:Nat)(Y:I)(H:J):bn Tryz.f137 G N (cB [Y]) H=x1 G Y H:=by
 refine cL (A:=bn Tryz.f137 G N) (aL _) ?_;delta x1;kernel_rfl
theorem ah6(N:Nat){Y:I}{H:J}{r:I×J}(h:x1 (aq P ao) Y H=some r):aq P ao 137 [Y] H=some r:=
 cQ ad Tryz.func137 ad ad ad ((agy (aq P ao) N Y H).trans h)
def w8(G:av)(Y ay ba:I)(H:J):O:=
 ab (b5 Y) λbG=>
 ab (aE P 112 bG 1) λcc=>
 ab (aj P H 3 cc) λcK=>
 ab (aW P .add 3 true cK (.int .i64 1)) λcM=>
 ab (b5 Y) λcA=>
 ab (aE P 112 cA 1) λcx=>
 a7 H (aQ P H 3 cx cM) λU=>
 aO U (G 107 [Y,(.str [58])] U) λcH aa=>
 aO aa (G 75 [Y] aa) λdn ae=>
 bO (some dn) (a7 ae (aQ P ae 43 ay (.agg [(.str []),(.int .i64 0)])) λam=>
 ab (aj P am 43 ay) λr=>
 some (.tuple [(.str []),r],am)) (ab (b5 Y) λdJ=>
 ab (aE P 112 dJ 0) λcF=>
 ab (aj P ae 50 cF) λeC=>
 ab (b5 Y) λei=>
 ab (aE P 112 ei 1) λfh=>
 ab (aj P ae 3 fh) λej=>
 aO ae (G 73 [eC,ej] ae) λdW am=>
 ab (gT dW 0) λef=>
 cy am [(.str []),(.int .i64 0)] λbb aB=>
 cy aB [(.int .i64 0),(.int .i64 0)] λbx aG=>
 a7 aG (aQ P aG 43 bb ef) λaP=>
 ab (gT dW 1) λfo=>
 ab (gT dW 2) λfv=>
 a7 aP (aQ P aP 29 bx fv) λbq=>
 bif ((cj (aj P ae 50 cF) eC&&true)&&((cj (aj P ae 3 fh) ej&&true)&&true)) then(ab (aj P bq 29 bx) λgb=>
 aO bq (G 154 [Y,fo,gb] bq) λgM bJ=>
 ab (aE P 57 ba 1) λe4=>
 ab (aj P bJ 9 e4) λgR=>
 ab (aj P bJ 43 bb) λgB=>
 a7 bJ (aQ P bJ 43 ay gB) λco=>
 ab (aj P co 43 ay) λr=>
 some (.tuple [gR,r],co)) else none)
theorem ack(G:av)(N:Nat): ∀R H,cw P G N (Code.snd (Code.snd (Code.snd (c6 Tryz.f155)))) (bY Tryz.f155) [] (bY Tryz.f155) R H=w8 G (R 0) (R 3) (R 4) H:=by
 refine dj (aL _) λR H=> ?_
 delta w8;kernel_rfl
def r2(G:av)(Y:I)(H:J):O:=
 cy H [(.str []),(.int .i64 0)] λay U=>
 aO U (G 123 [Y] U) λbE aa=>
 cy aa [(.int .i64 0),(.str []),(.int .i64 0),(.int .i64 0)] λba ae=>
 a7 ae (aQ P ae 57 ba bE) λam=>
 ab (aE P 57 ba 0) λcq=>
 ab (aj P am 3 cq) λb1=>
 ab (aW P .neq 3 true b1 (.int .i64 1)) λcb=>
 bO (some cb) (aO am (G 104 [Y,(.int .i64 2)] am) λbT aB=>
 w8 G Y ay ba aB) (w8 G Y ay ba am)
theorem agK(G:av)(N:Nat)(Y:I)(H:J):bn Tryz.f155 G N (cB [Y]) H=r2 G Y H:=by
 refine cL (A:=bn Tryz.f155 G N) ((bk ad ((bk ad ((bk ad (ack G N) (aL _))) (aL _))) (aL _))) ?_;delta r2;generalize w8 G=a1;revert a1;refine id ?_;intro a1;kernel_rfl
theorem aih(N:Nat){Y:I}{H:J}{r:I×J}(h:r2 (aq P ao) Y H=some r):aq P ao 155 [Y] H=some r:=
 cQ ad Tryz.func155 ad ad ad ((agK (aq P ao) N Y H).trans h)
def yU(G:av)(N:Nat)(bx:I)(H:J):O:=
 some (bx,H)
theorem abY(G:av)(N:Nat): ∀R H,cw P G N (Code.snd (Code.snd (Code.snd (c6 Tryz.f105)))) (bY Tryz.f105) [] (bY Tryz.f105) R H=yU G N (R 7) H:=by
 refine dj (aL _) λR H=> ?_
 delta yU;kernel_rfl
def DU(G:av)(N:Nat)(bD:I->I->I->I->J->O)(Y ai:I)(an bx:I)(H:J):O:=
 aO H (G 75 [Y] H) λbE U=>
 ab (eY .not bE) λcq=>
 aD cq true U (di Y) λcb aa=>
 aD cq true aa (di ai) λb6 ae=>
 aD cq true ae (λq=>fk ae (G 103 [cb,(.int .i64 4),b6] ae) q) λbT am=>
 aD cq true am (bh (eY .not bT)) λbW aB=>
 ab (cX cq (some bW) (some (.bool false))) λbG=>
 bO (some bG) (qJ G aB an [] λcM aG=>
 dv aG (dK P (aG).next 44 1 [(0,cM)]) λcA aP=>
 aO aP (fQ P aP [44,44] bx cA) λcx bq=>
 bD Y ai an cx bq) (yU G N bx aB)
def yV(G:av)(N:Nat):Nat->I->I->I->I->J->O
 |0,_,_,_,_,_=>none
 |n+1,Y,ai,an,bx,H=>DU G N (yV G N n) Y ai an bx H
theorem abX(G:av)(N:Nat)(bD:I->I->I->I->J->O): ∀R H,cw P G N (Code.fst (Code.fst (Code.fst (Code.snd (Code.snd (c6 Tryz.f105)))))) (λR H=>bD (R 0) (R 1) (R 2) (R 7) H) [(0,(λR H=>yU G N (R 7) H))] (bY Tryz.f105) R H=DU G N bD (R 0) (R 1) (R 2) (R 7) H:=by
 refine dj (aL _) λR H=> ?_
 delta DU;generalize yU G N=a1;revert a1;refine id ?_;intro a1;kernel_rfl
def vS(G:av)(N:Nat)(Y ai an:I)(H:J):O:=
 yV G N N Y ai an I.ap H
theorem agc(G:av)(N:Nat)(Y:I)(ai:I)(an:I)(H:J):bn Tryz.f105 G N (cB [Y,ai,an]) H=vS G N Y ai an H:=by
 refine cL (A:=bn Tryz.f105 G N) ((bk ad ((bk ad ((bk ad (abY G N) ((fy ad ((gg (k:=λm R H=>yV G N m (R 0) (R 1) (R 2) (R 7) H) ad (λR H=>ad) (λm=>abX G N (yV G N m)))))))) (aL _))) (aL _))) ?_;delta vS;generalize yV G N N=a1;revert a1;refine id ?_;intro a1;kernel_rfl
theorem ahL(N:Nat){Y ai an:I}{H:J}{r:I×J}(h:vS (aq P ao) N Y ai an H=some r):aq P ao 105 [Y,ai,an] H=some r:=
 cQ ad Tryz.func105 ad ad ad ((agc (aq P ao) N Y ai an H).trans h)
def ys(G:av)(Y:I)(H:J):O:=
 aO H (G 103 [Y,(.int .i64 4),(.str [123])] H) λbu U=>
 ab (eY .not bu) λbx=>
 bO (some bx) (aO U (G 104 [Y,(.int .i64 2)] U) λbE aa=>
 some (I.ap,aa)) (ab (b5 Y) λcb=>
 ab (aE P 112 cb 2) λb6=>
 ab (aj P U 3 b6) λbT=>
 ab (aW P .geq 3 true bT (.int .i64 50)) λbW=>
 bO (some bW) (aO U (G 104 [Y,(.int .i64 4)] U) λcc aa=>
 some (I.ap,aa)) (ab (b5 Y) λcM=>
 ab (aE P 112 cM 1) λcA=>
 ab (aj P U 3 cA) λcx=>
 ab (aW P .add 3 true cx (.int .i64 1)) λcz=>
 ab (b5 Y) λcH=>
 ab (aE P 112 cH 1) λc1=>
 a7 U (aQ P U 3 c1 cz) λaa=>
 ab (b5 Y) λdt=>
 ab (aE P 112 dt 2) λdc=>
 ab (aj P aa 3 dc) λdT=>
 ab (aW P .add 3 true dT (.int .i64 1)) λdJ=>
 ab (b5 Y) λcF=>
 ab (aE P 112 cF 2) λeC=>
 a7 aa (aQ P aa 3 eC dJ) λae=>
 aO ae (G 105 [Y,(.str [125]),(.func (.func 106) [Y] [])] ae) λej am=>
 ab (b5 Y) λef=>
 ab (aE P 112 ef 2) λfo=>
 ab (aj P am 3 fo) λfv=>
 ab (aW P .sub 3 true fv (.int .i64 1)) λfi=>
 ab (b5 Y) λfU=>
 ab (aE P 112 fU 2) λgb=>
 a7 am (aQ P am 3 gb fi) λaB=>
 aO aB (G 107 [Y,(.str [125])] aB) λe4 aG=>
 some (ej,aG)))
theorem ajB(G:av)(N:Nat)(Y:I)(H:J):bn Tryz.f74 G N (cB [Y]) H=ys G Y H:=by
 refine cL (A:=bn Tryz.f74 G N) (aL _) ?_;delta ys;kernel_rfl
theorem alF(N:Nat){Y:I}{H:J}{r:I×J}(h:ys (aq P ao) Y H=some r):aq P ao 74 [Y] H=some r:=
 cQ ad Tryz.func74 ad ad ad ((ajB (aq P ao) N Y H).trans h)
def wZ(G:av)(Y an:I)(ay ba:I)(H:J):O:=
 qJ G H ba [Y] λdT U=>
 cy U [(.int .i64 0),(.str []),(.str []),(.int .i64 0),I.ap,I.ap,I.ap,(.int .i64 0),(.int .i64 0)] λbu aa=>
 a7 aa (aQ P aa 98 bu dT) λae=>
 ab (aE P 57 ay 3) λdJ=>
 ab (aj P ae 3 dJ) λcF=>
 ab (aE P 98 bu 6) λeC=>
 a7 ae (aQ P ae 3 eC cF) λam=>
 ab (aj P am 98 bu) λdy=>
 a7 am (aQ P am 98 an dy) λaB=>
 ab (aj P aB 98 an) λr=>
 some (r,aB)
theorem abZ(G:av)(N:Nat): ∀R H,cw P G N (Code.snd (Code.snd (Code.snd (Code.snd (c6 Tryz.f106))))) (bY Tryz.f106) [] (bY Tryz.f106) R H=wZ G (R 0) (R 2) (R 3) (R 4) H:=by
 refine dj (aL _) λR H=> ?_
 delta wZ;kernel_rfl
def vT(G:av)(Y:I)(H:J):O:=
 cy H [(.int .i64 0),(.str []),(.str []),(.int .i64 0),I.ap,I.ap,I.ap,(.int .i64 0),(.int .i64 0)] λan U=>
 aO U (G 123 [Y] U) λbS aa=>
 cy aa [(.int .i64 0),(.str []),(.int .i64 0),(.int .i64 0)] λay ae=>
 a7 ae (aQ P ae 57 ay bS) λam=>
 ab (aE P 57 ay 0) λbE=>
 ab (aj P am 3 bE) λcq=>
 ab (aW P .eql 3 true cq (.int .i64 3)) λb1=>
 bO (some b1) (aO am (G 125 [] am) λcb aB=>
 ab (aE P 57 ay 1) λb6=>
 ab (aj P aB 9 b6) λbT=>
 ab (nX P aB 144 cb bT false) λbW=>
 bif ((cj (aj P am 9 b6) bT&&cj (aj P aB 9 b6) bT)&&true) then(ab (aW P .neq 143 true bW I.nilFunc) λcc=>
 bO (some cc) (ab (b5 Y) λcM=>
 ab (aE P 112 cM 1) λcA=>
 ab (aj P aB 3 cA) λcx=>
 ab (aW P .add 3 true cx (.int .i64 1)) λcz=>
 ab (b5 Y) λcH=>
 ab (aE P 112 cH 1) λc1=>
 a7 aB (aQ P aB 3 c1 cz) λaG=>
 wZ G Y an ay bW aG) (wZ G Y an ay (.func (.func 124) [] []) aB)) else none) (wZ G Y an ay (.func (.func 124) [] []) am)
theorem agd(G:av)(N:Nat)(Y:I)(H:J):bn Tryz.f106 G N (cB [Y]) H=vT G Y H:=by
 refine cL (A:=bn Tryz.f106 G N) ((bk ad ((bk ad ((bk ad ((bk ad (abZ G N) (aL _))) (aL _))) (aL _))) (aL _))) ?_;delta vT;generalize wZ G=a1;revert a1;refine id ?_;intro a1;kernel_rfl
theorem ahM(N:Nat){Y:I}{H:J}{r:I×J}(h:vT (aq P ao) Y H=some r):aq P ao 106 [Y] H=some r:=
 cQ ad Tryz.func106 ad ad ad ((agd (aq P ao) N Y H).trans h)
def HS(G:av)(H:J):O:=
 dv H (some (.map (H).next,.map [])) λai U=>
 a7 U (jk P U 144 ai (.str [118,97,114]) (.func (.func 139) [] [])) λaa=>
 a7 aa (jk P aa 144 ai (.str [108,101,116]) (.func (.func 140) [] [])) λae=>
 a7 ae (jk P ae 144 ai (.str [105,102]) (.func (.func 141) [] [])) λam=>
 a7 am (jk P am 144 ai (.str [119,104,105,108,101]) (.func (.func 142) [] [])) λaB=>
 a7 aB (jk P aB 144 ai (.str [114,101,116,117,114,110]) (.func (.func 143) [] [])) λaG=>
 a7 aG (jk P aG 144 ai (.str [112,114,105,110,116]) (.func (.func 144) [] [])) λaP=>
 some (ai,aP)
theorem ags(G:av)(N:Nat)(H:J):bn Tryz.f125 G N (cB []) H=HS G H:=by
 refine cL (A:=bn Tryz.f125 G N) (aL _) ?_;delta HS;kernel_rfl
theorem ah0(N:Nat){H:J}{r:I×J}(h:HS (aq P ao) H=some r):aq P ao 125 [] H=some r:=
 cQ ad Tryz.func125 ad ad ad ((ags (aq P ao) N H).trans h)
def CC(G:av)(Y:I)(H:J):O:=
 cy H [(.int .i64 0),(.str []),(.str []),(.int .i64 0),I.ap,I.ap,I.ap,(.int .i64 0),(.int .i64 0)] λan U=>
 aO U (G 155 [Y] U) λbx aa=>
 ab (gT bx 0) λbS=>
 ab (gT bx 1) λbE=>
 cy aa [(.str []),(.int .i64 0)] λba ae=>
 a7 ae (aQ P ae 43 ba bE) λam=>
 aO am (G 107 [Y,(.str [59])] am) λb1 aB=>
 ab (aj P aB 43 ba) λb6=>
 ab (cO P 98 [(0,(.int .i64 1)),(1,bS),(2,b6)]) λbT=>
 a7 aB (aQ P aB 98 an bT) λaG=>
 ab (aj P aG 98 an) λr=>
 some (r,aG)
theorem agA(G:av)(N:Nat)(Y:I)(H:J):bn Tryz.f139 G N (cB [Y]) H=CC G Y H:=by
 refine cL (A:=bn Tryz.f139 G N) (aL _) ?_;delta CC;kernel_rfl
theorem ah8(N:Nat){Y:I}{H:J}{r:I×J}(h:CC (aq P ao) Y H=some r):aq P ao 139 [Y] H=some r:=
 cQ ad Tryz.func139 ad ad ad ((agA (aq P ao) N Y H).trans h)
def x2(G:av)(Y:I)(H:J):O:=
 cy H [(.int .i64 0),(.str []),(.str []),(.int .i64 0),I.ap,I.ap,I.ap,(.int .i64 0),(.int .i64 0)] λan U=>
 aO U (G 155 [Y] U) λbS aa=>
 ab (gT bS 0) λbE=>
 ab (gT bS 1) λcq=>
 cy aa [(.str []),(.int .i64 0)] λba ae=>
 a7 ae (aQ P ae 43 ba cq) λam=>
 aO am (G 107 [Y,(.str [61])] am) λcb aB=>
 aO aB (G 137 [Y] aB) λbT aG=>
 cy aG [(.int .i64 0),(.int .i64 0),(.str []),(.str []),(.int .i64 0),I.ap,(.int .i64 0),(.int .i64 0),(.int .i64 0),(.int .i64 0),(.int .i64 0)] λbb aP=>
 a7 aP (aQ P aP 103 bb bT) λbq=>
 aO bq (G 107 [Y,(.str [59])] bq) λbG bJ=>
 ab (aj P bJ 43 ba) λcK=>
 ab (aj P bJ 103 bb) λcM=>
 dv bJ (dK P (bJ).next 96 1 [(0,cM)]) λcA co=>
 ab (cO P 98 [(0,(.int .i64 2)),(1,bE),(2,cK),(3,cA)]) λcx=>
 a7 co (aQ P co 98 an cx) λds=>
 ab (aj P ds 98 an) λr=>
 some (r,ds)
theorem agB(G:av)(N:Nat)(Y:I)(H:J):bn Tryz.f140 G N (cB [Y]) H=x2 G Y H:=by
 refine cL (A:=bn Tryz.f140 G N) (aL _) ?_;delta x2;kernel_rfl
theorem ah9(N:Nat){Y:I}{H:J}{r:I×J}(h:x2 (aq P ao) Y H=some r):aq P ao 140 [Y] H=some r:=
 cQ ad Tryz.func140 ad ad ad ((agB (aq P ao) N Y H).trans h)
def y1(G:av)(an ay:I)(H:J):O:=
 ab (aj P H 98 ay) λbW=>
 a7 H (aQ P H 98 an bW) λU=>
 ab (aj P U 98 an) λr=>
 some (r,U)
theorem acd(G:av)(N:Nat): ∀R H,cw P G N (Code.snd (Code.snd (Code.snd (c6 Tryz.f141)))) (bY Tryz.f141) [] (bY Tryz.f141) R H=y1 G (R 2) (R 3) H:=by
 refine dj (aL _) λR H=> ?_
 delta y1;kernel_rfl
def vU(G:av)(Y:I)(H:J):O:=
 cy H [(.int .i64 0),(.str []),(.str []),(.int .i64 0),I.ap,I.ap,I.ap,(.int .i64 0),(.int .i64 0)] λan U=>
 aO U (G 137 [Y] U) λbb aa=>
 dv aa (dK P (aa).next 96 1 [(0,bb)]) λbu ae=>
 aO ae (G 74 [Y] ae) λbS am=>
 ab (cO P 98 [(0,(.int .i64 5)),(3,bu),(4,bS)]) λbE=>
 cy am [(.int .i64 0),(.str []),(.str []),(.int .i64 0),I.ap,I.ap,I.ap,(.int .i64 0),(.int .i64 0)] λay aB=>
 a7 aB (aQ P aB 98 ay bE) λaG=>
 aO aG (G 126 [Y,(.int .i64 3),(.str [101,108,115,101])] aG) λb1 aP=>
 bO (some b1) (aO aP (G 74 [Y] aP) λb6 bq=>
 ab (aE P 98 ay 5) λbT=>
 a7 bq (aQ P bq 44 bT b6) λbJ=>
 y1 G an ay bJ) (y1 G an ay aP)
theorem agC(G:av)(N:Nat)(Y:I)(H:J):bn Tryz.f141 G N (cB [Y]) H=vU G Y H:=by
 refine cL (A:=bn Tryz.f141 G N) ((bk ad ((bk ad ((bk ad (acd G N) (aL _))) (aL _))) (aL _))) ?_;delta vU;generalize y1 G=a1;revert a1;refine id ?_;intro a1;kernel_rfl
theorem ah_(N:Nat){Y:I}{H:J}{r:I×J}(h:vU (aq P ao) Y H=some r):aq P ao 141 [Y] H=some r:=
 cQ ad Tryz.func141 ad ad ad ((agC (aq P ao) N Y H).trans h)
def CD(G:av)(Y:I)(H:J):O:=
 cy H [(.int .i64 0),(.str []),(.str []),(.int .i64 0),I.ap,I.ap,I.ap,(.int .i64 0),(.int .i64 0)] λan U=>
 aO U (G 137 [Y] U) λba aa=>
 dv aa (dK P (aa).next 96 1 [(0,ba)]) λbb ae=>
 aO ae (G 74 [Y] ae) λbx am=>
 ab (cO P 98 [(0,(.int .i64 6)),(3,bb),(4,bx)]) λbS=>
 a7 am (aQ P am 98 an bS) λaB=>
 ab (aj P aB 98 an) λr=>
 some (r,aB)
theorem agD(G:av)(N:Nat)(Y:I)(H:J):bn Tryz.f142 G N (cB [Y]) H=CD G Y H:=by
 refine cL (A:=bn Tryz.f142 G N) (aL _) ?_;delta CD;kernel_rfl
theorem aia(N:Nat){Y:I}{H:J}{r:I×J}(h:CD (aq P ao) Y H=some r):aq P ao 142 [Y] H=some r:=
 cQ ad Tryz.func142 ad ad ad ((agD (aq P ao) N Y H).trans h)
def y2(G:av)(Y an ay:I)(H:J):O:=
 aO H (G 107 [Y,(.str [59])] H) λb6 U=>
 ab (aj P U 98 ay) λbT=>
 a7 U (aQ P U 98 an bT) λaa=>
 ab (aj P aa 98 an) λr=>
 some (r,aa)
theorem ace(G:av)(N:Nat): ∀R H,cw P G N (Code.snd (Code.snd (Code.snd (c6 Tryz.f143)))) (bY Tryz.f143) [] (bY Tryz.f143) R H=y2 G (R 0) (R 2) (R 3) H:=by
 refine dj (aL _) λR H=> ?_
 delta y2;kernel_rfl
def x3(G:av)(Y:I)(H:J):O:=
 cy H [(.int .i64 0),(.str []),(.str []),(.int .i64 0),I.ap,I.ap,I.ap,(.int .i64 0),(.int .i64 0)] λan U=>
 cy U [(.int .i64 0),(.str []),(.str []),(.int .i64 0),I.ap,I.ap,I.ap,(.int .i64 0),(.int .i64 0)] λay aa=>
 a7 aa (aQ P aa 98 ay (.agg [(.int .i64 7),(.str []),(.str []),(.int .i64 0),I.ap,I.ap,I.ap,(.int .i64 0),(.int .i64 0)])) λae=>
 aO ae (G 103 [Y,(.int .i64 4),(.str [59])] ae) λbu am=>
 ab (eY .not bu) λbx=>
 bO (some bx) (aO am (G 137 [Y] am) λbE aB=>
 dv aB (dK P (aB).next 96 1 [(0,bE)]) λcq aG=>
 ab (aE P 98 ay 3) λb1=>
 a7 aG (aQ P aG 96 b1 cq) λaP=>
 y2 G Y an ay aP) (y2 G Y an ay am)
theorem agE(G:av)(N:Nat)(Y:I)(H:J):bn Tryz.f143 G N (cB [Y]) H=x3 G Y H:=by
 refine cL (A:=bn Tryz.f143 G N) ((bk ad ((bk ad ((bk ad (ace G N) (aL _))) (aL _))) (aL _))) ?_;delta x3;generalize y2 G=a1;revert a1;refine id ?_;intro a1;kernel_rfl
theorem aib(N:Nat){Y:I}{H:J}{r:I×J}(h:x3 (aq P ao) Y H=some r):aq P ao 143 [Y] H=some r:=
 cQ ad Tryz.func143 ad ad ad ((agE (aq P ao) N Y H).trans h)
def CE(G:av)(Y:I)(H:J):O:=
 cy H [(.int .i64 0),(.str []),(.str []),(.int .i64 0),I.ap,I.ap,I.ap,(.int .i64 0),(.int .i64 0)] λan U=>
 aO U (G 137 [Y] U) λbb aa=>
 cy aa [(.int .i64 0),(.int .i64 0),(.str []),(.str []),(.int .i64 0),I.ap,(.int .i64 0),(.int .i64 0),(.int .i64 0),(.int .i64 0),(.int .i64 0)] λay ae=>
 a7 ae (aQ P ae 103 ay bb) λam=>
 aO am (G 107 [Y,(.str [59])] am) λbx aB=>
 ab (aj P aB 103 ay) λbS=>
 dv aB (dK P (aB).next 96 1 [(0,bS)]) λbE aG=>
 ab (cO P 98 [(0,(.int .i64 8)),(3,bE)]) λcq=>
 a7 aG (aQ P aG 98 an cq) λaP=>
 ab (aj P aP 98 an) λr=>
 some (r,aP)
theorem agF(G:av)(N:Nat)(Y:I)(H:J):bn Tryz.f144 G N (cB [Y]) H=CE G Y H:=by
 refine cL (A:=bn Tryz.f144 G N) (aL _) ?_;delta CE;kernel_rfl
theorem aic(N:Nat){Y:I}{H:J}{r:I×J}(h:CE (aq P ao) Y H=some r):aq P ao 144 [Y] H=some r:=
 cQ ad Tryz.func144 ad ad ad ((agF (aq P ao) N Y H).trans h)
def yY(G:av)(Y an ay:I)(H:J):O:=
 aO H (G 107 [Y,(.str [59])] H) λcx U=>
 ab (aj P U 103 ay) λcz=>
 dv U (dK P (U).next 96 1 [(0,cz)]) λcH aa=>
 ab (cO P 98 [(0,(.int .i64 9)),(3,cH)]) λc1=>
 a7 aa (aQ P aa 98 an c1) λae=>
 ab (aj P ae 98 an) λr=>
 some (r,ae)
theorem ab6(G:av)(N:Nat): ∀R H,cw P G N (Code.snd (Code.snd (Code.snd (Code.snd (c6 Tryz.f124))))) (bY Tryz.f124) [] (bY Tryz.f124) R H=yY G (R 0) (R 2) (R 3) H:=by
 refine dj (aL _) λR H=> ?_
 delta yY;kernel_rfl
def r1(G:av)(Y:I)(H:J):O:=
 cy H [(.int .i64 0),(.str []),(.str []),(.int .i64 0),I.ap,I.ap,I.ap,(.int .i64 0),(.int .i64 0)] λan U=>
 aO U (G 137 [Y] U) λbb aa=>
 cy aa [(.int .i64 0),(.int .i64 0),(.str []),(.str []),(.int .i64 0),I.ap,(.int .i64 0),(.int .i64 0),(.int .i64 0),(.int .i64 0),(.int .i64 0)] λay ae=>
 a7 ae (aQ P ae 103 ay bb) λam=>
 aO am (G 103 [Y,(.int .i64 4),(.str [61])] am) λbx aB=>
 bO (some bx) (ab (aj P aB 103 ay) λbE=>
 aO aB (G 138 [Y,bE] aB) λcq aG=>
 a7 aG (aQ P aG 98 an cq) λaP=>
 ab (aj P aP 98 an) λr=>
 some (r,aP)) (aO aB (G 103 [Y,(.int .i64 4),(.str [59])] aB) λcb aG=>
 aD cb true aG (bh (aE P 103 ay 0)) λbT aP=>
 aD cb true aP (qr (aj P aP 3 bT)) λbW bq=>
 aD cb true bq (bh (aW P .neq 3 true bW (.int .i64 7))) λbG bJ=>
 ab (cX cb (some bG) (some (.bool false))) λcc=>
 bO (some cc) (aO bJ (G 104 [Y,(.int .i64 2)] bJ) λcM co=>
 yY G Y an ay co) (yY G Y an ay bJ))
theorem agr(G:av)(N:Nat)(Y:I)(H:J):bn Tryz.f124 G N (cB [Y]) H=r1 G Y H:=by
 refine cL (A:=bn Tryz.f124 G N) ((bk ad ((bk ad ((bk ad ((bk ad (ab6 G N) (aL _))) (aL _))) (aL _))) (aL _))) ?_;delta r1;generalize yY G=a1;revert a1;refine id ?_;intro a1;kernel_rfl
theorem ahZ(N:Nat){Y:I}{H:J}{r:I×J}(h:r1 (aq P ao) Y H=some r):aq P ao 124 [Y] H=some r:=
 cQ ad Tryz.func124 ad ad ad ((agr (aq P ao) N Y H).trans h)
def w5(G:av)(Y ay ba:I)(H:J):O:=
 aO H (G 107 [Y,(.str [61])] H) λcz U=>
 aO U (G 137 [Y] U) λc1 aa=>
 cy aa [(.int .i64 0),(.int .i64 0),(.str []),(.str []),(.int .i64 0),I.ap,(.int .i64 0),(.int .i64 0),(.int .i64 0),(.int .i64 0),(.int .i64 0)] λbb ae=>
 a7 ae (aQ P ae 103 bb c1) λam=>
 aO am (G 107 [Y,(.str [59])] am) λdt aB=>
 ab (aE P 103 ay 0) λdc=>
 ab (aj P aB 3 dc) λdT=>
 ab (aW P .eql 3 true dT (.int .i64 4)) λdJ=>
 bO (some dJ) (ab (aE P 103 ay 2) λcF=>
 ab (aj P aB 9 cF) λeC=>
 ab (aj P aB 103 bb) λdy=>
 dv aB (dK P (aB).next 96 1 [(0,dy)]) λei aG=>
 ab (cO P 98 [(0,(.int .i64 3)),(1,eC),(3,ei)]) λfh=>
 a7 aG (aQ P aG 98 ba fh) λaP=>
 ab (aj P aP 98 ba) λr=>
 some (r,aP)) (ab (aj P aB 103 ay) λej=>
 ab (aj P aB 103 bb) λdW=>
 dv aB (dK P (aB).next 96 2 [(0,ej),(1,dW)]) λef aG=>
 ab (cO P 98 [(0,(.int .i64 4)),(3,ef)]) λfo=>
 a7 aG (aQ P aG 98 ba fo) λaP=>
 ab (aj P aP 98 ba) λr=>
 some (r,aP))
theorem acb(G:av)(N:Nat): ∀R H,cw P G N (Code.snd (Code.snd (c6 Tryz.f138))) (bY Tryz.f138) [] (bY Tryz.f138) R H=w5 G (R 0) (R 3) (R 4) H:=by
 refine dj (aL _) λR H=> ?_
 delta w5;kernel_rfl
def sX(G:av)(Y ai:I)(H:J):O:=
 dv H (eK (H).next ai) λay U=>
 cy U [(.int .i64 0),(.str []),(.str []),(.int .i64 0),I.ap,I.ap,I.ap,(.int .i64 0),(.int .i64 0)] λba aa=>
 ab (aE P 103 ay 0) λbu=>
 ab (aj P aa 3 bu) λbx=>
 ab (aW P .neq 3 true bx (.int .i64 4)) λbS=>
 aD bS true aa (bh (aE P 103 ay 0)) λcq ae=>
 aD bS true ae (qr (aj P ae 3 cq)) λb1 am=>
 aD bS true am (bh (aW P .neq 3 true b1 (.int .i64 5))) λcb aB=>
 ab (cX bS (some cb) (some (.bool false))) λb6=>
 aD b6 true aB (bh (aE P 103 ay 0)) λbW aG=>
 aD b6 true aG (qr (aj P aG 3 bW)) λbG aP=>
 aD b6 true aP (bh (aW P .neq 3 true bG (.int .i64 6))) λcc bq=>
 ab (cX b6 (some cc) (some (.bool false))) λcK=>
 bO (some cK) (aO bq (G 104 [Y,(.int .i64 2)] bq) λcA bJ=>
 w5 G Y ay ba bJ) (w5 G Y ay ba bq)
theorem agz(G:av)(N:Nat)(Y:I)(ai:I)(H:J):bn Tryz.f138 G N (cB [Y,ai]) H=sX G Y ai H:=by
 refine cL (A:=bn Tryz.f138 G N) ((bk ad ((bk ad (acb G N) (aL _))) (aL _))) ?_;delta sX;generalize w5 G=a1;revert a1;refine id ?_;intro a1;kernel_rfl
theorem ah7(N:Nat){Y ai:I}{H:J}{r:I×J}(h:sX (aq P ao) Y ai H=some r):aq P ao 138 [Y,ai] H=some r:=
 cQ ad Tryz.func138 ad ad ad ((agz (aq P ao) N Y ai H).trans h)
def AP(G:av)(Y ai an:I)(H:J):O:=
 cy H [(.int .i64 0),(.int .i64 0)] λbS U=>
 bg P .max [3,3] [an,(.int .i64 0)] U λbT=>
 ab (cO P 112 [(0,Y),(1,ai),(2,bT)]) λbW=>
 dv U (eK (U).next bW) λbG aa=>
 aO aa (G 74 [bG] aa) λcK ae=>
 aO ae (G 75 [bG] ae) λcA am=>
 bO (some cA) (ab (b5 bG) λcz=>
 ab (aE P 112 cz 3) λcH=>
 ab (aj P am 29 cH) λc1=>
 a7 am (aQ P am 29 bS c1) λaB=>
 ab (aj P aB 29 bS) λr=>
 some (.tuple [I.ap,(.int .i64 0),r],aB)) (ab (b5 bG) λdc=>
 ab (aE P 112 dc 1) λdT=>
 ab (aj P am 3 dT) λdJ=>
 a7 am (aQ P am 29 bS (.agg [(.int .i64 0),(.int .i64 0)])) λaB=>
 ab (aj P aB 29 bS) λr=>
 some (.tuple [cK,dJ,r],aB))
theorem ajk(G:av)(N:Nat)(Y:I)(ai:I)(an:I)(H:J):bn Tryz.f55 G N (cB [Y,ai,an]) H=AP G Y ai an H:=by
 refine cL (A:=bn Tryz.f55 G N) (aL _) ?_;delta AP;kernel_rfl
theorem alo(N:Nat){Y ai an:I}{H:J}{r:I×J}(h:AP (aq P ao) Y ai an H=some r):aq P ao 55 [Y,ai,an] H=some r:=
 cQ ad Tryz.func55 ad ad ad ((ajk (aq P ao) N Y ai an H).trans h)
end
end
section
theorem Gp{H:J}{r:Nat}{ak:I}{s:aA}{T:List Tok}(a8:c7 H r ak s)(bz:ih H ak T):W (aq P ao 123 [.ptr r 0 0] H) λv H'=>v=(ar T s.at_).v/\aR H H':=by
 unfold c7 at a8;have az:=J.aX a8;refine cP (λ_=>ahY 0) ?_;by_cases aY:s.at_<0
 ·simp-implicitDefEqProofs(disch:=try exact af) only[Ae,reduceAdd,reduceLeDiff,reduceIte,aw,a8,aY,decide_true,a_];exact⟨by simp[ar,aY,Tok.v,Tok.none],aR.push _ _⟩
 ·rcases bz with⟨rfl,rfl⟩|⟨l,i,cap,rfl,jI⟩
  ·have U:(0:Int)<=s.at_:=Z;simp-implicitDefEqProofs(disch:=try exact af) only[Ae,reduceAdd,reduceLeDiff,reduceIte,aw,a8,aY,U,decide_true,decide_false,a_,Eh];exact⟨by simp[ar,aY,Tok.v,Tok.none,U],aR.push _ _⟩
  ·by_cases U:(T.length:Int)<=s.at_
   ·simp-implicitDefEqProofs(disch:=try exact af) only[Ae,reduceAdd,reduceLeDiff,reduceIte,aw,a8,aY,U,decide_true,decide_false,a_,xT];exact⟨by simp[ar,aY,Tok.v,Tok.none,U],aR.push _ _⟩
   ·have et:s.at_.toNat<T.length:=Z;obtain⟨ro,els,aa,ae⟩:=jI.resolve_left (by rintro rfl;simp at et);have l1:=J.aX aa;have am:=ae s.at_.toNat T[s.at_.toNat] (by simp[et]);simp only[Tok.cells] at am;simp-implicitDefEqProofs(disch:=try exact af) only[Ae,reduceAdd,reduceLeDiff,reduceIte,aw,a8,aY,U,decide_true,decide_false,a_,xT,Ey,aa,am];refine⟨?_,aR.push _ _⟩;simp[ar,aY,U,Tok.v,et]
theorem Bf{H:J}{r:Nat}{ak:I}{s:aA}(a8:c7 H r ak s):W (aq P ao 75 [.ptr r 0 0] H) λv H'=>v= .bool (s.aC != 0)/\H'=H:=by
 unfold c7 at a8;refine cP (λ_=>alG 0) ?_;simp-implicitDefEqProofs(disch:=try exact af) only[IX,reduceAdd,reduceLeDiff,reduceIte,aw,a8];exact a_.2 ⟨rfl,rfl⟩
theorem Bp{H:J}{r:Nat}{T:List Tok}{ak:I}{s:aA}(ag:c_ H r T ak s)(e:Int):W (aq P ao 104 [.ptr r 0 0,.int .i64 e] H) λv H'=>v= .tuple []/\cC r H H'/\c_ H' r T ak (cS T e s):=by
 refine cP (λ_=>ahK 0) ?_;have a8:=ag.rd;have de:=ag.cf.one;rw[Aa];refine a6 (Bf a8) ?_;rintro _ H1 ⟨rfl,rfl⟩;refine⟨bN _,?_⟩;by_cases U:s.aC=0
 ·rw[show cS T e s={s with aC:=e,cv:=(ar T s.at_).pos} by simp[cS,U]];simp-implicitDefEqProofs(disch:=try exact af) only[Aa,bg,bL,U,bne_self_eq_false];refine a6 (Gp a8 ag.cf) ?_;rintro _ bm ⟨rfl,aJ⟩;refine⟨aJ.1,?_⟩;have cI:c7 bm r ak s:=a8.aK aJ;have fM:=cI;unfold c7 at fM;simp-implicitDefEqProofs(disch:=try exact af) only[Aa,reduceAdd,reduceLeDiff,reduceIte,aw,Tok.v,fM,de];obtain⟨m,bd⟩:=h5 cI {s with aC:=e,cv:=(ar T s.at_).pos};exact a_.2 ⟨rfl,(aJ.mut _).trans m,ag.mut ((aJ.mut _).trans m) bd⟩
 ·have ft:(s.aC != 0)=true:=by simpa using U
  rw[show cS T e s=s by simp[cS,U]];simp-implicitDefEqProofs(disch:=try exact af) only[Aa,bg,bL,ft];exact a_.2 ⟨rfl,dC.refl _ _,ag⟩
theorem BC{H:J}{r:Nat}{ak:I}{s:aA}{T:List Tok}(a8:c7 H r ak s)(bz:ih H ak T)(k:Int)(x:List UInt8):W (aq P ao 103 [.ptr r 0 0,.int .i64 k,.str x] H) λv H'=>v= .bool (b7 T s k x)/\aR H H':=by
 refine cP (λ_=>ahJ 0) ?_;rw[xX];refine a6 (Gp a8 bz) ?_;rintro _ H1 ⟨rfl,aV⟩;refine⟨aV.1,?_⟩;simp-implicitDefEqProofs(disch:=try exact af) only[xX,reduceAdd,reduceLeDiff,reduceIte,aw,Tok.v];refine a6 (Bf (a8.aK (aV.bX _))) ?_;rintro _ bm ⟨rfl,rfl⟩;refine⟨bN _,?_⟩;by_cases U:s.aC=0
 ·by_cases aa:(ar T s.at_).kind=k
  ·simp-implicitDefEqProofs(disch:=try exact af) only[xX,reduceAdd,reduceLeDiff,reduceIte,aw,a_,U,aa,bne_self_eq_false,Bool.not_false,beq_self_eq_true];exact⟨by simp[b7,U,aa],aV.bX _⟩
  ·have hq:((ar T s.at_).kind==k)=false:=by simpa using aa
   simp-implicitDefEqProofs(disch:=try exact af) only[xX,reduceAdd,reduceLeDiff,reduceIte,aw,a_,U,hq,bne_self_eq_false,Bool.not_false];exact⟨by simp[b7,aa],aV.bX _⟩
 ·have ft:(s.aC != 0)=true:=by simpa using U
  simp-implicitDefEqProofs(disch:=try exact af) only[xX,reduceAdd,reduceLeDiff,reduceIte,aw,a_,ft,Bool.not_true];exact⟨by simp[b7,U],aV.bX _⟩
theorem Pc{H:J}{r:Nat}{T:List Tok}{ak:I}{s:aA}(ag:c_ H r T ak s)(k:Int)(x:List UInt8):W (aq P ao 126 [.ptr r 0 0,.int .i64 k,.str x] H) λv H'=>v= .bool (fj T k x s).1/\cC r H H'/\c_ H' r T ak (fj T k x s).2:=by
 refine cP (λ_=>ah1 0) ?_;have de:=ag.cf.one;rw[CA];refine a6 (BC ag.rd ag.cf k x) ?_;rintro _ H1 ⟨rfl,aV⟩;refine⟨aV.1,?_⟩;have cI:=ag.rd.aK aV;have fM:=cI;unfold c7 at fM;cases ax:b7 T s k x with
 |false=>
  rw[show fj T k x s=(false,s) by simp[fj,ax]];simp-implicitDefEqProofs(disch:=try exact af) only[CA,reduceAdd,reduceLeDiff,reduceIte,aw,Bool.not_false];exact a_.2 ⟨rfl,aV.mut _,ag.aK aV⟩
 |true=>
  rw[show fj T k x s=(true,aF s) by simp[fj,ax]];simp-implicitDefEqProofs(disch:=try exact af) only[CA,reduceAdd,reduceLeDiff,reduceIte,aw,fM,de,Bool.not_true];obtain⟨m,bd⟩:=h5 cI (aF s);exact a_.2 ⟨rfl,(aV.mut _).trans m,ag.mut ((aV.mut _).trans m) bd⟩
theorem tz{H:J}{r:Nat}{T:List Tok}{ak:I}{s:aA}(ag:c_ H r T ak s)(x:List UInt8):W (aq P ao 107 [.ptr r 0 0,.str x] H) λv H'=>v= .tuple []/\cC r H H'/\c_ H' r T ak (cZ T x s).2:=by
 refine cP (λ_=>ahN 0) ?_;rw[Cz];refine a6 (Pc ag 4 x) ?_;rintro _ H1 ⟨rfl,m1,du⟩;refine⟨m1.1,?_⟩;cases ax:b7 T s 4 x with
 |false=>
  rw[show fj T 4 x s=(false,s) by simp[fj,ax]] at du ⊢;rw[show cZ T x s=(false,cS T 2 s) by simp[cZ,ax]];simp-implicitDefEqProofs(disch:=try exact af) only[Cz,reduceAdd,reduceLeDiff,reduceIte,aw,Bool.not_false];refine a6 (Bp du 2) ?_;rintro _ bm ⟨rfl,m2,cJ⟩;refine⟨m2.1,?_⟩;exact a_.2 ⟨rfl,m1.trans m2,cJ⟩
 |true=>
  rw[show fj T 4 x s=(true,aF s) by simp[fj,ax]] at du ⊢;rw[show cZ T x s=(true,aF s) by simp[cZ,ax]];simp-implicitDefEqProofs(disch:=try exact af) only[Cz,reduceAdd,reduceLeDiff,reduceIte,aw,Bool.not_true];exact a_.2 ⟨rfl,m1,du⟩
def sO(at_ e a:Int)(s:aA):aA:=if e≠0 then {s with aC:=e,cv:=a} else {s with at_:=at_}
theorem PT{H:J}{r:Nat}{T:List Tok}{ak:I}{s:aA}(ag:c_ H r T ak s)(at_ e a:Int):W (aq P ao 154 [.ptr r 0 0,.int .i64 at_,.agg [.int .i64 e,.int .i64 a]] H) λv H'=>v= .tuple []/\cC r H H'/\c_ H' r T ak (sO at_ e a s):=by
 refine cP (λ_=>aig 0) ?_;have de:=ag.cf.one;have az:=ag.rd.lt;have ij: ∀l,eK l (.agg [.int .i64 e,.int .i64 a])=some (.ptr l 0 0,.row false 2 [[.int .i64 e,.int .i64 a]]):=λl=>h8 l _ rfl
 have aV:=aR.push H (.row false 2 [[.int .i64 e,.int .i64 a]]);have cI:=ag.rd.aK aV;have fM:=cI;unfold c7 at fM;by_cases he:e=0
 ·have ax:(e != 0)=false:=by simp[he]
  rw[show sO at_ e a s={s with at_:=at_} by simp[sO,he]];obtain⟨m,bd⟩:=h5 cI {s with at_:=at_};simp-implicitDefEqProofs(disch:=try exact af) only[EH,reduceAdd,reduceLeDiff,reduceIte,aw,ij,ax,fM,de];exact a_.2 ⟨rfl,(aV.mut _).trans m,ag.mut ((aV.mut _).trans m) bd⟩
 ·have ax:(e != 0)=true:=by simpa using he
  rw[show sO at_ e a s={s with aC:=e,cv:=a} by simp[sO,he]];obtain⟨m,bd⟩:=h5 cI {s with aC:=e,cv:=a};simp-implicitDefEqProofs(disch:=try exact af) only[EH,reduceAdd,reduceLeDiff,reduceIte,aw,ij,ax,fM,de];exact a_.2 ⟨rfl,(aV.mut _).trans m,ag.mut ((aV.mut _).trans m) bd⟩
end
section
theorem ih.same{H:J}{v:I}{T:List Tok}(h:ih H v T):cj (some v) v=true:=by
 rcases h with⟨rfl,_⟩|⟨l,i,cap,rfl,_⟩
 ·exact J9
 ·exact u7 _ _ _ _ _
theorem abk{T:List Tok}{s ps:aA}{e:bp}(al:s.aC=0)(h:i_ T 800000000 0 (lI s.at_ s.bR)=some (e,ps)):eU T s=((lF e ps).1,sO (lF e ps).2.1 (lF e ps).2.2.1 (lF e ps).2.2.2 s):=by
 unfold eU;rw[if_neg (by simp[al]),h];by_cases aa:ps.aC=0
 ·simp[lF,sO,aa]
 ·simp[lF,sO,aa]
theorem yH{H:J}{r:Nat}{T:List Tok}{ak:I}{s:aA}(aH:T.length<=20000000)(ag:c_ H r T ak s):W (aq P ao 137 [.ptr r 0 0] H) (hn H r T ak (eU T s).1 (eU T s).2):=by
 refine cP (λ_=>ah6 0) ?_;have az:=ag.rd.lt;have de:=ag.cf.one;have aV:=aR.push H (.row false 11 [[.int .i64 0,.int .i64 0,.str [],.str [],.int .i64 0,.ap,.int .i64 0,.int .i64 0,.int .i64 0,.int .i64 0,.int .i64 0]]);simp-implicitDefEqProofs(disch:=try exact af) only[x1,reduceAdd,reduceLeDiff,reduceIte,aw];refine a6 (Bf (ag.rd.aK aV)) ?_;rintro _ H1 ⟨rfl,rfl⟩;refine⟨bN _,?_⟩;have du:=ag.aK aV;by_cases al:s.aC=0
 ·obtain⟨e,ps,-,-,U,-,-,-⟩:=acU aH s.at_ s.bR;rw[abk al U];have iU:=du.rd;unfold c7 at iU;simp-implicitDefEqProofs(disch:=try exact af) only[x1,reduceAdd,reduceLeDiff,reduceIte,aw,al,bne_self_eq_false,iU];refine a6 (abK Z du.cf s.at_ s.bR U) ?_;rintro _ bm ⟨v,rfl,bA,aJ⟩;refine⟨aJ.1,?_⟩;have cU:=aJ.1;simp only[J.b2] at cU;obtain⟨cs,rfl,fB,cR⟩:=bA.cells;have LJ:=ag.cf.same;generalize lF e ps=q at bA ⊢;have t1:List.take 11 cs=cs:=List.take_of_length_le Z;simp-implicitDefEqProofs(disch:=try exact af) only[x1,reduceAdd,reduceLeDiff,reduceIte,aw,J.io,fB,cR,List.append_nil,iU,LJ,Bool.and_self];have bB:=(aR.push bm (.row false 11 [cs])).bX (.row false 2 [[.int .i64 q.2.2.1,.int .i64 q.2.2.2]])
  refine a6 (PT ((du.aK aJ).aK bB) q.2.1 q.2.2.1 q.2.2.2) ?_;rintro _ cT ⟨rfl,m3,e2⟩;refine⟨m3.1,?_⟩;have b3:=m3.1;simp only[J.b2] at b3;have g3:cT.get bm.next=some (.row false 11 [cs]):=m3.get (by simp-implicitDefEqProofs(disch:=try exact af) only[dB]) Z
  have g2:=m3.get (bB.get (aJ.get (J.ca H (.row false 11 [[.int .i64 0,.int .i64 0,.str [],.str [],.int .i64 0,.ap,.int .i64 0,.int .i64 0,.int .i64 0,.int .i64 0,.int .i64 0]])))) Z;have fA:=J.aX g2;simp-implicitDefEqProofs(disch:=try exact af) only[x1,reduceAdd,reduceLeDiff,reduceIte,aw,g2,g3,fB,cR,t1,List.append_nil];refine a_.2 (hn.ret ag ((((aV.trans aJ).trans bB).mut _).trans m3) e2.rd (bN _) (n:=H.next+1) ((bA.mut (r:=r) (ok':=bI (H.next+1)) ((bB.mut _).trans m3) (by unfold bI;simp only[J.b2];omega) λl az=>by unfold bI at*;simp only[J.b2] at az;omega)) (Nat.lt_succ_self _) _)
 ·have e1:(s.aC != 0)=true:=by simpa using al
  have aZ:=J.ca H (.row false 11 [[.int .i64 0,.int .i64 0,.str [],.str [],.int .i64 0,.ap,.int .i64 0,.int .i64 0,.int .i64 0,.int .i64 0,.int .i64 0]]);rw[show eU T s=(.zero,s) by simp[eU,al]];simp-implicitDefEqProofs(disch:=try exact af) only[x1,reduceAdd,reduceLeDiff,reduceIte,aw,e1];exact a_.2 ⟨aV.mut _,du,ea.leaf _ _ {kind:=0}⟩
theorem afg(T:List Tok)(s:aA):my T s=((YtghmbpmaafnodaaGreatDoor.nK (eL T ⟨s.at_,0,0,0⟩)).1,sO (YtghmbpmaafnodaaGreatDoor.nK (eL T ⟨s.at_,0,0,0⟩)).2.1 (YtghmbpmaafnodaaGreatDoor.nK (eL T ⟨s.at_,0,0,0⟩)).2.2.1 (YtghmbpmaafnodaaGreatDoor.nK (eL T ⟨s.at_,0,0,0⟩)).2.2.2 s):=by
 generalize bi:eL T ⟨s.at_,0,0,0⟩=q;by_cases aa:q.2.aC=0
 ·simp[my,bi,YtghmbpmaafnodaaGreatDoor.nK,sO,aa]
 ·simp[my,bi,YtghmbpmaafnodaaGreatDoor.nK,sO,aa]
theorem aeL{H0 H:J}{r:Nat}{T:List Tok}{ak:I}{s0 s:aA}(bs:c_ H0 r T ak s0)(bP:cC r H0 H)(cp:c7 H r ak s){b:Nat}{x:bl}{k n q:Int}(aZ:H.get H0.next=some (.row false 2 [[.str [],.int .i64 0]]))(ax:H.get b=some (.row false 4 [[.int .i64 k,.str x,.int .i64 n,.int .i64 q]]))(aqu:H0.next<b):
  W (w8 (aq P ao) (.ptr r 0 0) (.ptr H0.next 0 0) (.ptr b 0 0) H) λv H'=>v= .tuple [.str (if(cZ T [58] (aF s)).2.aC≠0 then[] else x),.agg [.str (if(cZ T [58] (aF s)).2.aC≠0 then([],0) else(my T (cZ T [58] (aF s)).2).1).1,.int .i64 (if(cZ T [58] (aF s)).2.aC≠0 then([],0) else(my T (cZ T [58] (aF s)).2).1).2]]/\cC r H0 H'/\c_ H' r T ak (if(cZ T [58] (aF s)).2.aC≠0 then(cZ T [58] (aF s)).2 else(my T (cZ T [58] (aF s)).2).2):=by
 have az:=bs.rd.lt;have de:=bs.cf.one;have a8:=cp;unfold c7 at a8;have N2:=J.aX aZ;have yB:=J.aX ax;have ib:=cp.lt;obtain⟨m1,mV⟩:=h5 cp (aF s);simp-implicitDefEqProofs(disch:=try exact af) only[r2,reduceAdd,reduceLeDiff,reduceIte,aw,w8,a8,de];refine a6 (tz (bs.mut (bP.trans m1) mV) [58]) ?_;rintro _ bm ⟨rfl,m2,cJ⟩;refine⟨m2.1,?_⟩;generalize (cZ T [58] (aF s)).2=s2 at cJ ⊢;have g2:=m2.get (m1.get aZ Z) Z;have cU:=m2.get (m1.get ax Z) Z;have C_:=(bP.trans m1).trans m2;simp-implicitDefEqProofs(disch:=try exact af) only[r2,reduceAdd,reduceLeDiff,reduceIte,aw];refine a6 (Bf cJ.rd) ?_;rintro _ cT ⟨rfl,rfl⟩
 refine⟨bN _,?_⟩;have aqR:=J.aX g2;have aqO:=J.aX cU;by_cases al:s2.aC=0
 ·have cI:=cJ.rd;unfold c7 at cI;simp-implicitDefEqProofs(disch:=try exact af) only[r2,reduceAdd,reduceLeDiff,reduceIte,aw,al,bne_self_eq_false,cI];refine a6 (Sj cJ.cf s2.at_) ?_;rintro _ ct ⟨rfl,bK⟩;refine⟨bK.1,?_⟩;have bi:=afg T s2;generalize YtghmbpmaafnodaaGreatDoor.nK (eL T ⟨s2.at_,0,0,0⟩)=eE at bi ⊢;have LJ:=cJ.cf.same;have mF:=bK.1;simp-implicitDefEqProofs(disch:=try exact af) only[r2,reduceAdd,reduceLeDiff,reduceIte,aw,J.io,List.append_nil,cI,LJ,Bool.and_self];have c8:=(aR.push ct (.row false 2 [[.str eE.1.1,.int .i64 eE.1.2]])).bX (.row false 2 [[.int .i64 eE.2.2.1,.int .i64 eE.2.2.2]])
  refine a6 (PT ((cJ.aK bK).aK c8) eE.2.1 eE.2.2.1 eE.2.2.2) ?_;rintro _ fW ⟨rfl,m6,hO⟩;refine⟨m6.1,?_⟩;have A8:=m6.1;simp only[J.b2] at A8;have g6:=m6.get (c8.get (bK.get g2)) Z;have ra:=m6.get (c8.get (bK.get cU)) Z;have gI:fW.get ct.next=some (.row false 2 [[.str eE.1.1,.int .i64 eE.1.2]]):=m6.get (by simp-implicitDefEqProofs(disch:=try exact af) only[dB]) Z
  have aoT:=J.aX g6;simp-implicitDefEqProofs(disch:=try exact af) only[r2,reduceAdd,reduceLeDiff,reduceIte,aw,g6,ra,gI,al];have sn:=((C_.trans (bK.mut _)).trans (c8.mut _)).trans m6;have q2:=hO.rd;refine a_.2 ⟨by rw[bi];rfl,sn.db (.inr (bN _)) _,bs.mut (sn.db (.inr (bN _)) _) ?_⟩;simp only[ne_eq,not_true_eq_false,if_false,bi];unfold c7 at q2 ⊢;rw[J.get_set_other Z];exact q2
 ·have e1:(s2.aC != 0)=true:=by simpa using al
  simp-implicitDefEqProofs(disch:=try exact af) only[r2,reduceAdd,reduceLeDiff,reduceIte,aw,e1,g2];have q2:=cJ.rd;refine a_.2 ⟨by simp[al],C_.db (.inr (bN _)) _,bs.mut (C_.db (.inr (bN _)) _) ?_⟩;simp only[ne_eq,al,not_false_eq_true,if_true];unfold c7 at q2 ⊢;rw[J.get_set_other Z];exact q2
theorem Pd{H:J}{r:Nat}{T:List Tok}{ak:I}{s:aA}(ag:c_ H r T ak s):W (aq P ao 155 [.ptr r 0 0] H) λv H'=>v= .tuple [.str (jE T s).1.1,.agg [.str (jE T s).1.2.1,.int .i64 (jE T s).1.2.2]]/\cC r H H'/\c_ H' r T ak (jE T s).2:=by
 refine cP (λ_=>aih 0) ?_;have az:=ag.rd.lt;have aV:=aR.push H (.row false 2 [[.str [],.int .i64 0]]);simp-implicitDefEqProofs(disch:=try exact af) only[r2,reduceAdd,reduceLeDiff,reduceIte,aw];refine a6 (Gp (ag.rd.aK aV) (ag.cf.aK aV)) ?_;rintro _ bm ⟨rfl,aJ⟩;refine⟨aJ.1,?_⟩;have n2:=aJ.1;simp only[J.b2] at n2;have bB:=aR.push bm (.row false 4 [[.int .i64 (ar T s.at_).kind,.str (ar T s.at_).text,.int .i64 (ar T s.at_).n,.int .i64 (ar T s.at_).pos]]);have g3:=bB.get (aJ.get (J.ca H (.row false 2 [[.str [],.int .i64 0]])));have b3:=J.ca bm (.row false 4 [[.int .i64 (ar T s.at_).kind,.str (ar T s.at_).text,.int .i64 (ar T s.at_).n,.int .i64 (ar T s.at_).pos]])
 have e2:=ag.aK ((aV.trans aJ).trans bB);have fin: ∀(dp:J) (s1:aA),s1=(bif (ar T s.at_).kind != 1 then cS T 2 s else s)->cC r H dp->c7 dp r ak s1->dp.get H.next=some (.row false 2 [[.str [],.int .i64 0]])->dp.get bm.next=some (.row false 4 [[.int .i64 (ar T s.at_).kind,.str (ar T s.at_).text,.int .i64 (ar T s.at_).n,.int .i64 (ar T s.at_).pos]])->
   W (w8 (aq P ao) (.ptr r 0 0) (.ptr H.next 0 0) (.ptr bm.next 0 0) dp) λv H'=>v= .tuple [.str (jE T s).1.1,.agg [.str (jE T s).1.2.1,.int .i64 (jE T s).1.2.2]]/\cC r H H'/\c_ H' r T ak (jE T s).2:=by
  intro dp s1 Ay m5 an6 aZ ax;refine(aeL ag m5 an6 aZ ax Z).mono ?_;rintro v H' ⟨rfl,cD,cu⟩;have aS:(cZ T [58] (aF s1)).2=colonS T s:=by rw[Ay];rfl
  rw[aS] at cu ⊢;unfold jE;by_cases cn:(colonS T s).aC≠0
  ·simp only[if_pos cn] at cu ⊢;exact⟨trivial,cD,cu⟩
  ·simp only[if_neg cn] at cu ⊢;exact⟨trivial,cD,cu⟩
 cases ah:((ar T s.at_).kind != 1) with
 |true=>
  simp-implicitDefEqProofs(disch:=try exact af) only[r2,reduceAdd,reduceLeDiff,reduceIte,aw,Tok.v,ah];refine a6 (Bp e2 2) ?_;rintro _ dp ⟨rfl,m5,fg⟩;refine⟨m5.1,?_⟩;exact fin dp _ (by rw[ah];rfl) ((((aV.trans aJ).trans bB).mut _).trans m5) fg.rd (m5.get g3 Z) (m5.get b3 Z)
 |false=>
  simp-implicitDefEqProofs(disch:=try exact af) only[r2,reduceAdd,reduceLeDiff,reduceIte,aw,Tok.v,ah];exact fin _ _ (by rw[ah];rfl) (((aV.trans aJ).trans bB).mut _) e2.rd g3 b3
end
end Go.Proofs.YtghmbpmaafnodaaGreatDoor
