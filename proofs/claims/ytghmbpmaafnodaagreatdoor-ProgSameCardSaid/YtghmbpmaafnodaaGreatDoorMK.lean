/-
  Texts of one proof, laid together: E1 Ms E2 Z12 Zb ShS U1 U2.
-/
import Derived.Test.YtghmbpmaafnodaaGreatDoorMH
import Derived.Test.YtghmbpmaafnodaaGreatDoorMJ
import Derived.Test.YtghmbpmaafnodaaGreatDoorMF
import Derived.Test.YtghmbpmaafnodaaGreatDoorMD
set_option linter.unusedVariables false
set_option linter.unusedSimpArgs false
namespace Go.Proofs.YtghmbpmaafnodaaGreatDoor
open Go.f7
open Nat (reduceAdd reduceLeDiff)
section
theorem afU(x y:Bool):Option.map I.bool (bif x then(bif y then some true else some false) else some false)=some (.bool (x&&y)):=by cases x<;>cases y<;>rfl
theorem afV(x y z:Bool):Option.map I.bool (bif x then(bif y then(bif z then some true else some false) else some false) else some false)=some (.bool (x&&(y&&z))):=by cases x<;>cases y<;>cases z<;>rfl
theorem jj{c:Bool}(a er:List UInt8)(b fK:Int):aZ P .eql 43 c (.agg [.str a,.int .i64 b]) (.agg [.str er,.int .i64 fK])=some (.bool (a==er&&b==fK)):=
 Eq.trans ad (afU (a==er) (b==fK))
theorem p5{c:Bool}(a er:Int)(b fK:Int)(d ek:Int):aZ P .eql 101 c (.agg [.int .i64 a,.int .i64 b,.int .i64 d]) (.agg [.int .i64 er,.int .i64 fK,.int .i64 ek])=some (.bool (a==er&&(b==fK&&d==ek))):=
 Eq.trans ad (afV (a==er) (b==fK) (d==ek))
theorem pZ(a b c:Int):cd (some (.agg [.int .i64 a,.int .i64 b,.int .i64 c])) (.agg [.int .i64 a,.int .i64 b,.int .i64 c])=true:=by simp[cd,I.beq,jA.beq]
mutual
def p1:bh->bh->Bool
 | .mk a bR,.mk b ls=>a.kind==b.kind&&(a.n==b.n&&(a.name==b.name&&((a.eQ==b.eQ&&a.fS==b.fS)&&((a.wF==b.wF&&(a.A8==b.A8&&a.tt==b.tt))&&(a.ref==b.ref&&h_ bR ls)))))
def h_:List bh->List bh->Bool
 |[],[]=>true
 |[],_::_=>false
 |_::_,[]=>false
 |e::es,f::eA=>p1 e f&&h_ es eA
end
mutual
def fz(B:Nat):bh->Prop
 | .mk _ bR=>bR.length<=B/\gr B bR
def gr(B:Nat):List bh->Prop
 |[]=>True
 |e::es=>fz B e/\gr B es
end
theorem JK: ∀(es eA:List bh),es.length≠eA.length->h_ es eA=false
 |[],[],h=>absurd rfl h
 |[],_::_,_=>by rw[h_]
 |_::_,[],_=>by rw[h_]
 |e::es,f::eA,h=>by rw[h_,JK es eA (by simpa using h),Bool.and_false]
theorem dO.gq{H:J}{ok:Nat->Prop}{bR:List bh}{kv:I}(h:dO H ok bR kv):kv.one=true:=by
 rcases h with⟨rfl,_⟩|⟨l,i,cap,ro,els,rfl,_⟩|⟨l,i,cap,rfl,_⟩<;>rfl
theorem dO.aK{H H':J}{ok:Nat->Prop}{bR:List bh}{kv:I}(h:dO H ok bR kv)(p:aR H H'):dO H' ok bR kv:=h.bo (e_.aK p λ_ h=>h)
theorem ec.aK{H H':J}{ok:Nat->Prop}{e:bh}{v:I}(h:ec H ok e v)(p:aR H H'):ec H' ok e v:=ec.bo (e_.aK p λ_ h=>h) e v h
theorem gm.cons{H:J}{ok:Nat->Prop}{e:bh}{es:List bh}{els:List (List I)}{k:Nat}(h:gm H ok (e::es) (els.drop k)): ∃cs,els[k]? =some cs/\ec H ok e (.agg cs)/\gm H ok es (els.drop (k+1)):=by
 cases bb:els.drop k with
 |nil=>rw[bb,gm] at h;exact h.elim
 |cons cs q3=>
  rw[bb,gm] at h;have U:els[k]? =some cs:=by
   have:=List.getElem?_drop (xs:=els) (i:=k) (j:=0);rw[bb] at this;simpa using this.symm
  have aa:els.drop (k+1)=q3:=by
   have:(els.drop k).drop 1=q3:=by rw[bb];rfl
   rwa[List.drop_drop] at this
  exact⟨cs,U,h.1,by rw[aa];exact h.2⟩
theorem akT{H:J}{a b:fm}{bR ls:List bh}{kv bq:I}(U:kv.one=true)(aa:bq.one=true)
  (ax: ∀H',aR H H'->W (au P ao 86 [kv,bq] H') λr nD=>r= .bool (h_ bR ls)/\aR H' nD):
  W (au P ao 111 [.agg (a.cells kv),.agg (b.cells bq)] H) λr H'=>r= .bool (p1 (.mk a bR) (.mk b ls))/\aR H H':=by
 refine cU (λ_=>aiS 0) ?_;have dS: ∀l,eW l (.agg (a.cells kv))=some (.ptr l 0 0,.row false 11 [a.cells kv]):=λl=>ij l _ (by simp only[fm.cells,List.all_cons,List.all_nil,iy,jJ,U,Bool.and_self])
 have cn: ∀l,eW l (.agg (b.cells bq))=some (.ptr l 0 0,.row false 11 [b.cells bq]):=λl=>ij l _ (by simp only[fm.cells,List.all_cons,List.all_nil,iy,jJ,aa,Bool.and_self])
 have aJ:=(aR.push H (.row false 11 [a.cells kv])).bV (.row false 11 [b.cells bq]);rw[p1];simp only[fm.cells] at dS cn aJ ⊢;cases c0:a.kind==b.kind with
 |false=>
  simp-implicitDefEqProofs(disch:=try exact ag) only[sV,reduceAdd,reduceLeDiff,reduceIte,az,dS,cn,jj,p5,pZ,c0];exact a8.2 ⟨by simp only[Bool.false_and,Bool.and_false],aJ⟩
 |true=>
  cases bJ:a.n==b.n with
  |false=>
   simp-implicitDefEqProofs(disch:=try exact ag) only[sV,reduceAdd,reduceLeDiff,reduceIte,az,dS,cn,jj,p5,pZ,c0,bJ];exact a8.2 ⟨by simp only[Bool.false_and,Bool.and_false],aJ⟩
  |true=>
   cases c2:a.name==b.name with
   |false=>
    simp-implicitDefEqProofs(disch:=try exact ag) only[sV,reduceAdd,reduceLeDiff,reduceIte,az,dS,cn,jj,p5,pZ,c0,bJ,c2];exact a8.2 ⟨by simp only[Bool.false_and,Bool.and_false],aJ⟩
   |true=>
    cases c3:(a.eQ==b.eQ&&a.fS==b.fS) with
    |false=>
     simp-implicitDefEqProofs(disch:=try exact ag) only[sV,reduceAdd,reduceLeDiff,reduceIte,az,dS,cn,jj,p5,pZ,c0,bJ,c2,c3];exact a8.2 ⟨by simp only[Bool.false_and,Bool.and_false],aJ⟩
    |true=>
     cases c4:(a.wF==b.wF&&(a.A8==b.A8&&a.tt==b.tt)) with
     |false=>
      simp-implicitDefEqProofs(disch:=try exact ag) only[sV,reduceAdd,reduceLeDiff,reduceIte,az,dS,cn,jj,p5,pZ,c0,bJ,c2,c3,c4];exact a8.2 ⟨by simp only[Bool.false_and,Bool.and_false],aJ⟩
     |true=>
      cases c5:a.ref==b.ref with
      |false=>
       simp-implicitDefEqProofs(disch:=try exact ag) only[sV,reduceAdd,reduceLeDiff,reduceIte,az,dS,cn,jj,p5,pZ,c0,bJ,c2,c3,c4,c5];exact a8.2 ⟨by simp only[Bool.false_and,Bool.and_false],aJ⟩
      |true=>
       simp-implicitDefEqProofs(disch:=try exact ag) only[sV,reduceAdd,reduceLeDiff,reduceIte,az,dS,cn,jj,p5,pZ,c0,bJ,c2,c3,c4,c5];refine hh (ax _ aJ) ?_;rintro _ cQ ⟨rfl,bz⟩;refine⟨bz.1,?_⟩;simp-implicitDefEqProofs(disch:=try exact ag) only[sV,bj,bO];exact a8.2 ⟨by simp only[Bool.true_and],aJ.trans bz⟩
theorem akU{H:J}{a b:fm}{bR ls:List bh}{kv bq:I}(U:kv.one=true)(aa:bq.one=true)
  (ax: ∀H',aR H H'->W (au P ao 91 [kv,bq,.func (.func 92) [] []] H') λr nD=>r= .bool (h_ bR ls)/\aR H' nD):
  W (au P ao 92 [.agg (a.cells kv),.agg (b.cells bq)] H) λr H'=>r= .bool (p1 (.mk a bR) (.mk b ls))/\aR H H':=by
 refine cU (λ_=>amO 0) ?_;have dS: ∀l,eW l (.agg (a.cells kv))=some (.ptr l 0 0,.row false 11 [a.cells kv]):=λl=>ij l _ (by simp only[fm.cells,List.all_cons,List.all_nil,iy,jJ,U,Bool.and_self])
 have cn: ∀l,eW l (.agg (b.cells bq))=some (.ptr l 0 0,.row false 11 [b.cells bq]):=λl=>ij l _ (by simp only[fm.cells,List.all_cons,List.all_nil,iy,jJ,aa,Bool.and_self])
 have aJ:=(aR.push H (.row false 11 [a.cells kv])).bV (.row false 11 [b.cells bq]);rw[p1];simp only[fm.cells] at dS cn aJ ⊢;cases c0:a.kind==b.kind with
 |false=>
  simp-implicitDefEqProofs(disch:=try exact ag) only[tk,reduceAdd,reduceLeDiff,reduceIte,az,dS,cn,jj,p5,pZ,c0];exact a8.2 ⟨by simp only[Bool.false_and,Bool.and_false],aJ⟩
 |true=>
  cases bJ:a.n==b.n with
  |false=>
   simp-implicitDefEqProofs(disch:=try exact ag) only[tk,reduceAdd,reduceLeDiff,reduceIte,az,dS,cn,jj,p5,pZ,c0,bJ];exact a8.2 ⟨by simp only[Bool.false_and,Bool.and_false],aJ⟩
  |true=>
   cases c2:a.name==b.name with
   |false=>
    simp-implicitDefEqProofs(disch:=try exact ag) only[tk,reduceAdd,reduceLeDiff,reduceIte,az,dS,cn,jj,p5,pZ,c0,bJ,c2];exact a8.2 ⟨by simp only[Bool.false_and,Bool.and_false],aJ⟩
   |true=>
    cases c3:(a.eQ==b.eQ&&a.fS==b.fS) with
    |false=>
     simp-implicitDefEqProofs(disch:=try exact ag) only[tk,reduceAdd,reduceLeDiff,reduceIte,az,dS,cn,jj,p5,pZ,c0,bJ,c2,c3];exact a8.2 ⟨by simp only[Bool.false_and,Bool.and_false],aJ⟩
    |true=>
     cases c4:(a.wF==b.wF&&(a.A8==b.A8&&a.tt==b.tt)) with
     |false=>
      simp-implicitDefEqProofs(disch:=try exact ag) only[tk,reduceAdd,reduceLeDiff,reduceIte,az,dS,cn,jj,p5,pZ,c0,bJ,c2,c3,c4];exact a8.2 ⟨by simp only[Bool.false_and,Bool.and_false],aJ⟩
     |true=>
      cases c5:a.ref==b.ref with
      |false=>
       simp-implicitDefEqProofs(disch:=try exact ag) only[tk,reduceAdd,reduceLeDiff,reduceIte,az,dS,cn,jj,p5,pZ,c0,bJ,c2,c3,c4,c5];exact a8.2 ⟨by simp only[Bool.false_and,Bool.and_false],aJ⟩
      |true=>
       simp-implicitDefEqProofs(disch:=try exact ag) only[tk,reduceAdd,reduceLeDiff,reduceIte,az,dS,cn,jj,p5,pZ,c0,bJ,c2,c3,c4,c5];refine hh (ax _ aJ) ?_;rintro _ cQ ⟨rfl,bz⟩;refine⟨bz.1,?_⟩;simp-implicitDefEqProofs(disch:=try exact ag) only[tk,bj,bO];exact a8.2 ⟨by simp only[Bool.true_and],aJ.trans bz⟩
end
section
def dv.cells(a:dv)(ev bv fu:I):List I:=[.int .i64 a.kind,.str a.name,.str a.eQ,.int .i64 a.fS,ev,bv,fu,.int .i64 a.pos,.int .i64 a.ref]
mutual
def hX(H:J)(ok:Nat->Prop):cy->I->Prop
 | .mk a es b c,v=> ∃ev bv fu,v= .agg (a.cells ev bv fu)/\dO H ok es ev/\
  ((bv= .an/\b.length=0)\/(∃l i cap ro els,bv= .aM l i b.length 9 (Option.map (· +b.length) cap)/\ok l/\H.get l=some (.row ro 9 els)/\gJ H ok b (els.drop i))\/ ∃l i cap,bv= .aM l i 0 9 cap/\b.length=0)/\
  ((fu= .an/\c.length=0)\/(∃l i cap ro els,fu= .aM l i c.length 9 (Option.map (· +c.length) cap)/\ok l/\H.get l=some (.row ro 9 els)/\gJ H ok c (els.drop i))\/ ∃l i cap,fu= .aM l i 0 9 cap/\c.length=0)
def gJ(H:J)(ok:Nat->Prop):List cy->List (List I)->Prop
 |[],_=>True
 |_::_,[]=>False
 |e::es,cs::q3=>hX H ok e (.agg cs)/\gJ H ok es q3
end
def eC(H:J)(ok:Nat->Prop)(b:List cy)(bv:I):Prop:=(bv= .an/\b.length=0)\/(∃l i cap ro els,bv= .aM l i b.length 9 (Option.map (· +b.length) cap)/\ok l/\H.get l=some (.row ro 9 els)/\gJ H ok b (els.drop i))\/ ∃l i cap,bv= .aM l i 0 9 cap/\b.length=0
theorem tN{H:J}{ok:Nat->Prop}{a:dv}{es:List bh}{b c:List cy}{v:I}:hX H ok (.mk a es b c) v↔ ∃ev bv fu,v= .agg (a.cells ev bv fu)/\dO H ok es ev/\eC H ok b bv/\eC H ok c fu:=by
 rw[hX];rfl
structure fD(H:J)(ok:Nat->Prop)(H':J)(ok':Nat->Prop):Prop where
 ex:e_ H ok H' ok'
 st: ∀l ro els,ok l->H.get l=some (.row ro 9 els)->ok' l/\H'.get l=some (.row ro 9 els)
section
variable {H H':J}{ok ok':Nat->Prop}
mutual
theorem hX.bo(p:fD H ok H' ok'): ∀(e:cy) (v:I),hX H ok e v->hX H' ok' e v
 | .mk a es b c,v,h=>by
  rw[hX] at h ⊢;obtain⟨ev,bv,fu,U,aa,ae,al⟩:=h;refine⟨ev,bv,fu,U,aa.bo p.ex,?_,?_⟩
  ·rcases ae with ae|⟨l,i,cap,ro,els,aI,bc,dm,eS⟩|ae
   ·exact .inl ae
   ·obtain⟨cE,cx⟩:=p.st l ro els bc dm;exact .inr (.inl ⟨l,i,cap,ro,els,aI,cE,cx,gJ.bo p b _ eS⟩)
   ·exact .inr (.inr ae)
  ·rcases al with ae|⟨l,i,cap,ro,els,aI,bc,dm,eS⟩|ae
   ·exact .inl ae
   ·obtain⟨cE,cx⟩:=p.st l ro els bc dm;exact .inr (.inl ⟨l,i,cap,ro,els,aI,cE,cx,gJ.bo p c _ eS⟩)
   ·exact .inr (.inr ae)
theorem gJ.bo(p:fD H ok H' ok'): ∀(es:List cy) (cs:List (List I)),gJ H ok es cs->gJ H' ok' es cs
 |[],_,_=>by rw[gJ];trivial
 |e::es,[],h=>by rw[gJ] at h;exact h.elim
 |e::es,cs::q3,h=>by
  rw[gJ] at h ⊢;exact⟨hX.bo p e _ h.1,gJ.bo p es q3 h.2⟩
end
theorem eC.bo(p:fD H ok H' ok'){b:List cy}{v:I}(h:eC H ok b v):eC H' ok' b v:=by
 rcases h with ae|⟨l,i,cap,ro,els,aI,bc,dm,eS⟩|ae
 ·exact .inl ae
 ·obtain⟨cE,cx⟩:=p.st l ro els bc dm;exact .inr (.inl ⟨l,i,cap,ro,els,aI,cE,cx,gJ.bo p b _ eS⟩)
 ·exact .inr (.inr ae)
theorem fD.mut{r:Nat}(m:cB r H H')(a7: ¬ok r)(ax: ∀l,ok l->ok' l):fD H ok H' ok':=⟨e_.mut m a7 ax,λl ro els h e=>⟨ax l h,m.get e (by rintro rfl;exact a7 h)⟩⟩
theorem fD.aK(m:aR H H')(ax: ∀l,ok l->ok' l):fD H ok H' ok':=⟨e_.aK m ax,λl ro els h e=>⟨ax l h,m.get e⟩⟩
theorem fD.set{l:Nat}(b:dZ)(h: ¬ok l)(ax: ∀l,ok l->ok' l):fD H ok (H.set l b) ok':=⟨e_.set b h ax,λj ro els bP e=>⟨ax j bP,by rw[J.get_set_other (by rintro rfl;exact h bP)];exact e⟩⟩
theorem fD.q9(h: ∀l,ok l->ok' l):fD H ok H ok':=⟨e_.q9 h,λl ro els ax e=>⟨h l ax,e⟩⟩
theorem eC.gq{b:List cy}{v:I}(h:eC H ok b v):v.one=true:=by
 rcases h with⟨rfl,_⟩|⟨l,i,cap,ro,els,rfl,_⟩|⟨l,i,cap,rfl,_⟩<;>rfl
theorem eC.nil(H:J)(ok:Nat->Prop):eC H ok [] .an:= .inl ⟨rfl,rfl⟩
theorem hX.cells{e:cy}{v:I}(h:hX H ok e v): ∃cs,v= .agg cs/\cs.length=9/\cs.all I.one=true:=by
 cases e with|mk a es b c=>
 rw[tN] at h;obtain⟨ev,bv,fu,rfl,U,aa,ae⟩:=h;refine⟨_,rfl,rfl,?_⟩;simp only[dv.cells,List.all_cons,List.all_nil,iy,jJ,U.gq,aa.gq,ae.gq,Bool.and_self]
theorem hX.leaf(H:J)(ok:Nat->Prop)(a:dv):hX H ok (.mk a [] [] []) (.agg (a.cells .an .an .an)):=
 tN.2 ⟨_,_,_,rfl,.inl ⟨rfl,rfl⟩,.inl ⟨rfl,rfl⟩,.inl ⟨rfl,rfl⟩⟩
theorem hX.mut{r:Nat}{e:cy}{v:I}(h:hX H ok e v)(m:cB r H H')(a7: ¬ok r)(ax: ∀l,ok l->ok' l):hX H' ok' e v:=hX.bo (fD.mut m a7 ax) e v h
theorem fD.new{n:Nat}(m:dE (· <n) H H')(ax: ∀l,n<=l->ok l):fD H (bG n) H' ok:=
 ⟨λl ro els dF g=>⟨ax l dF,m.get g (Nat.not_lt.2 dF)⟩,λl ro els dF g=>⟨ax l dF,m.get g (Nat.not_lt.2 dF)⟩⟩
end
def xt(ok:Nat->Prop)(H:J)(r:Nat)(T:List Tok)(aj:I)(e:cy)(s':aw)(v:I)(H':J):Prop:=cB r H H'/\c8 H' r T aj s'/\hX H' ok e v
abbrev gE(H:J):=xt (bG H.next) H
theorem gE.fin{H dU:J}{r:Nat}{T:List Tok}{aj:I}{s s':aw}{a:dv}{es:List bh}{b c:List cy}{ev bv fu:I}{x lo:Nat}(af:c8 H r T aj s)(m:cB r H dU)(bb:c1 dU r aj s')(U:dO dU (bG lo) es ev)(aa:eC dU (bG lo) b bv)(ae:eC dU (bG lo) c fu)(ay:H.next<=x)(kl:x<lo)(gW:dZ):
  gE H r T aj (.mk a es b c) s' (.agg (a.cells ev bv fu)) (dU.set x gW):=by
 have ax:=af.rd.lt;have fp:=m.de (.inr ay) gW;have k:fD dU (bG lo) (dU.set x gW) (bG H.next):=fD.set _ (by unfold bG;omega) λl ax=>by unfold bG at*;omega
 refine⟨fp,af.mut fp ?_,tN.2 ⟨ev,bv,fu,rfl,U.bo k.ex,aa.bo k,ae.bo k⟩⟩;unfold c1 at bb ⊢;rw[J.get_set_other Z];exact bb
theorem gE.ret{H bl:J}{r:Nat}{T:List Tok}{aj:I}{s s':aw}{e:cy}{v:I}{b n:Nat}(af:c8 H r T aj s)(m:cB r H bl)(bb:c1 bl r aj s')(ay:H.next<=b)(he:hX bl (bG n) e v)(aV:b<n)(gW:dZ):gE H r T aj e s' v (bl.set b gW):=by
 have ax:=af.rd.lt;have fp:=m.de (.inr ay) gW;refine⟨fp,af.mut fp ?_,hX.bo (fD.set _ (by unfold bG;omega) λl ax=>by unfold bG at*;omega) e v he⟩;unfold c1 at bb ⊢;rw[J.get_set_other Z];exact bb
theorem hX.at{H:J}{ok:Nat->Prop}{e:cy}{cs:List I}(h:hX H ok e (.agg cs))(p:Int):hX H ok (e.at p) (.agg (cs.set 7 (.int .i64 p))):=by
 cases e with|mk a es b c=>
 rw[tN] at h;obtain⟨ev,bv,fu,a6,U,aa,ae⟩:=h;cases a6;exact tN.2 ⟨ev,bv,fu,rfl,U,aa,ae⟩
set_option linter.defProp false
def ea:=ar MH (ar CJ (ar MG CI))
end
section
theorem dO.v8{H:J}{ok:Nat->Prop}{bR:List bh}{x:I}(af:dO H ok bR x)(H':J):dC P H' .len [96] [x]=some (.int .i64 bR.length):=by
 rcases af with⟨rfl,aI⟩|⟨eI,i1,bJ,gj,s3,rfl,_⟩|⟨eI,i1,bJ,rfl,aI⟩
 ·rw[aI];exact L8
 ·exact HQ
 ·rw[aI];exact HQ
theorem dO.row{H:J}{ok:Nat->Prop}{bR:List bh}{x:I}(af:dO H ok bR x)(h: ¬bR.length=0): ∃l i cap ro els,x= .aM l i bR.length 11 cap/\ok l/\H.get l=some (.row ro 11 els)/\gm H ok bR (els.drop i):=by
 rcases af with⟨_,aI⟩|U|⟨_,_,_,_,aI⟩
 ·exact absurd aI h
 ·exact U
 ·exact absurd aI h
def xd(F:Nat)(B:Nat)(e:bh):Prop:=fz B e-> ∀(f:bh) (v w:I) (H:J) (ok ok':Nat->Prop),ec H ok e v->ec H ok' f w->W (au P ao F [v,w] H) λr H'=>r= .bool (p1 e f)/\aR H H'
theorem gr.mem{B:Nat}: ∀{es:List bh},gr B es-> ∀e∈es,fz B e
 |[],_,e,he=>by simp at he
 |x::xs,h,e,he=>by
  rw[gr] at h;rcases List.mem_cons.1 he with rfl|he
  ·exact h.1
  ·exact gr.mem h.2 e he
theorem bh.Qx{a:fm}{bR:List bh}{e:bh}(h:e∈bR):SizeOf.sizeOf e<SizeOf.sizeOf (bh.mk a bR):=by
 have:=List.sizeOf_lt_of_mem h;simp only[bh.mk.sizeOf_spec];omega
theorem VA{N B:Nat}{hf iI iu li:Nat}{kc lc:Option Nat}{mm mn:Bool}{iM iN:List (List I)}{ok ok':Nat->Prop}: ∀(es eA:List bh) (j dN n:Nat) (H:J),(∀e∈es,xd 111 B e)->gr B es->gm H ok es (iM.drop (iI+j))->gm H ok' eA (iN.drop (li+j))->es.length=eA.length->dN=j+es.length->dN<=1000000000000->H.get hf=some (.row mm 11 iM)->H.get iu=some (.row mn 11 iN)->es.length<n->
  W (vz (au P ao) N n (.aM hf iI dN 11 kc) (.aM iu li dN 11 lc) (.int .i64 j) H) λr H'=>r= .bool (h_ es eA)/\aR H H'
 |_,_,_,_,0,_,_,_,_,_,_,_,_,_,_,aV=>Z
 |[],[],j,dN,n+1,H,aO,eD,U,aa,ae,al,aB,aG,aP,aV=>by
  have bP: ¬((j:Int)<(dN:Int)):=by simp at al;omega
  simp-implicitDefEqProofs(disch:=try exact ag) only[vz,rK,vy,uM,reduceAdd,reduceLeDiff,reduceIte,az,bP,decide_false];exact a8.2 ⟨by rw[h_],.refl _⟩
 |[],_::_,j,dN,n+1,H,aO,eD,U,aa,ae,al,aB,aG,aP,aV=>by simp at ae
 |_::_,[],j,dN,n+1,H,aO,eD,U,aa,ae,al,aB,aG,aP,aV=>by simp at ae
 |e::es,f::eA,j,dN,n+1,H,aO,eD,U,aa,ae,al,aB,aG,aP,aV=>by
  simp only[List.length_cons] at ae al aV;have bP:(j:Int)<(dN:Int):=Z;have a6:(0:Int)<=(j:Int):=Z;have bC:((j:Int)).toNat=j:=Z;obtain⟨cs,g1,g2,g3⟩:=U.cons;obtain⟨bU,g4,g5,g6⟩:=aa.cons;obtain⟨_,cE,cx,eM⟩:=g2.cells;cases cE;obtain⟨_,eB,eN,gC⟩:=g5.cells;cases eB;have ra:List.take 11 cs=cs:=List.take_of_length_le Z;have rb:List.take 11 bU=bU:=List.take_of_length_le Z;have eI:=J.aW aG;have fB:=J.aW aP;rw[gr] at eD;have hw:IntKind.i64.wrap ((j:Int)+1)=((j+1:Nat):Int):=by rw[wrap_i64 Z Z];omega
  simp-implicitDefEqProofs(disch:=try exact ag) only[vz,rK,vy,uM,reduceAdd,reduceLeDiff,reduceIte,az,bP,decide_true,bC,aG,aP,g1,g4,ra,rb];refine aY (aO e (by simp) eD.1 f _ _ _ ok ok' g2 g5) ?_;rintro _ bl ⟨rfl,aJ⟩;refine⟨aJ.1,?_⟩;cases aS:p1 e f with
  |false=>
   simp-implicitDefEqProofs(disch:=try exact ag) only[rK,vy,uM,bj,bO,Bool.not_false];exact a8.2 ⟨by rw[h_,aS,Bool.false_and],aJ⟩
  |true=>
   simp-implicitDefEqProofs(disch:=try exact ag) only[rK,vy,uM,bj,bO,ei,Bool.not_true,hw];refine(VA es eA (j+1) dN n bl (λcC lU=>aO cC (by simp[lU])) eD.2 (gm.bo (e_.aK aJ λ_ h=>h) _ _ g3) (gm.bo (e_.aK aJ λ_ h=>h) _ _ g6) Z Z aB (aJ.get aG) (aJ.get aP) Z).mono ?_;rintro v H' ⟨rfl,q⟩;exact⟨by rw[h_,aS,Bool.true_and],aJ.trans q⟩
theorem Vu{B:Nat}(h5:B<=1000000000000){H:J}{ok ok':Nat->Prop}{bR ls:List bh}{kv bq:I}(aO: ∀e∈bR,xd 111 B e)(eD:bR.length<=B/\gr B bR)(U:dO H ok bR kv)(aa:dO H ok' ls bq):W (au P ao 86 [kv,bq] H) λr H'=>r= .bool (h_ bR ls)/\aR H H':=by
 refine cU (λ_=>amM (bR.length+1)) ?_;have neq: ∀m k:Nat,m≠k->((m:Int) != (k:Int))=true:=λm k h=>by simp;omega
 have MD: ∀m:Nat,((m:Int) != (m:Int))=false:=λm=>by simp
 have z0:((0:Nat):Int)=0:=rfl;have bJ:=U.v8;have c2:=aa.v8;by_cases aV:bR.length=ls.length
 ·by_cases ct:bR.length=0
  ·have jP:ls.length=0:=Z;obtain rfl:=List.length_eq_zero_iff.1 ct;obtain rfl:=List.length_eq_zero_iff.1 jP;simp-implicitDefEqProofs(disch:=try exact ag) only[vz,rK,vy,uM,reduceAdd,reduceLeDiff,reduceIte,az,bJ,c2,List.length_nil,z0,bne_self_eq_false,Int.lt_irrefl,decide_false];exact a8.2 ⟨by rw[h_],.refl _⟩
  ·obtain⟨eI,i1,cS,gj,s3,rfl,cZ,g1,e8⟩:=U.row ct;obtain⟨fB,i2,dq,e3,v_,rfl,dk,g2,fT⟩:=aa.row Z;rw[<-aV];simp-implicitDefEqProofs(disch:=try exact ag) only[rK,uM,bj,bO,fE,ei,MD bR.length];exact VA bR ls 0 bR.length (bR.length+1) H aO eD.2 e8 fT aV Z Z g1 g2 Z
 ·have hk:=neq _ _ aV;simp-implicitDefEqProofs(disch:=try exact ag) only[rK,vy,uM,bj,bO,ei,bJ,c2,hk];exact a8.2 ⟨by rw[JK _ _ aV],.refl _⟩
theorem VS{B:Nat}(h5:B<=1000000000000): ∀(e:bh),xd 111 B e
 | .mk a bR=>by
  intro eD f v w H ok ok' U aa;cases f with|mk b ls=>
  rw[lA] at U aa;obtain⟨kv,rfl,U⟩:=U;obtain⟨bq,rfl,aa⟩:=aa;rw[fz] at eD;have aO: ∀e∈bR,xd 111 B e:=λe he=>VS h5 e
  exact akT U.gq aa.gq λH' p=>Vu h5 aO eD (U.aK p) (aa.aK p)
 termination_by e=>SizeOf.sizeOf e
 decreasing_by exact bh.Qx he
theorem VB{N B:Nat}{hf iI iu li:Nat}{kc lc:Option Nat}{mm mn:Bool}{iM iN:List (List I)}{ok ok':Nat->Prop}: ∀(es eA:List bh) (j dN n:Nat) (H:J),(∀e∈es,xd 92 B e)->gr B es->gm H ok es (iM.drop (iI+j))->gm H ok' eA (iN.drop (li+j))->es.length=eA.length->dN=j+es.length->dN<=1000000000000->H.get hf=some (.row mm 11 iM)->H.get iu=some (.row mn 11 iN)->es.length<n->
  W (vB (au P ao) N n (.aM iu li dN 11 lc) (.func (.func 92) [] []) (.aM hf iI dN 11 kc) (.int .i64 dN) (.int .i64 j) H) λr H'=>r= .bool (h_ es eA)/\aR H H'
 |_,_,_,_,0,_,_,_,_,_,_,_,_,_,_,aV=>Z
 |[],[],j,dN,n+1,H,aO,eD,U,aa,ae,al,aB,aG,aP,aV=>by
  have bP: ¬((j:Int)<(dN:Int)):=by simp at al;omega
  simp-implicitDefEqProofs(disch:=try exact ag) only[vB,rL,vA,uN,reduceAdd,reduceLeDiff,reduceIte,az,bP,decide_false];exact a8.2 ⟨by rw[h_],.refl _⟩
 |[],_::_,j,dN,n+1,H,aO,eD,U,aa,ae,al,aB,aG,aP,aV=>by simp at ae
 |_::_,[],j,dN,n+1,H,aO,eD,U,aa,ae,al,aB,aG,aP,aV=>by simp at ae
 |e::es,f::eA,j,dN,n+1,H,aO,eD,U,aa,ae,al,aB,aG,aP,aV=>by
  simp only[List.length_cons] at ae al aV;have bP:(j:Int)<(dN:Int):=Z;have a6:(0:Int)<=(j:Int):=Z;have bC:((j:Int)).toNat=j:=Z;obtain⟨cs,g1,g2,g3⟩:=U.cons;obtain⟨bU,g4,g5,g6⟩:=aa.cons;obtain⟨_,cE,cx,eM⟩:=g2.cells;cases cE;obtain⟨_,eB,eN,gC⟩:=g5.cells;cases eB;have ra:List.take 11 cs=cs:=List.take_of_length_le Z;have rb:List.take 11 bU=bU:=List.take_of_length_le Z;have eI:=J.aW aG;have fB:=J.aW aP;rw[gr] at eD;have hw:IntKind.i64.wrap ((j:Int)+1)=((j+1:Nat):Int):=by rw[wrap_i64 Z Z];omega
  simp-implicitDefEqProofs(disch:=try exact ag) only[vB,rL,vA,uN,reduceAdd,reduceLeDiff,reduceIte,az,bP,decide_true,bC,aG,aP,g1,g4,ra,rb,cx,eM,eN,gC,List.append_nil];have aU:=(aR.push H (.row false 11 [cs])).bV (.row false 11 [bU]);refine agt ?_;refine aY (aO e (by simp) eD.1 f _ _ _ ok ok' (g2.aK aU) (g5.aK aU)) ?_;rintro _ bl ⟨rfl,aJ⟩;refine⟨aJ.1,?_⟩;replace aJ:=aU.trans aJ;cases aS:p1 e f with
  |false=>
   simp-implicitDefEqProofs(disch:=try exact ag) only[rL,vA,uN,bj,bO,Bool.not_false];exact a8.2 ⟨by rw[h_,aS,Bool.false_and],aJ⟩
  |true=>
   simp-implicitDefEqProofs(disch:=try exact ag) only[rL,vA,uN,bj,bO,ei,Bool.not_true,hw];refine(VB es eA (j+1) dN n bl (λcC lU=>aO cC (by simp[lU])) eD.2 (gm.bo (e_.aK aJ λ_ h=>h) _ _ g3) (gm.bo (e_.aK aJ λ_ h=>h) _ _ g6) Z Z aB (aJ.get aG) (aJ.get aP) Z).mono ?_;rintro v H' ⟨rfl,q⟩;exact⟨by rw[h_,aS,Bool.true_and],aJ.trans q⟩
theorem Vv{B:Nat}(h5:B<=1000000000000){H:J}{ok ok':Nat->Prop}{bR ls:List bh}{kv bq:I}(aO: ∀e∈bR,xd 92 B e)(eD:bR.length<=B/\gr B bR)(U:dO H ok bR kv)(aa:dO H ok' ls bq):W (au P ao 91 [kv,bq,.func (.func 92) [] []] H) λr H'=>r= .bool (h_ bR ls)/\aR H H':=by
 refine cU (λ_=>amN (bR.length+1)) ?_;have neq: ∀m k:Nat,m≠k->((m:Int) != (k:Int))=true:=λm k h=>by simp;omega
 have MD: ∀m:Nat,((m:Int) != (m:Int))=false:=λm=>by simp
 have z0:((0:Nat):Int)=0:=rfl;have bJ:=U.v8;have c2:=aa.v8;by_cases aV:bR.length=ls.length
 ·by_cases ct:bR.length=0
  ·have jP:ls.length=0:=Z;obtain rfl:=List.length_eq_zero_iff.1 ct;obtain rfl:=List.length_eq_zero_iff.1 jP;simp-implicitDefEqProofs(disch:=try exact ag) only[vB,rL,vA,uN,reduceAdd,reduceLeDiff,reduceIte,az,bJ,c2,List.length_nil,z0,bne_self_eq_false,Int.lt_irrefl,decide_false];exact a8.2 ⟨by rw[h_],.refl _⟩
  ·obtain⟨eI,i1,cS,gj,s3,rfl,cZ,g1,e8⟩:=U.row ct;obtain⟨fB,i2,dq,e3,v_,rfl,dk,g2,fT⟩:=aa.row Z;rw[<-aV];simp-implicitDefEqProofs(disch:=try exact ag) only[rL,uN,bj,bO,fE,ei,MD bR.length];exact VB bR ls 0 bR.length (bR.length+1) H aO eD.2 e8 fT aV Z Z g1 g2 Z
 ·have hk:=neq _ _ aV;simp-implicitDefEqProofs(disch:=try exact ag) only[rL,vA,uN,bj,bO,ei,bJ,c2,hk];exact a8.2 ⟨by rw[JK _ _ aV],.refl _⟩
theorem VT{B:Nat}(h5:B<=1000000000000): ∀(e:bh),xd 92 B e
 | .mk a bR=>by
  intro eD f v w H ok ok' U aa;cases f with|mk b ls=>
  rw[lA] at U aa;obtain⟨kv,rfl,U⟩:=U;obtain⟨bq,rfl,aa⟩:=aa;rw[fz] at eD;have aO: ∀e∈bR,xd 92 B e:=λe he=>VT h5 e
  exact akU U.gq aa.gq λH' p=>Vv h5 aO eD (U.aK p) (aa.aK p)
 termination_by e=>SizeOf.sizeOf e
 decreasing_by exact bh.Qx he
end
section
theorem fz.leaf{B:Nat}(a:fm):fz B (.mk a []):=by rw[fz,gr];exact⟨Nat.zero_le _,trivial⟩
theorem fz.one{B:Nat}(h5:2<=B)(a:fm){e:bh}(h:fz B e):fz B (.mk a [e]):=by
 rw[fz,gr,gr];exact⟨by simp;omega,h,trivial⟩
theorem fz.two{B:Nat}(h5:2<=B)(a:fm){e f:bh}(h:fz B e)(bZ:fz B f):fz B (.mk a [e,f]):=by
 rw[fz,gr,gr,gr];exact⟨by simp;omega,h,bZ,trivial⟩
theorem gr.append{B:Nat}{e:bh}(h:fz B e): ∀{l:List bh},gr B l->gr B (l++[e])
 |[],_=>by simp only[List.nil_append];rw[gr,gr];exact⟨h,trivial⟩
 |x::xs,ax=>by
  rw[gr] at ax;simp only[List.cons_append];rw[gr];exact⟨ax.1,gr.append h ax.2⟩
structure ak1(T:List Tok)(B n:Nat):Prop where
 row: ∀lev s p,iY T n lev s=some p->fz B p.1
 lG: ∀lev e s p,fz B e->lG T n lev e s=some p->fz B p.1
 unary: ∀s p,pT T n s=some p->fz B p.1
 sign: ∀x k s p,rT T n x k s=some p->fz B p.1
 chain: ∀s p,rD T n s=some p->fz B p.1
 jh: ∀e s p,fz B e->jh T n e s=some p->fz B p.1
 single: ∀b c s p,kg T n b c s=some p->fz B p.1
 first: ∀s p,oo T n s=some p->fz B p.1
 name: ∀s p,um T n s=some p->fz B p.1
 fresh: ∀s p,sG T n s=some p->fz B p.1
 list: ∀s p,rR T n s=some p->p.1.length<=B/\gr B p.1
 mb: ∀l s p,l.length+n<=B->gr B l->mb T n l s=some p->p.1.length<=B/\gr B p.1
theorem hL{α β:Type}{x:Option α}{f:α->Option β}{b:β}(h:x.bind f=some b): ∃a,x=some a/\f a=some b:=eT.1 h
theorem LF(T:List Tok)(B:Nat): ∀n,n+2<=B->ak1 T B n
 |0,_=>by
  constructor<;>intros<;>rename_i h<;>cases h
 |n+1,h5=>by
  have aT:=LF T B n Z;have aa:2<=B:=Z;refine⟨?_,?_,?_,?_,?_,?_,?_,?_,?_,?_,?_,?_⟩
  ·intro lev s p h;simp only[iY] at h;split at h
   ·exact aT.unary _ _ h
   ·obtain⟨q,g1,g2⟩:=hL h;exact aT.lG _ _ _ _ (aT.row _ _ _ g1) g2
  ·intro lev e s p he h;simp only[Go.Proofs.YtghmbpmaafnodaaGreatDoor.lG] at h;split at h
   ·cases h;exact he
   ·obtain⟨q,g1,g2⟩:=hL h;exact aT.lG _ _ _ _ (fz.two aa _ he (aT.row _ _ _ g1)) g2
  ·intro s p h;simp only[pT,Bool.cond_eq_ite] at h;split at h
   ·exact aT.sign _ _ _ _ h
   ·split at h
    ·exact aT.sign _ _ _ _ h
    ·exact aT.chain _ _ h
  ·intro x k s p h;simp only[rT,Bool.cond_eq_ite] at h;split at h
   ·obtain⟨q,g1,g2⟩:=hL h;cases g2;exact fz.one aa _ (aT.unary _ _ g1)
   ·cases h;exact fz.leaf _
  ·intro s p h;simp only[rD] at h;obtain⟨q,g1,g2⟩:=hL h;exact aT.jh _ _ _ (aT.first _ _ g1) g2
  ·intro e s p he h;simp only[Go.Proofs.YtghmbpmaafnodaaGreatDoor.jh,Bool.cond_eq_ite] at h;split at h
   ·split at h
    ·exact aT.jh _ _ _ (fz.one aa _ he) h
    ·split at h
     ·obtain⟨q,g1,g2⟩:=hL h;exact aT.jh _ _ _ (fz.two aa _ he (aT.single _ _ _ _ g1)) g2
     ·cases h;exact he
   ·cases h;exact he
  ·intro b c s p h;simp only[kg,Bool.cond_eq_ite] at h;split at h
   ·obtain⟨q,g1,g2⟩:=hL h;cases g2;exact aT.row _ _ q g1
   ·cases h;exact fz.leaf _
  ·intro s p h;simp only[oo,Bool.cond_eq_ite] at h;split at h
   ·cases h;exact fz.leaf _
   ·split at h
    ·cases h;exact fz.leaf _
    ·split at h
     ·exact aT.name _ _ h
     ·split at h
      ·split at h
       ·split at h
        ·exact aT.single _ _ _ _ h
        ·cases h;exact fz.leaf _
       ·split at h
        ·cases h;exact fz.leaf _
        ·split at h
         ·cases h;exact fz.leaf _
         ·split at h
          ·exact aT.fresh _ _ h
          ·split at h
           ·obtain⟨q,g1,g2⟩:=hL h;cases g2;exact fz.one aa _ (aT.single _ _ _ _ g1)
           ·split at h
            ·cases h;exact fz.leaf _
            ·cases h;exact fz.leaf _
      ·cases h;exact fz.leaf _
  ·intro s p h;simp only[um,Bool.cond_eq_ite] at h;split at h
   ·obtain⟨q,g1,g2⟩:=hL h;cases g2;rw[fz];exact aT.list _ _ g1
   ·cases h;exact fz.leaf _
  ·intro s p h;simp only[sG,Bool.cond_eq_ite] at h;split at h
   ·obtain⟨q,g1,g2⟩:=hL h;cases g2;exact fz.one aa _ (aT.single _ _ _ _ g1)
   ·cases h;exact fz.leaf _
  ·intro s p h;simp only[rR,Bool.cond_eq_ite] at h;split at h
   ·split at h
    ·cases h;exact⟨Nat.zero_le _,by rw[gr];trivial⟩
    ·obtain⟨q,g1,g2⟩:=hL h;exact aT.mb _ _ _ (by simp;omega) (by rw[gr,gr];exact⟨aT.row _ _ _ g1,trivial⟩) g2
   ·cases h;exact⟨Nat.zero_le _,by rw[gr];trivial⟩
  ·intro l s p ax eD h;simp only[Go.Proofs.YtghmbpmaafnodaaGreatDoor.mb,Bool.cond_eq_ite] at h;split at h
   ·obtain⟨q,g1,g2⟩:=hL h;exact aT.mb _ _ _ (by simp;omega) (gr.append (aT.row _ _ _ g1) eD) g2
   ·cases h;exact⟨by show l.length<=B;omega,eD⟩
end
section
theorem DW(T:List Tok)(s:aw):left T s<=T.length:=by unfold left;split<;>omega
theorem ady{T:List Tok}(aH:T.length<=20000000)(at_ bN:Int): ∃e s cC s',iY T 800000000 0 (lE at_ bN)=some (e,s)/\im T 800000000 0 (lE at_ bN)=some (cC,s')/\lB cC s'=lB e s/\fz 1000000000 (lB e s).1:=by
 obtain⟨p,q,U,aa,ae,al⟩:=GC (T:=T) Z T.length (lE at_ bN) (DW _ _) 0 800000000 800000000 Z Z Z;refine⟨p.1,p.2,q.1,q.2,U,aa,?_,?_⟩
 ·rcases ae with⟨h,rfl⟩|⟨h,b1,ay⟩
  ·rfl
  ·have bZ: ¬q.2.aA=0:=by rw[b1];exact h
   simp only[lB,if_neg h,if_neg bZ,b1,ay]
 ·unfold lB;split
  ·exact(LF T 1000000000 800000000 Z).row _ _ _ U
  ·exact fz.leaf _
end
section
set_option maxRecDepth 100000
noncomputable section
def Ac(G:av)(Y:I)(H:J):O:=
 cv H [(.int .i64 0),(.str []),(.int .i64 0),(.int .i64 0)] λap U=>
 ab (b7 Y) λa_=>
 ab (aF P 112 a_ 1) λbf=>
 ab (am P U 3 bf) λbB=>
 ab (aZ P .lss 3 true bB (.int .i64 0)) λbu=>
 aD bu false U (dw Y) λbF aa=>
 aD bu false aa (bm (b7 bF)) λcr ae=>
 aD bu false ae (bm (aF P 112 cr 1)) λb8 al=>
 aD bu false al (qr (am P al 3 b8)) λcb aB=>
 aD bu false aB (dw Y) λb0 aG=>
 aD bu false aG (bm (b7 b0)) λbT aP=>
 aD bu false aP (bm (aF P 112 bT 0)) λbX bn=>
 aD bu false bn (qr (am P bn 50 bX)) λbI bH=>
 aD bu false bH (λq=>ia (dC P .empty .len [50] [bI]) (dC P bH .len [50] [bI]) q) λcc co=>
 aD bu false co (bm (aZ P .geq 3 false cb cc)) λcG dp=>
 ab (cW bu (some (.bool true)) (some cG)) λc6=>
 bQ (some c6) (a1 dp (aQ P dp 57 ap (.agg [(.int .i64 0),(.str []),(.int .i64 0),(.int .i64 0)])) λdR=>
 ab (am P dR 57 ap) λr=>
 some (r,dR)) (ab (b7 Y) λc7=>
 ab (aF P 112 c7 0) λcI=>
 ab (am P dp 50 cI) λdb=>
 ab (b7 Y) λdu=>
 ab (aF P 112 du 1) λdh=>
 ab (am P dp 3 dh) λdT=>
 ab (en P 50 db dT) λdI=>
 ab (am P dp 57 dI) λcH=>
 a1 dp (aQ P dp 57 ap cH) λdR=>
 ab (am P dR 57 ap) λr=>
 some (r,dR))
theorem ahn(G:av)(N:Nat)(Y:I)(H:J):bp Tryz.f123 G N (cF [Y]) H=Ac G Y H:=by
 refine cP (A:=bp Tryz.f123 G N) (aN _) ?_;delta Ac;kernel_rfl
theorem aiZ(N:Nat){Y:I}{H:J}{r:I×J}(h:Ac (au P ao) Y H=some r):au P ao 123 [Y] H=some r:=
 cV ad Tryz.func123 ad ad ad ((ahn (au P ao) N Y H).trans h)
def I5(G:av)(Y:I)(H:J):O:=
 ab (b7 Y) λa_=>
 ab (aF P 112 a_ 3) λbf=>
 ab (aF P 29 bf 0) λbB=>
 ab (am P H 27 bB) λbu=>
 ab (aZ P .neq 27 true bu (.int .i64 0)) λbS=>
 some (bS,H)
theorem akA(G:av)(N:Nat)(Y:I)(H:J):bp Tryz.f75 G N (cF [Y]) H=I5 G Y H:=by
 refine cP (A:=bp Tryz.f75 G N) (aN _) ?_;delta I5;kernel_rfl
theorem amB(N:Nat){Y:I}{H:J}{r:I×J}(h:I5 (au P ao) Y H=some r):au P ao 75 [Y] H=some r:=
 cV ad Tryz.func75 ad ad ad ((akA (au P ao) N Y H).trans h)
def z8(G:av)(Y ai:I)(H:J):O:=
 aL H (G 75 [Y] H) λbf U=>
 ab (fh .not bf) λbB=>
 bQ (some bB) (aL U (G 123 [Y] U) λcr aa=>
 ab (d8 P 57 cr 3) λb8=>
 ab (cM P 29 [(0,ai),(1,b8)]) λcb=>
 ab (b7 Y) λb0=>
 ab (aF P 112 b0 3) λbT=>
 a1 aa (aQ P aa 29 bT cb) λae=>
 some (.tuple [],ae)) (some (.tuple [],U))
theorem ag_(G:av)(N:Nat)(Y:I)(ai:I)(H:J):bp Tryz.f104 G N (cF [Y,ai]) H=z8 G Y ai H:=by
 refine cP (A:=bp Tryz.f104 G N) (aN _) ?_;delta z8;kernel_rfl
theorem aiL(N:Nat){Y ai:I}{H:J}{r:I×J}(h:z8 (au P ao) Y ai H=some r):au P ao 104 [Y,ai] H=some r:=
 cV ad Tryz.func104 ad ad ad ((ag_ (au P ao) N Y ai H).trans h)
def xT(G:av)(Y ai ap:I)(H:J):O:=
 aL H (G 123 [Y] H) λbF U=>
 cv U [(.int .i64 0),(.str []),(.int .i64 0),(.int .i64 0)] λbu aa=>
 a1 aa (aQ P aa 57 bu bF) λae=>
 aL ae (G 75 [Y] ae) λb8 al=>
 ab (fh .not b8) λcb=>
 aD cb true al (bm (aF P 57 bu 0)) λbT aB=>
 aD cb true aB (qr (am P aB 3 bT)) λbX aG=>
 aD cb true aG (dw ai) λbI aP=>
 aD cb true aP (bm (aZ P .eql 3 false bX bI)) λcc bn=>
 ab (cW cb (some cc) (some (.bool false))) λcG=>
 aD cG true bn (bm (aF P 57 bu 1)) λcN bH=>
 aD cG true bH (qr (am P bH 9 cN)) λcz co=>
 aD cG true co (dw ap) λc7 dp=>
 aD cG true dp (bm (aZ P .eql 9 false cz c7)) λcI dR=>
 ab (cW cG (some cI) (some (.bool false))) λdb=>
 some (db,dR)
theorem ag9(G:av)(N:Nat)(Y:I)(ai:I)(ap:I)(H:J):bp Tryz.f103 G N (cF [Y,ai,ap]) H=xT G Y ai ap H:=by
 refine cP (A:=bp Tryz.f103 G N) (aN _) ?_;delta xT;kernel_rfl
theorem aiK(N:Nat){Y ai ap:I}{H:J}{r:I×J}(h:xT (au P ao) Y ai ap H=some r):au P ao 103 [Y,ai,ap] H=some r:=
 cV ad Tryz.func103 ad ad ad ((ag9 (au P ao) N Y ai ap H).trans h)
def Cz(G:av)(Y ai ap:I)(H:J):O:=
 aL H (G 103 [Y,ai,ap] H) λcr U=>
 ab (fh .not cr) λb8=>
 bQ (some b8) (some ((.bool false),U)) (ab (b7 Y) λb0=>
 ab (aF P 112 b0 1) λbT=>
 ab (am P U 3 bT) λbX=>
 ab (aZ P .add 3 true bX (.int .i64 1)) λbI=>
 ab (b7 Y) λcc=>
 ab (aF P 112 cc 1) λcG=>
 a1 U (aQ P U 3 cG bI) λaa=>
 some ((.bool true),aa))
theorem ahq(G:av)(N:Nat)(Y:I)(ai:I)(ap:I)(H:J):bp Tryz.f126 G N (cF [Y,ai,ap]) H=Cz G Y ai ap H:=by
 refine cP (A:=bp Tryz.f126 G N) (aN _) ?_;delta Cz;kernel_rfl
theorem ai2(N:Nat){Y ai ap:I}{H:J}{r:I×J}(h:Cz (au P ao) Y ai ap H=some r):au P ao 126 [Y,ai,ap] H=some r:=
 cV ad Tryz.func126 ad ad ad ((ahq (au P ao) N Y ai ap H).trans h)
def Cy(G:av)(Y ai:I)(H:J):O:=
 aL H (G 126 [Y,(.int .i64 4),ai] H) λbB U=>
 ab (fh .not bB) λbu=>
 bQ (some bu) (aL U (G 104 [Y,(.int .i64 2)] U) λbF aa=>
 some (.tuple [],aa)) (some (.tuple [],U))
theorem ahc(G:av)(N:Nat)(Y:I)(ai:I)(H:J):bp Tryz.f107 G N (cF [Y,ai]) H=Cy G Y ai H:=by
 refine cP (A:=bp Tryz.f107 G N) (aN _) ?_;delta Cy;kernel_rfl
theorem aiO(N:Nat){Y ai:I}{H:J}{r:I×J}(h:Cy (au P ao) Y ai H=some r):au P ao 107 [Y,ai] H=some r:=
 cV ad Tryz.func107 ad ad ad ((ahc (au P ao) N Y ai H).trans h)
def EO(G:av)(Y ai ap:I)(H:J):O:=
 dA H (eW (H).next ap) λbf U=>
 ab (aF P 29 bf 0) λbB=>
 ab (am P U 27 bB) λbu=>
 ab (aZ P .neq 27 true bu (.int .i64 0)) λbS=>
 bQ (some bS) (ab (am P U 29 bf) λcr=>
 ab (b7 Y) λb8=>
 ab (aF P 112 b8 3) λcb=>
 a1 U (aQ P U 29 cb cr) λaa=>
 some (.tuple [],aa)) (ab (b7 Y) λbX=>
 ab (aF P 112 bX 1) λbI=>
 a1 U (aQ P U 3 bI ai) λaa=>
 some (.tuple [],aa))
theorem ahG(G:av)(N:Nat)(Y:I)(ai:I)(ap:I)(H:J):bp Tryz.f154 G N (cF [Y,ai,ap]) H=EO G Y ai ap H:=by
 refine cP (A:=bp Tryz.f154 G N) (aN _) ?_;delta EO;kernel_rfl
theorem ajh(N:Nat){Y ai ap:I}{H:J}{r:I×J}(h:EO (au P ao) Y ai ap H=some r):au P ao 154 [Y,ai,ap] H=some r:=
 cV ad Tryz.func154 ad ad ad ((ahG (au P ao) N Y ai ap H).trans h)
def xX(G:av)(Y:I)(H:J):O:=
 cv H [(.int .i64 0),(.int .i64 0),(.str []),(.str []),(.int .i64 0),I.an,(.int .i64 0),(.int .i64 0),(.int .i64 0),(.int .i64 0),(.int .i64 0)] λap U=>
 aL U (G 75 [Y] U) λbu aa=>
 bQ (some bu) (a1 aa (aQ P aa 103 ap (.agg [(.int .i64 0),(.int .i64 0),(.str []),(.str []),(.int .i64 0),I.an,(.int .i64 0),(.int .i64 0),(.int .i64 0),(.int .i64 0),(.int .i64 0)])) λae=>
 ab (am P ae 103 ap) λr=>
 some (r,ae)) (ab (b7 Y) λb8=>
 ab (aF P 112 b8 0) λcb=>
 ab (am P aa 50 cb) λb0=>
 ab (b7 Y) λbX=>
 ab (aF P 112 bX 1) λbI=>
 ab (am P aa 3 bI) λcc=>
 ab (b7 Y) λc6=>
 ab (aF P 112 c6 2) λcN=>
 ab (am P aa 3 cN) λcz=>
 aL aa (G 153 [b0,cc,cz] aa) λc7 ae=>
 ab (gf c7 0) λcI=>
 cv ae [(.int .i64 0),(.int .i64 0),(.str []),(.str []),(.int .i64 0),I.an,(.int .i64 0),(.int .i64 0),(.int .i64 0),(.int .i64 0),(.int .i64 0)] λaC al=>
 cv al [(.int .i64 0),(.int .i64 0)] λbf aB=>
 a1 aB (aQ P aB 103 aC cI) λaG=>
 ab (gf c7 1) λdb=>
 ab (gf c7 2) λdn=>
 a1 aG (aQ P aG 29 bf dn) λaP=>
 bif ((cd (am P aa 50 cb) b0&&true)&&((cd (am P aa 3 bI) cc&&true)&&((cd (am P aa 3 cN) cz&&true)&&true))) then(ab (am P aP 29 bf) λdT=>
 aL aP (G 154 [Y,db,dT] aP) λdI bn=>
 ab (am P bn 103 aC) λcH=>
 a1 bn (aQ P bn 103 ap cH) λbH=>
 ab (am P bH 103 ap) λr=>
 some (r,bH)) else none)
theorem ahv(G:av)(N:Nat)(Y:I)(H:J):bp Tryz.f137 G N (cF [Y]) H=xX G Y H:=by
 refine cP (A:=bp Tryz.f137 G N) (aN _) ?_;delta xX;kernel_rfl
theorem ai7(N:Nat){Y:I}{H:J}{r:I×J}(h:xX (au P ao) Y H=some r):au P ao 137 [Y] H=some r:=
 cV ad Tryz.func137 ad ad ad ((ahv (au P ao) N Y H).trans h)
def w7(G:av)(Y aC a_:I)(H:J):O:=
 ab (b7 Y) λbI=>
 ab (aF P 112 bI 1) λcc=>
 ab (am P H 3 cc) λcG=>
 ab (aZ P .add 3 true cG (.int .i64 1)) λc6=>
 ab (b7 Y) λcN=>
 ab (aF P 112 cN 1) λcz=>
 a1 H (aQ P H 3 cz c6) λU=>
 aL U (G 107 [Y,(.str [58])] U) λcI aa=>
 aL aa (G 75 [Y] aa) λdn ae=>
 bQ (some dn) (a1 ae (aQ P ae 43 aC (.agg [(.str []),(.int .i64 0)])) λal=>
 ab (am P al 43 aC) λr=>
 some (.tuple [(.str []),r],al)) (ab (b7 Y) λdI=>
 ab (aF P 112 dI 0) λcH=>
 ab (am P ae 50 cH) λep=>
 ab (b7 Y) λef=>
 ab (aF P 112 ef 1) λe6=>
 ab (am P ae 3 e6) λeg=>
 aL ae (G 73 [ep,eg] ae) λej al=>
 ab (gf ej 0) λed=>
 cv al [(.str []),(.int .i64 0)] λbf aB=>
 cv aB [(.int .i64 0),(.int .i64 0)] λbu aG=>
 a1 aG (aQ P aG 43 bf ed) λaP=>
 ab (gf ej 1) λfj=>
 ab (gf ej 2) λft=>
 a1 aP (aQ P aP 29 bu ft) λbn=>
 bif ((cd (am P ae 50 cH) ep&&true)&&((cd (am P ae 3 e6) eg&&true)&&true)) then(ab (am P bn 29 bu) λfW=>
 aL bn (G 154 [Y,fj,fW] bn) λgv bH=>
 ab (aF P 57 a_ 1) λeU=>
 ab (am P bH 9 eU) λgw=>
 ab (am P bH 43 bf) λgb=>
 a1 bH (aQ P bH 43 aC gb) λco=>
 ab (am P co 43 aC) λr=>
 some (.tuple [gw,r],co)) else none)
theorem acY(G:av)(N:Nat): ∀R H,cA P G N (Code.snd (Code.snd (Code.snd (di Tryz.f155)))) (b_ Tryz.f155) [] (b_ Tryz.f155) R H=w7 G (R 0) (R 3) (R 4) H:=by
 refine ds (aN _) λR H=> ?_
 delta w7;kernel_rfl
def r2(G:av)(Y:I)(H:J):O:=
 cv H [(.str []),(.int .i64 0)] λaC U=>
 aL U (G 123 [Y] U) λbF aa=>
 cv aa [(.int .i64 0),(.str []),(.int .i64 0),(.int .i64 0)] λa_ ae=>
 a1 ae (aQ P ae 57 a_ bF) λal=>
 ab (aF P 57 a_ 0) λcr=>
 ab (am P al 3 cr) λb8=>
 ab (aZ P .neq 3 true b8 (.int .i64 1)) λcb=>
 bQ (some cb) (aL al (G 104 [Y,(.int .i64 2)] al) λbT aB=>
 w7 G Y aC a_ aB) (w7 G Y aC a_ al)
theorem ahH(G:av)(N:Nat)(Y:I)(H:J):bp Tryz.f155 G N (cF [Y]) H=r2 G Y H:=by
 refine cP (A:=bp Tryz.f155 G N) ((br ad ((br ad ((br ad (acY G N) (aN _))) (aN _))) (aN _))) ?_;delta r2;generalize w7 G=ba;revert ba;refine id ?_;intro ba;kernel_rfl
theorem aji(N:Nat){Y:I}{H:J}{r:I×J}(h:r2 (au P ao) Y H=some r):au P ao 155 [Y] H=some r:=
 cV ad Tryz.func155 ad ad ad ((ahH (au P ao) N Y H).trans h)
def yS(G:av)(N:Nat)(bu:I)(H:J):O:=
 some (bu,H)
theorem acC(G:av)(N:Nat): ∀R H,cA P G N (Code.snd (Code.snd (Code.snd (di Tryz.f105)))) (b_ Tryz.f105) [] (b_ Tryz.f105) R H=yS G N (R 7) H:=by
 refine ds (aN _) λR H=> ?_
 delta yS;kernel_rfl
def DZ(G:av)(N:Nat)(bE:I->I->I->I->J->O)(Y ai:I)(ap bu:I)(H:J):O:=
 aL H (G 75 [Y] H) λbF U=>
 ab (fh .not bF) λcr=>
 aD cr true U (dw Y) λcb aa=>
 aD cr true aa (dw ai) λb0 ae=>
 aD cr true ae (λq=>fo ae (G 103 [cb,(.int .i64 4),b0] ae) q) λbT al=>
 aD cr true al (bm (fh .not bT)) λbX aB=>
 ab (cW cr (some bX) (some (.bool false))) λbI=>
 bQ (some bI) (qR G aB ap [] λc6 aG=>
 dA aG (dH P (aG).next 44 1 [(0,c6)]) λcN aP=>
 aL aP (fM P aP [44,44] bu cN) λcz bn=>
 bE Y ai ap cz bn) (yS G N bu aB)
def yT(G:av)(N:Nat):Nat->I->I->I->I->J->O
 |0,_,_,_,_,_=>none
 |n+1,Y,ai,ap,bu,H=>DZ G N (yT G N n) Y ai ap bu H
theorem acB(G:av)(N:Nat)(bE:I->I->I->I->J->O): ∀R H,cA P G N (Code.fst (Code.fst (Code.fst (Code.snd (Code.snd (di Tryz.f105)))))) (λR H=>bE (R 0) (R 1) (R 2) (R 7) H) [(0,(λR H=>yS G N (R 7) H))] (b_ Tryz.f105) R H=DZ G N bE (R 0) (R 1) (R 2) (R 7) H:=by
 refine ds (aN _) λR H=> ?_
 delta DZ;generalize yS G N=ba;revert ba;refine id ?_;intro ba;kernel_rfl
def vQ(G:av)(N:Nat)(Y ai ap:I)(H:J):O:=
 yT G N N Y ai ap I.an H
theorem aha(G:av)(N:Nat)(Y:I)(ai:I)(ap:I)(H:J):bp Tryz.f105 G N (cF [Y,ai,ap]) H=vQ G N Y ai ap H:=by
 refine cP (A:=bp Tryz.f105 G N) ((br ad ((br ad ((br ad (acC G N) ((fL ad ((gD (k:=λm R H=>yT G N m (R 0) (R 1) (R 2) (R 7) H) ad (λR H=>ad) (λm=>acB G N (yT G N m)))))))) (aN _))) (aN _))) ?_;delta vQ;generalize yT G N N=ba;revert ba;refine id ?_;intro ba;kernel_rfl
theorem aiM(N:Nat){Y ai ap:I}{H:J}{r:I×J}(h:vQ (au P ao) N Y ai ap H=some r):au P ao 105 [Y,ai,ap] H=some r:=
 cV ad Tryz.func105 ad ad ad ((aha (au P ao) N Y ai ap H).trans h)
def yo(G:av)(Y:I)(H:J):O:=
 aL H (G 103 [Y,(.int .i64 4),(.str [123])] H) λbB U=>
 ab (fh .not bB) λbu=>
 bQ (some bu) (aL U (G 104 [Y,(.int .i64 2)] U) λbF aa=>
 some (I.an,aa)) (ab (b7 Y) λcb=>
 ab (aF P 112 cb 2) λb0=>
 ab (am P U 3 b0) λbT=>
 ab (aZ P .geq 3 true bT (.int .i64 50)) λbX=>
 bQ (some bX) (aL U (G 104 [Y,(.int .i64 4)] U) λcc aa=>
 some (I.an,aa)) (ab (b7 Y) λc6=>
 ab (aF P 112 c6 1) λcN=>
 ab (am P U 3 cN) λcz=>
 ab (aZ P .add 3 true cz (.int .i64 1)) λc7=>
 ab (b7 Y) λcI=>
 ab (aF P 112 cI 1) λdb=>
 a1 U (aQ P U 3 db c7) λaa=>
 ab (b7 Y) λdu=>
 ab (aF P 112 du 2) λdh=>
 ab (am P aa 3 dh) λdT=>
 ab (aZ P .add 3 true dT (.int .i64 1)) λdI=>
 ab (b7 Y) λcH=>
 ab (aF P 112 cH 2) λep=>
 a1 aa (aQ P aa 3 ep dI) λae=>
 aL ae (G 105 [Y,(.str [125]),(.func (.func 106) [Y] [])] ae) λeg al=>
 ab (b7 Y) λed=>
 ab (aF P 112 ed 2) λfj=>
 ab (am P al 3 fj) λft=>
 ab (aZ P .sub 3 true ft (.int .i64 1)) λe7=>
 ab (b7 Y) λfy=>
 ab (aF P 112 fy 2) λfW=>
 a1 al (aQ P al 3 fW e7) λaB=>
 aL aB (G 107 [Y,(.str [125])] aB) λeU aG=>
 some (eg,aG)))
theorem akz(G:av)(N:Nat)(Y:I)(H:J):bp Tryz.f74 G N (cF [Y]) H=yo G Y H:=by
 refine cP (A:=bp Tryz.f74 G N) (aN _) ?_;delta yo;kernel_rfl
theorem amA(N:Nat){Y:I}{H:J}{r:I×J}(h:yo (au P ao) Y H=some r):au P ao 74 [Y] H=some r:=
 cV ad Tryz.func74 ad ad ad ((akz (au P ao) N Y H).trans h)
def wY(G:av)(Y ap:I)(aC a_:I)(H:J):O:=
 qR G H a_ [Y] λdT U=>
 cv U [(.int .i64 0),(.str []),(.str []),(.int .i64 0),I.an,I.an,I.an,(.int .i64 0),(.int .i64 0)] λbB aa=>
 a1 aa (aQ P aa 98 bB dT) λae=>
 ab (aF P 57 aC 3) λdI=>
 ab (am P ae 3 dI) λcH=>
 ab (aF P 98 bB 6) λep=>
 a1 ae (aQ P ae 3 ep cH) λal=>
 ab (am P al 98 bB) λdV=>
 a1 al (aQ P al 98 ap dV) λaB=>
 ab (am P aB 98 ap) λr=>
 some (r,aB)
theorem acD(G:av)(N:Nat): ∀R H,cA P G N (Code.snd (Code.snd (Code.snd (Code.snd (di Tryz.f106))))) (b_ Tryz.f106) [] (b_ Tryz.f106) R H=wY G (R 0) (R 2) (R 3) (R 4) H:=by
 refine ds (aN _) λR H=> ?_
 delta wY;kernel_rfl
def vR(G:av)(Y:I)(H:J):O:=
 cv H [(.int .i64 0),(.str []),(.str []),(.int .i64 0),I.an,I.an,I.an,(.int .i64 0),(.int .i64 0)] λap U=>
 aL U (G 123 [Y] U) λbS aa=>
 cv aa [(.int .i64 0),(.str []),(.int .i64 0),(.int .i64 0)] λaC ae=>
 a1 ae (aQ P ae 57 aC bS) λal=>
 ab (aF P 57 aC 0) λbF=>
 ab (am P al 3 bF) λcr=>
 ab (aZ P .eql 3 true cr (.int .i64 3)) λb8=>
 bQ (some b8) (aL al (G 125 [] al) λcb aB=>
 ab (aF P 57 aC 1) λb0=>
 ab (am P aB 9 b0) λbT=>
 ab (n1 P aB 144 cb bT false) λbX=>
 bif ((cd (am P al 9 b0) bT&&cd (am P aB 9 b0) bT)&&true) then(ab (aZ P .neq 143 true bX I.nilFunc) λcc=>
 bQ (some cc) (ab (b7 Y) λc6=>
 ab (aF P 112 c6 1) λcN=>
 ab (am P aB 3 cN) λcz=>
 ab (aZ P .add 3 true cz (.int .i64 1)) λc7=>
 ab (b7 Y) λcI=>
 ab (aF P 112 cI 1) λdb=>
 a1 aB (aQ P aB 3 db c7) λaG=>
 wY G Y ap aC bX aG) (wY G Y ap aC (.func (.func 124) [] []) aB)) else none) (wY G Y ap aC (.func (.func 124) [] []) al)
theorem ahb(G:av)(N:Nat)(Y:I)(H:J):bp Tryz.f106 G N (cF [Y]) H=vR G Y H:=by
 refine cP (A:=bp Tryz.f106 G N) ((br ad ((br ad ((br ad ((br ad (acD G N) (aN _))) (aN _))) (aN _))) (aN _))) ?_;delta vR;generalize wY G=ba;revert ba;refine id ?_;intro ba;kernel_rfl
theorem aiN(N:Nat){Y:I}{H:J}{r:I×J}(h:vR (au P ao) Y H=some r):au P ao 106 [Y] H=some r:=
 cV ad Tryz.func106 ad ad ad ((ahb (au P ao) N Y H).trans h)
def HY(G:av)(H:J):O:=
 dA H (some (.map (H).next,.map [])) λai U=>
 a1 U (jg P U 144 ai (.str [118,97,114]) (.func (.func 139) [] [])) λaa=>
 a1 aa (jg P aa 144 ai (.str [108,101,116]) (.func (.func 140) [] [])) λae=>
 a1 ae (jg P ae 144 ai (.str [105,102]) (.func (.func 141) [] [])) λal=>
 a1 al (jg P al 144 ai (.str [119,104,105,108,101]) (.func (.func 142) [] [])) λaB=>
 a1 aB (jg P aB 144 ai (.str [114,101,116,117,114,110]) (.func (.func 143) [] [])) λaG=>
 a1 aG (jg P aG 144 ai (.str [112,114,105,110,116]) (.func (.func 144) [] [])) λaP=>
 some (ai,aP)
theorem ahp(G:av)(N:Nat)(H:J):bp Tryz.f125 G N (cF []) H=HY G H:=by
 refine cP (A:=bp Tryz.f125 G N) (aN _) ?_;delta HY;kernel_rfl
theorem ai1(N:Nat){H:J}{r:I×J}(h:HY (au P ao) H=some r):au P ao 125 [] H=some r:=
 cV ad Tryz.func125 ad ad ad ((ahp (au P ao) N H).trans h)
def CB(G:av)(Y:I)(H:J):O:=
 cv H [(.int .i64 0),(.str []),(.str []),(.int .i64 0),I.an,I.an,I.an,(.int .i64 0),(.int .i64 0)] λap U=>
 aL U (G 155 [Y] U) λbu aa=>
 ab (gf bu 0) λbS=>
 ab (gf bu 1) λbF=>
 cv aa [(.str []),(.int .i64 0)] λa_ ae=>
 a1 ae (aQ P ae 43 a_ bF) λal=>
 aL al (G 107 [Y,(.str [59])] al) λb8 aB=>
 ab (am P aB 43 a_) λb0=>
 ab (cM P 98 [(0,(.int .i64 1)),(1,bS),(2,b0)]) λbT=>
 a1 aB (aQ P aB 98 ap bT) λaG=>
 ab (am P aG 98 ap) λr=>
 some (r,aG)
theorem ahx(G:av)(N:Nat)(Y:I)(H:J):bp Tryz.f139 G N (cF [Y]) H=CB G Y H:=by
 refine cP (A:=bp Tryz.f139 G N) (aN _) ?_;delta CB;kernel_rfl
theorem ai9(N:Nat){Y:I}{H:J}{r:I×J}(h:CB (au P ao) Y H=some r):au P ao 139 [Y] H=some r:=
 cV ad Tryz.func139 ad ad ad ((ahx (au P ao) N Y H).trans h)
def xY(G:av)(Y:I)(H:J):O:=
 cv H [(.int .i64 0),(.str []),(.str []),(.int .i64 0),I.an,I.an,I.an,(.int .i64 0),(.int .i64 0)] λap U=>
 aL U (G 155 [Y] U) λbS aa=>
 ab (gf bS 0) λbF=>
 ab (gf bS 1) λcr=>
 cv aa [(.str []),(.int .i64 0)] λa_ ae=>
 a1 ae (aQ P ae 43 a_ cr) λal=>
 aL al (G 107 [Y,(.str [61])] al) λcb aB=>
 aL aB (G 137 [Y] aB) λbT aG=>
 cv aG [(.int .i64 0),(.int .i64 0),(.str []),(.str []),(.int .i64 0),I.an,(.int .i64 0),(.int .i64 0),(.int .i64 0),(.int .i64 0),(.int .i64 0)] λbf aP=>
 a1 aP (aQ P aP 103 bf bT) λbn=>
 aL bn (G 107 [Y,(.str [59])] bn) λbI bH=>
 ab (am P bH 43 a_) λcG=>
 ab (am P bH 103 bf) λc6=>
 dA bH (dH P (bH).next 96 1 [(0,c6)]) λcN co=>
 ab (cM P 98 [(0,(.int .i64 2)),(1,bF),(2,cG),(3,cN)]) λcz=>
 a1 co (aQ P co 98 ap cz) λdp=>
 ab (am P dp 98 ap) λr=>
 some (r,dp)
theorem ahy(G:av)(N:Nat)(Y:I)(H:J):bp Tryz.f140 G N (cF [Y]) H=xY G Y H:=by
 refine cP (A:=bp Tryz.f140 G N) (aN _) ?_;delta xY;kernel_rfl
theorem ai_(N:Nat){Y:I}{H:J}{r:I×J}(h:xY (au P ao) Y H=some r):au P ao 140 [Y] H=some r:=
 cV ad Tryz.func140 ad ad ad ((ahy (au P ao) N Y H).trans h)
def yZ(G:av)(ap aC:I)(H:J):O:=
 ab (am P H 98 aC) λbX=>
 a1 H (aQ P H 98 ap bX) λU=>
 ab (am P U 98 ap) λr=>
 some (r,U)
theorem acR(G:av)(N:Nat): ∀R H,cA P G N (Code.snd (Code.snd (Code.snd (di Tryz.f141)))) (b_ Tryz.f141) [] (b_ Tryz.f141) R H=yZ G (R 2) (R 3) H:=by
 refine ds (aN _) λR H=> ?_
 delta yZ;kernel_rfl
def vS(G:av)(Y:I)(H:J):O:=
 cv H [(.int .i64 0),(.str []),(.str []),(.int .i64 0),I.an,I.an,I.an,(.int .i64 0),(.int .i64 0)] λap U=>
 aL U (G 137 [Y] U) λbf aa=>
 dA aa (dH P (aa).next 96 1 [(0,bf)]) λbB ae=>
 aL ae (G 74 [Y] ae) λbS al=>
 ab (cM P 98 [(0,(.int .i64 5)),(3,bB),(4,bS)]) λbF=>
 cv al [(.int .i64 0),(.str []),(.str []),(.int .i64 0),I.an,I.an,I.an,(.int .i64 0),(.int .i64 0)] λaC aB=>
 a1 aB (aQ P aB 98 aC bF) λaG=>
 aL aG (G 126 [Y,(.int .i64 3),(.str [101,108,115,101])] aG) λb8 aP=>
 bQ (some b8) (aL aP (G 74 [Y] aP) λb0 bn=>
 ab (aF P 98 aC 5) λbT=>
 a1 bn (aQ P bn 44 bT b0) λbH=>
 yZ G ap aC bH) (yZ G ap aC aP)
theorem ahz(G:av)(N:Nat)(Y:I)(H:J):bp Tryz.f141 G N (cF [Y]) H=vS G Y H:=by
 refine cP (A:=bp Tryz.f141 G N) ((br ad ((br ad ((br ad (acR G N) (aN _))) (aN _))) (aN _))) ?_;delta vS;generalize yZ G=ba;revert ba;refine id ?_;intro ba;kernel_rfl
theorem aja(N:Nat){Y:I}{H:J}{r:I×J}(h:vS (au P ao) Y H=some r):au P ao 141 [Y] H=some r:=
 cV ad Tryz.func141 ad ad ad ((ahz (au P ao) N Y H).trans h)
def CC(G:av)(Y:I)(H:J):O:=
 cv H [(.int .i64 0),(.str []),(.str []),(.int .i64 0),I.an,I.an,I.an,(.int .i64 0),(.int .i64 0)] λap U=>
 aL U (G 137 [Y] U) λa_ aa=>
 dA aa (dH P (aa).next 96 1 [(0,a_)]) λbf ae=>
 aL ae (G 74 [Y] ae) λbu al=>
 ab (cM P 98 [(0,(.int .i64 6)),(3,bf),(4,bu)]) λbS=>
 a1 al (aQ P al 98 ap bS) λaB=>
 ab (am P aB 98 ap) λr=>
 some (r,aB)
theorem ahA(G:av)(N:Nat)(Y:I)(H:J):bp Tryz.f142 G N (cF [Y]) H=CC G Y H:=by
 refine cP (A:=bp Tryz.f142 G N) (aN _) ?_;delta CC;kernel_rfl
theorem ajb(N:Nat){Y:I}{H:J}{r:I×J}(h:CC (au P ao) Y H=some r):au P ao 142 [Y] H=some r:=
 cV ad Tryz.func142 ad ad ad ((ahA (au P ao) N Y H).trans h)
def y0(G:av)(Y ap aC:I)(H:J):O:=
 aL H (G 107 [Y,(.str [59])] H) λb0 U=>
 ab (am P U 98 aC) λbT=>
 a1 U (aQ P U 98 ap bT) λaa=>
 ab (am P aa 98 ap) λr=>
 some (r,aa)
theorem acS(G:av)(N:Nat): ∀R H,cA P G N (Code.snd (Code.snd (Code.snd (di Tryz.f143)))) (b_ Tryz.f143) [] (b_ Tryz.f143) R H=y0 G (R 0) (R 2) (R 3) H:=by
 refine ds (aN _) λR H=> ?_
 delta y0;kernel_rfl
def xZ(G:av)(Y:I)(H:J):O:=
 cv H [(.int .i64 0),(.str []),(.str []),(.int .i64 0),I.an,I.an,I.an,(.int .i64 0),(.int .i64 0)] λap U=>
 cv U [(.int .i64 0),(.str []),(.str []),(.int .i64 0),I.an,I.an,I.an,(.int .i64 0),(.int .i64 0)] λaC aa=>
 a1 aa (aQ P aa 98 aC (.agg [(.int .i64 7),(.str []),(.str []),(.int .i64 0),I.an,I.an,I.an,(.int .i64 0),(.int .i64 0)])) λae=>
 aL ae (G 103 [Y,(.int .i64 4),(.str [59])] ae) λbB al=>
 ab (fh .not bB) λbu=>
 bQ (some bu) (aL al (G 137 [Y] al) λbF aB=>
 dA aB (dH P (aB).next 96 1 [(0,bF)]) λcr aG=>
 ab (aF P 98 aC 3) λb8=>
 a1 aG (aQ P aG 96 b8 cr) λaP=>
 y0 G Y ap aC aP) (y0 G Y ap aC al)
theorem ahB(G:av)(N:Nat)(Y:I)(H:J):bp Tryz.f143 G N (cF [Y]) H=xZ G Y H:=by
 refine cP (A:=bp Tryz.f143 G N) ((br ad ((br ad ((br ad (acS G N) (aN _))) (aN _))) (aN _))) ?_;delta xZ;generalize y0 G=ba;revert ba;refine id ?_;intro ba;kernel_rfl
theorem ajc(N:Nat){Y:I}{H:J}{r:I×J}(h:xZ (au P ao) Y H=some r):au P ao 143 [Y] H=some r:=
 cV ad Tryz.func143 ad ad ad ((ahB (au P ao) N Y H).trans h)
def CD(G:av)(Y:I)(H:J):O:=
 cv H [(.int .i64 0),(.str []),(.str []),(.int .i64 0),I.an,I.an,I.an,(.int .i64 0),(.int .i64 0)] λap U=>
 aL U (G 137 [Y] U) λbf aa=>
 cv aa [(.int .i64 0),(.int .i64 0),(.str []),(.str []),(.int .i64 0),I.an,(.int .i64 0),(.int .i64 0),(.int .i64 0),(.int .i64 0),(.int .i64 0)] λaC ae=>
 a1 ae (aQ P ae 103 aC bf) λal=>
 aL al (G 107 [Y,(.str [59])] al) λbu aB=>
 ab (am P aB 103 aC) λbS=>
 dA aB (dH P (aB).next 96 1 [(0,bS)]) λbF aG=>
 ab (cM P 98 [(0,(.int .i64 8)),(3,bF)]) λcr=>
 a1 aG (aQ P aG 98 ap cr) λaP=>
 ab (am P aP 98 ap) λr=>
 some (r,aP)
theorem ahC(G:av)(N:Nat)(Y:I)(H:J):bp Tryz.f144 G N (cF [Y]) H=CD G Y H:=by
 refine cP (A:=bp Tryz.f144 G N) (aN _) ?_;delta CD;kernel_rfl
theorem ajd(N:Nat){Y:I}{H:J}{r:I×J}(h:CD (au P ao) Y H=some r):au P ao 144 [Y] H=some r:=
 cV ad Tryz.func144 ad ad ad ((ahC (au P ao) N Y H).trans h)
def yW(G:av)(Y ap aC:I)(H:J):O:=
 aL H (G 107 [Y,(.str [59])] H) λcz U=>
 ab (am P U 103 aC) λc7=>
 dA U (dH P (U).next 96 1 [(0,c7)]) λcI aa=>
 ab (cM P 98 [(0,(.int .i64 9)),(3,cI)]) λdb=>
 a1 aa (aQ P aa 98 ap db) λae=>
 ab (am P ae 98 ap) λr=>
 some (r,ae)
theorem acK(G:av)(N:Nat): ∀R H,cA P G N (Code.snd (Code.snd (Code.snd (Code.snd (di Tryz.f124))))) (b_ Tryz.f124) [] (b_ Tryz.f124) R H=yW G (R 0) (R 2) (R 3) H:=by
 refine ds (aN _) λR H=> ?_
 delta yW;kernel_rfl
def r1(G:av)(Y:I)(H:J):O:=
 cv H [(.int .i64 0),(.str []),(.str []),(.int .i64 0),I.an,I.an,I.an,(.int .i64 0),(.int .i64 0)] λap U=>
 aL U (G 137 [Y] U) λbf aa=>
 cv aa [(.int .i64 0),(.int .i64 0),(.str []),(.str []),(.int .i64 0),I.an,(.int .i64 0),(.int .i64 0),(.int .i64 0),(.int .i64 0),(.int .i64 0)] λaC ae=>
 a1 ae (aQ P ae 103 aC bf) λal=>
 aL al (G 103 [Y,(.int .i64 4),(.str [61])] al) λbu aB=>
 bQ (some bu) (ab (am P aB 103 aC) λbF=>
 aL aB (G 138 [Y,bF] aB) λcr aG=>
 a1 aG (aQ P aG 98 ap cr) λaP=>
 ab (am P aP 98 ap) λr=>
 some (r,aP)) (aL aB (G 103 [Y,(.int .i64 4),(.str [59])] aB) λcb aG=>
 aD cb true aG (bm (aF P 103 aC 0)) λbT aP=>
 aD cb true aP (qr (am P aP 3 bT)) λbX bn=>
 aD cb true bn (bm (aZ P .neq 3 true bX (.int .i64 7))) λbI bH=>
 ab (cW cb (some bI) (some (.bool false))) λcc=>
 bQ (some cc) (aL bH (G 104 [Y,(.int .i64 2)] bH) λc6 co=>
 yW G Y ap aC co) (yW G Y ap aC bH))
theorem aho(G:av)(N:Nat)(Y:I)(H:J):bp Tryz.f124 G N (cF [Y]) H=r1 G Y H:=by
 refine cP (A:=bp Tryz.f124 G N) ((br ad ((br ad ((br ad ((br ad (acK G N) (aN _))) (aN _))) (aN _))) (aN _))) ?_;delta r1;generalize yW G=ba;revert ba;refine id ?_;intro ba;kernel_rfl
theorem ai0(N:Nat){Y:I}{H:J}{r:I×J}(h:r1 (au P ao) Y H=some r):au P ao 124 [Y] H=some r:=
 cV ad Tryz.func124 ad ad ad ((aho (au P ao) N Y H).trans h)
def w4(G:av)(Y aC a_:I)(H:J):O:=
 aL H (G 107 [Y,(.str [61])] H) λc7 U=>
 aL U (G 137 [Y] U) λdb aa=>
 cv aa [(.int .i64 0),(.int .i64 0),(.str []),(.str []),(.int .i64 0),I.an,(.int .i64 0),(.int .i64 0),(.int .i64 0),(.int .i64 0),(.int .i64 0)] λbf ae=>
 a1 ae (aQ P ae 103 bf db) λal=>
 aL al (G 107 [Y,(.str [59])] al) λdu aB=>
 ab (aF P 103 aC 0) λdh=>
 ab (am P aB 3 dh) λdT=>
 ab (aZ P .eql 3 true dT (.int .i64 4)) λdI=>
 bQ (some dI) (ab (aF P 103 aC 2) λcH=>
 ab (am P aB 9 cH) λep=>
 ab (am P aB 103 bf) λdV=>
 dA aB (dH P (aB).next 96 1 [(0,dV)]) λef aG=>
 ab (cM P 98 [(0,(.int .i64 3)),(1,ep),(3,ef)]) λe6=>
 a1 aG (aQ P aG 98 a_ e6) λaP=>
 ab (am P aP 98 a_) λr=>
 some (r,aP)) (ab (am P aB 103 aC) λeg=>
 ab (am P aB 103 bf) λej=>
 dA aB (dH P (aB).next 96 2 [(0,eg),(1,ej)]) λed aG=>
 ab (cM P 98 [(0,(.int .i64 4)),(3,ed)]) λfj=>
 a1 aG (aQ P aG 98 a_ fj) λaP=>
 ab (am P aP 98 a_) λr=>
 some (r,aP))
theorem acQ(G:av)(N:Nat): ∀R H,cA P G N (Code.snd (Code.snd (di Tryz.f138))) (b_ Tryz.f138) [] (b_ Tryz.f138) R H=w4 G (R 0) (R 3) (R 4) H:=by
 refine ds (aN _) λR H=> ?_
 delta w4;kernel_rfl
def sW(G:av)(Y ai:I)(H:J):O:=
 dA H (eW (H).next ai) λaC U=>
 cv U [(.int .i64 0),(.str []),(.str []),(.int .i64 0),I.an,I.an,I.an,(.int .i64 0),(.int .i64 0)] λa_ aa=>
 ab (aF P 103 aC 0) λbB=>
 ab (am P aa 3 bB) λbu=>
 ab (aZ P .neq 3 true bu (.int .i64 4)) λbS=>
 aD bS true aa (bm (aF P 103 aC 0)) λcr ae=>
 aD bS true ae (qr (am P ae 3 cr)) λb8 al=>
 aD bS true al (bm (aZ P .neq 3 true b8 (.int .i64 5))) λcb aB=>
 ab (cW bS (some cb) (some (.bool false))) λb0=>
 aD b0 true aB (bm (aF P 103 aC 0)) λbX aG=>
 aD b0 true aG (qr (am P aG 3 bX)) λbI aP=>
 aD b0 true aP (bm (aZ P .neq 3 true bI (.int .i64 6))) λcc bn=>
 ab (cW b0 (some cc) (some (.bool false))) λcG=>
 bQ (some cG) (aL bn (G 104 [Y,(.int .i64 2)] bn) λcN bH=>
 w4 G Y aC a_ bH) (w4 G Y aC a_ bn)
theorem ahw(G:av)(N:Nat)(Y:I)(ai:I)(H:J):bp Tryz.f138 G N (cF [Y,ai]) H=sW G Y ai H:=by
 refine cP (A:=bp Tryz.f138 G N) ((br ad ((br ad (acQ G N) (aN _))) (aN _))) ?_;delta sW;generalize w4 G=ba;revert ba;refine id ?_;intro ba;kernel_rfl
theorem ai8(N:Nat){Y ai:I}{H:J}{r:I×J}(h:sW (au P ao) Y ai H=some r):au P ao 138 [Y,ai] H=some r:=
 cV ad Tryz.func138 ad ad ad ((ahw (au P ao) N Y ai H).trans h)
def AJ(G:av)(Y ai ap:I)(H:J):O:=
 cv H [(.int .i64 0),(.int .i64 0)] λbS U=>
 bj P .max [3,3] [ap,(.int .i64 0)] U λbT=>
 ab (cM P 112 [(0,Y),(1,ai),(2,bT)]) λbX=>
 dA U (eW (U).next bX) λbI aa=>
 aL aa (G 74 [bI] aa) λcG ae=>
 aL ae (G 75 [bI] ae) λcN al=>
 bQ (some cN) (ab (b7 bI) λc7=>
 ab (aF P 112 c7 3) λcI=>
 ab (am P al 29 cI) λdb=>
 a1 al (aQ P al 29 bS db) λaB=>
 ab (am P aB 29 bS) λr=>
 some (.tuple [I.an,(.int .i64 0),r],aB)) (ab (b7 bI) λdh=>
 ab (aF P 112 dh 1) λdT=>
 ab (am P al 3 dT) λdI=>
 a1 al (aQ P al 29 bS (.agg [(.int .i64 0),(.int .i64 0)])) λaB=>
 ab (am P aB 29 bS) λr=>
 some (.tuple [cG,dI,r],aB))
theorem aki(G:av)(N:Nat)(Y:I)(ai:I)(ap:I)(H:J):bp Tryz.f55 G N (cF [Y,ai,ap]) H=AJ G Y ai ap H:=by
 refine cP (A:=bp Tryz.f55 G N) (aN _) ?_;delta AJ;kernel_rfl
theorem amj(N:Nat){Y ai ap:I}{H:J}{r:I×J}(h:AJ (au P ao) Y ai ap H=some r):au P ao 55 [Y,ai,ap] H=some r:=
 cV ad Tryz.func55 ad ad ad ((aki (au P ao) N Y ai ap H).trans h)
end
end
section
theorem Gw{H:J}{r:Nat}{aj:I}{s:aw}{T:List Tok}(a7:c1 H r aj s)(bC:h9 H aj T):W (au P ao 123 [.ptr r 0 0] H) λv H'=>v=(aq T s.at_).v/\aR H H':=by
 unfold c1 at a7;have ax:=J.aW a7;refine cU (λ_=>aiZ 0) ?_;by_cases a6:s.at_<0
 ·simp-implicitDefEqProofs(disch:=try exact ag) only[Ac,reduceAdd,reduceLeDiff,reduceIte,az,a7,a6,decide_true,a8];exact⟨by simp[aq,a6,Tok.v,Tok.none],aR.push _ _⟩
 ·rcases bC with⟨rfl,rfl⟩|⟨l,i,cap,rfl,hB⟩
  ·have U:(0:Int)<=s.at_:=Z;simp-implicitDefEqProofs(disch:=try exact ag) only[Ac,reduceAdd,reduceLeDiff,reduceIte,az,a7,a6,U,decide_true,decide_false,a8,En];exact⟨by simp[aq,a6,Tok.v,Tok.none,U],aR.push _ _⟩
  ·by_cases U:(T.length:Int)<=s.at_
   ·simp-implicitDefEqProofs(disch:=try exact ag) only[Ac,reduceAdd,reduceLeDiff,reduceIte,az,a7,a6,U,decide_true,decide_false,a8,xP];exact⟨by simp[aq,a6,Tok.v,Tok.none,U],aR.push _ _⟩
   ·have eo:s.at_.toNat<T.length:=Z;obtain⟨ro,els,aa,ae⟩:=hB.resolve_left (by rintro rfl;simp at eo);have lV:=J.aW aa;have al:=ae s.at_.toNat T[s.at_.toNat] (by simp[eo]);simp only[Tok.cells] at al;simp-implicitDefEqProofs(disch:=try exact ag) only[Ac,reduceAdd,reduceLeDiff,reduceIte,az,a7,a6,U,decide_true,decide_false,a8,xP,EF,aa,al];refine⟨?_,aR.push _ _⟩;simp[aq,a6,U,Tok.v,eo]
theorem Bb{H:J}{r:Nat}{aj:I}{s:aw}(a7:c1 H r aj s):W (au P ao 75 [.ptr r 0 0] H) λv H'=>v= .bool (s.aA != 0)/\H'=H:=by
 unfold c1 at a7;refine cU (λ_=>amB 0) ?_;simp-implicitDefEqProofs(disch:=try exact ag) only[I5,reduceAdd,reduceLeDiff,reduceIte,az,a7];exact a8.2 ⟨rfl,rfl⟩
theorem Bm{H:J}{r:Nat}{T:List Tok}{aj:I}{s:aw}(af:c8 H r T aj s)(e:Int):W (au P ao 104 [.ptr r 0 0,.int .i64 e] H) λv H'=>v= .tuple []/\cB r H H'/\c8 H' r T aj (cL T e s):=by
 refine cU (λ_=>aiL 0) ?_;have a7:=af.rd;have df:=af.b9.one;rw[z8];refine aY (Bb a7) ?_;rintro _ H1 ⟨rfl,rfl⟩;refine⟨bL _,?_⟩;by_cases U:s.aA=0
 ·rw[show cL T e s={s with aA:=e,cw:=(aq T s.at_).pos} by simp[cL,U]];simp-implicitDefEqProofs(disch:=try exact ag) only[z8,bj,bO,U,bne_self_eq_false];refine aY (Gw a7 af.b9) ?_;rintro _ bl ⟨rfl,aJ⟩;refine⟨aJ.1,?_⟩;have cJ:c1 bl r aj s:=a7.aK aJ;have fH:=cJ;unfold c1 at fH;simp-implicitDefEqProofs(disch:=try exact ag) only[z8,reduceAdd,reduceLeDiff,reduceIte,az,Tok.v,fH,df];obtain⟨m,bb⟩:=hT cJ {s with aA:=e,cw:=(aq T s.at_).pos};exact a8.2 ⟨rfl,(aJ.mut _).trans m,af.mut ((aJ.mut _).trans m) bb⟩
 ·have fr:(s.aA != 0)=true:=by simpa using U
  rw[show cL T e s=s by simp[cL,U]];simp-implicitDefEqProofs(disch:=try exact ag) only[z8,bj,bO,fr];exact a8.2 ⟨rfl,dE.refl _ _,af⟩
theorem BH{H:J}{r:Nat}{aj:I}{s:aw}{T:List Tok}(a7:c1 H r aj s)(bC:h9 H aj T)(k:Int)(x:List UInt8):W (au P ao 103 [.ptr r 0 0,.int .i64 k,.str x] H) λv H'=>v= .bool (b4 T s k x)/\aR H H':=by
 refine cU (λ_=>aiK 0) ?_;rw[xT];refine aY (Gw a7 bC) ?_;rintro _ H1 ⟨rfl,aU⟩;refine⟨aU.1,?_⟩;simp-implicitDefEqProofs(disch:=try exact ag) only[xT,reduceAdd,reduceLeDiff,reduceIte,az,Tok.v];refine aY (Bb (a7.aK (aU.bV _))) ?_;rintro _ bl ⟨rfl,rfl⟩;refine⟨bL _,?_⟩;by_cases U:s.aA=0
 ·by_cases aa:(aq T s.at_).kind=k
  ·simp-implicitDefEqProofs(disch:=try exact ag) only[xT,reduceAdd,reduceLeDiff,reduceIte,az,a8,U,aa,bne_self_eq_false,Bool.not_false,beq_self_eq_true];exact⟨by simp[b4,U,aa],aU.bV _⟩
  ·have hb:((aq T s.at_).kind==k)=false:=by simpa using aa
   simp-implicitDefEqProofs(disch:=try exact ag) only[xT,reduceAdd,reduceLeDiff,reduceIte,az,a8,U,hb,bne_self_eq_false,Bool.not_false];exact⟨by simp[b4,aa],aU.bV _⟩
 ·have fr:(s.aA != 0)=true:=by simpa using U
  simp-implicitDefEqProofs(disch:=try exact ag) only[xT,reduceAdd,reduceLeDiff,reduceIte,az,a8,fr,Bool.not_true];exact⟨by simp[b4,U],aU.bV _⟩
theorem PB{H:J}{r:Nat}{T:List Tok}{aj:I}{s:aw}(af:c8 H r T aj s)(k:Int)(x:List UInt8):W (au P ao 126 [.ptr r 0 0,.int .i64 k,.str x] H) λv H'=>v= .bool (fg T k x s).1/\cB r H H'/\c8 H' r T aj (fg T k x s).2:=by
 refine cU (λ_=>ai2 0) ?_;have df:=af.b9.one;rw[Cz];refine aY (BH af.rd af.b9 k x) ?_;rintro _ H1 ⟨rfl,aU⟩;refine⟨aU.1,?_⟩;have cJ:=af.rd.aK aU;have fH:=cJ;unfold c1 at fH;cases ay:b4 T s k x with
 |false=>
  rw[show fg T k x s=(false,s) by simp[fg,ay]];simp-implicitDefEqProofs(disch:=try exact ag) only[Cz,reduceAdd,reduceLeDiff,reduceIte,az,Bool.not_false];exact a8.2 ⟨rfl,aU.mut _,af.aK aU⟩
 |true=>
  rw[show fg T k x s=(true,aE s) by simp[fg,ay]];simp-implicitDefEqProofs(disch:=try exact ag) only[Cz,reduceAdd,reduceLeDiff,reduceIte,az,fH,df,Bool.not_true];obtain⟨m,bb⟩:=hT cJ (aE s);exact a8.2 ⟨rfl,(aU.mut _).trans m,af.mut ((aU.mut _).trans m) bb⟩
theorem tw{H:J}{r:Nat}{T:List Tok}{aj:I}{s:aw}(af:c8 H r T aj s)(x:List UInt8):W (au P ao 107 [.ptr r 0 0,.str x] H) λv H'=>v= .tuple []/\cB r H H'/\c8 H' r T aj (cY T x s).2:=by
 refine cU (λ_=>aiO 0) ?_;rw[Cy];refine aY (PB af 4 x) ?_;rintro _ H1 ⟨rfl,m1,dt⟩;refine⟨m1.1,?_⟩;cases ay:b4 T s 4 x with
 |false=>
  rw[show fg T 4 x s=(false,s) by simp[fg,ay]] at dt ⊢;rw[show cY T x s=(false,cL T 2 s) by simp[cY,ay]];simp-implicitDefEqProofs(disch:=try exact ag) only[Cy,reduceAdd,reduceLeDiff,reduceIte,az,Bool.not_false];refine aY (Bm dt 2) ?_;rintro _ bl ⟨rfl,m2,cK⟩;refine⟨m2.1,?_⟩;exact a8.2 ⟨rfl,m1.trans m2,cK⟩
 |true=>
  rw[show fg T 4 x s=(true,aE s) by simp[fg,ay]] at dt ⊢;rw[show cY T x s=(true,aE s) by simp[cY,ay]];simp-implicitDefEqProofs(disch:=try exact ag) only[Cy,reduceAdd,reduceLeDiff,reduceIte,az,Bool.not_true];exact a8.2 ⟨rfl,m1,dt⟩
def sN(at_ e a:Int)(s:aw):aw:=if e≠0 then {s with aA:=e,cw:=a} else {s with at_:=at_}
theorem Qh{H:J}{r:Nat}{T:List Tok}{aj:I}{s:aw}(af:c8 H r T aj s)(at_ e a:Int):W (au P ao 154 [.ptr r 0 0,.int .i64 at_,.agg [.int .i64 e,.int .i64 a]] H) λv H'=>v= .tuple []/\cB r H H'/\c8 H' r T aj (sN at_ e a s):=by
 refine cU (λ_=>ajh 0) ?_;have df:=af.b9.one;have ax:=af.rd.lt;have ic: ∀l,eW l (.agg [.int .i64 e,.int .i64 a])=some (.ptr l 0 0,.row false 2 [[.int .i64 e,.int .i64 a]]):=λl=>ij l _ rfl
 have aU:=aR.push H (.row false 2 [[.int .i64 e,.int .i64 a]]);have cJ:=af.rd.aK aU;have fH:=cJ;unfold c1 at fH;by_cases he:e=0
 ·have ay:(e != 0)=false:=by simp[he]
  rw[show sN at_ e a s={s with at_:=at_} by simp[sN,he]];obtain⟨m,bb⟩:=hT cJ {s with at_:=at_};simp-implicitDefEqProofs(disch:=try exact ag) only[EO,reduceAdd,reduceLeDiff,reduceIte,az,ic,ay,fH,df];exact a8.2 ⟨rfl,(aU.mut _).trans m,af.mut ((aU.mut _).trans m) bb⟩
 ·have ay:(e != 0)=true:=by simpa using he
  rw[show sN at_ e a s={s with aA:=e,cw:=a} by simp[sN,he]];obtain⟨m,bb⟩:=hT cJ {s with aA:=e,cw:=a};simp-implicitDefEqProofs(disch:=try exact ag) only[EO,reduceAdd,reduceLeDiff,reduceIte,az,ic,ay,fH,df];exact a8.2 ⟨rfl,(aU.mut _).trans m,af.mut ((aU.mut _).trans m) bb⟩
end
section
theorem h9.same{H:J}{v:I}{T:List Tok}(h:h9 H v T):cd (some v) v=true:=by
 rcases h with⟨rfl,_⟩|⟨l,i,cap,rfl,_⟩
 ·exact Kg
 ·exact u7 _ _ _ _ _
theorem ab0{T:List Tok}{s pC:aw}{e:bh}(ak:s.aA=0)(h:iY T 800000000 0 (lE s.at_ s.bN)=some (e,pC)):eP T s=((lB e pC).1,sN (lB e pC).2.1 (lB e pC).2.2.1 (lB e pC).2.2.2 s):=by
 unfold eP;rw[if_neg (by simp[ak]),h];by_cases aa:pC.aA=0
 ·simp[lB,sN,aa]
 ·simp[lB,sN,aa]
theorem yE{H:J}{r:Nat}{T:List Tok}{aj:I}{s:aw}(aH:T.length<=20000000)(af:c8 H r T aj s):W (au P ao 137 [.ptr r 0 0] H) (g7 H r T aj (eP T s).1 (eP T s).2):=by
 refine cU (λ_=>ai7 0) ?_;have ax:=af.rd.lt;have df:=af.b9.one;have aU:=aR.push H (.row false 11 [[.int .i64 0,.int .i64 0,.str [],.str [],.int .i64 0,.an,.int .i64 0,.int .i64 0,.int .i64 0,.int .i64 0,.int .i64 0]]);simp-implicitDefEqProofs(disch:=try exact ag) only[xX,reduceAdd,reduceLeDiff,reduceIte,az];refine aY (Bb (af.rd.aK aU)) ?_;rintro _ H1 ⟨rfl,rfl⟩;refine⟨bL _,?_⟩;have dt:=af.aK aU;by_cases ak:s.aA=0
 ·obtain⟨e,pC,-,-,U,-,-,-⟩:=ady aH s.at_ s.bN;rw[ab0 ak U];have iQ:=dt.rd;unfold c1 at iQ;simp-implicitDefEqProofs(disch:=try exact ag) only[xX,reduceAdd,reduceLeDiff,reduceIte,az,ak,bne_self_eq_false,iQ];refine aY (aco Z dt.b9 s.at_ s.bN U) ?_;rintro _ bl ⟨v,rfl,bw,aJ⟩;refine⟨aJ.1,?_⟩;have cD:=aJ.1;simp only[J.b6] at cD;obtain⟨cs,rfl,fw,cZ⟩:=bw.cells;have LY:=af.b9.same;generalize lB e pC=q at bw ⊢;have t1:List.take 11 cs=cs:=List.take_of_length_le Z;simp-implicitDefEqProofs(disch:=try exact ag) only[xX,reduceAdd,reduceLeDiff,reduceIte,az,J.h8,fw,cZ,List.append_nil,iQ,LY,Bool.and_self];have bz:=(aR.push bl (.row false 11 [cs])).bV (.row false 2 [[.int .i64 q.2.2.1,.int .i64 q.2.2.2]])
  refine aY (Qh ((dt.aK aJ).aK bz) q.2.1 q.2.2.1 q.2.2.2) ?_;rintro _ cQ ⟨rfl,m3,eY⟩;refine⟨m3.1,?_⟩;have b3:=m3.1;simp only[J.b6] at b3;have g3:cQ.get bl.next=some (.row false 11 [cs]):=m3.get (by simp-implicitDefEqProofs(disch:=try exact ag) only[dD]) Z
  have g2:=m3.get (bz.get (aJ.get (J.ca H (.row false 11 [[.int .i64 0,.int .i64 0,.str [],.str [],.int .i64 0,.an,.int .i64 0,.int .i64 0,.int .i64 0,.int .i64 0,.int .i64 0]])))) Z;have fB:=J.aW g2;simp-implicitDefEqProofs(disch:=try exact ag) only[xX,reduceAdd,reduceLeDiff,reduceIte,az,g2,g3,fw,cZ,t1,List.append_nil];refine a8.2 (g7.ret af ((((aU.trans aJ).trans bz).mut _).trans m3) eY.rd (bL _) (n:=H.next+1) ((bw.mut (r:=r) (ok':=bG (H.next+1)) ((bz.mut _).trans m3) (by unfold bG;simp only[J.b6];omega) λl ax=>by unfold bG at*;simp only[J.b6] at ax;omega)) (Nat.lt_succ_self _) _)
 ·have eX:(s.aA != 0)=true:=by simpa using ak
  have aX:=J.ca H (.row false 11 [[.int .i64 0,.int .i64 0,.str [],.str [],.int .i64 0,.an,.int .i64 0,.int .i64 0,.int .i64 0,.int .i64 0,.int .i64 0]]);rw[show eP T s=(.zero,s) by simp[eP,ak]];simp-implicitDefEqProofs(disch:=try exact ag) only[xX,reduceAdd,reduceLeDiff,reduceIte,az,eX];exact a8.2 ⟨aU.mut _,dt,ec.leaf _ _ {kind:=0}⟩
theorem af0(T:List Tok)(s:aw):mo T s=((YtghmbpmaafnodaaGreatDoor.nJ (eJ T ⟨s.at_,0,0,0⟩)).1,sN (YtghmbpmaafnodaaGreatDoor.nJ (eJ T ⟨s.at_,0,0,0⟩)).2.1 (YtghmbpmaafnodaaGreatDoor.nJ (eJ T ⟨s.at_,0,0,0⟩)).2.2.1 (YtghmbpmaafnodaaGreatDoor.nJ (eJ T ⟨s.at_,0,0,0⟩)).2.2.2 s):=by
 generalize bg:eJ T ⟨s.at_,0,0,0⟩=q;by_cases aa:q.2.aA=0
 ·simp[mo,bg,YtghmbpmaafnodaaGreatDoor.nJ,sN,aa]
 ·simp[mo,bg,YtghmbpmaafnodaaGreatDoor.nJ,sN,aa]
theorem afn{H0 H:J}{r:Nat}{T:List Tok}{aj:I}{s0 s:aw}(bt:c8 H0 r T aj s0)(bM:cB r H0 H)(cp:c1 H r aj s){b:Nat}{x:bk}{k n q:Int}(aX:H.get H0.next=some (.row false 2 [[.str [],.int .i64 0]]))(ay:H.get b=some (.row false 4 [[.int .i64 k,.str x,.int .i64 n,.int .i64 q]]))(ary:H0.next<b):
  W (w7 (au P ao) (.ptr r 0 0) (.ptr H0.next 0 0) (.ptr b 0 0) H) λv H'=>v= .tuple [.str (if(cY T [58] (aE s)).2.aA≠0 then[] else x),.agg [.str (if(cY T [58] (aE s)).2.aA≠0 then([],0) else(mo T (cY T [58] (aE s)).2).1).1,.int .i64 (if(cY T [58] (aE s)).2.aA≠0 then([],0) else(mo T (cY T [58] (aE s)).2).1).2]]/\cB r H0 H'/\c8 H' r T aj (if(cY T [58] (aE s)).2.aA≠0 then(cY T [58] (aE s)).2 else(mo T (cY T [58] (aE s)).2).2):=by
 have ax:=bt.rd.lt;have df:=bt.b9.one;have a7:=cp;unfold c1 at a7;have Oq:=J.aW aX;have yy:=J.aW ay;have h0:=cp.lt;obtain⟨m1,mR⟩:=hT cp (aE s);simp-implicitDefEqProofs(disch:=try exact ag) only[r2,reduceAdd,reduceLeDiff,reduceIte,az,w7,a7,df];refine aY (tw (bt.mut (bM.trans m1) mR) [58]) ?_;rintro _ bl ⟨rfl,m2,cK⟩;refine⟨m2.1,?_⟩;generalize (cY T [58] (aE s)).2=s2 at cK ⊢;have g2:=m2.get (m1.get aX Z) Z;have cD:=m2.get (m1.get ay Z) Z;have C_:=(bM.trans m1).trans m2;simp-implicitDefEqProofs(disch:=try exact ag) only[r2,reduceAdd,reduceLeDiff,reduceIte,az];refine aY (Bb cK.rd) ?_;rintro _ cQ ⟨rfl,rfl⟩
 refine⟨bL _,?_⟩;have arV:=J.aW g2;have arS:=J.aW cD;by_cases ak:s2.aA=0
 ·have cJ:=cK.rd;unfold c1 at cJ;simp-implicitDefEqProofs(disch:=try exact ag) only[r2,reduceAdd,reduceLeDiff,reduceIte,az,ak,bne_self_eq_false,cJ];refine aY (SH cK.b9 s2.at_) ?_;rintro _ cu ⟨rfl,bK⟩;refine⟨bK.1,?_⟩;have bg:=af0 T s2;generalize YtghmbpmaafnodaaGreatDoor.nJ (eJ T ⟨s2.at_,0,0,0⟩)=eB at bg ⊢;have LY:=cK.b9.same;have mz:=bK.1;simp-implicitDefEqProofs(disch:=try exact ag) only[r2,reduceAdd,reduceLeDiff,reduceIte,az,J.h8,List.append_nil,cJ,LY,Bool.and_self];have cO:=(aR.push cu (.row false 2 [[.str eB.1.1,.int .i64 eB.1.2]])).bV (.row false 2 [[.int .i64 eB.2.2.1,.int .i64 eB.2.2.2]])
  refine aY (Qh ((cK.aK bK).aK cO) eB.2.1 eB.2.2.1 eB.2.2.2) ?_;rintro _ fX ⟨rfl,m6,hC⟩;refine⟨m6.1,?_⟩;have A3:=m6.1;simp only[J.b6] at A3;have g6:=m6.get (cO.get (bK.get g2)) Z;have rj:=m6.get (cO.get (bK.get cD)) Z;have gC:fX.get cu.next=some (.row false 2 [[.str eB.1.1,.int .i64 eB.1.2]]):=m6.get (by simp-implicitDefEqProofs(disch:=try exact ag) only[dD]) Z
  have apV:=J.aW g6;simp-implicitDefEqProofs(disch:=try exact ag) only[r2,reduceAdd,reduceLeDiff,reduceIte,az,g6,rj,gC,ak];have sl:=((C_.trans (bK.mut _)).trans (cO.mut _)).trans m6;have q8:=hC.rd;refine a8.2 ⟨by rw[bg];rfl,sl.de (.inr (bL _)) _,bt.mut (sl.de (.inr (bL _)) _) ?_⟩;simp only[ne_eq,not_true_eq_false,if_false,bg];unfold c1 at q8 ⊢;rw[J.get_set_other Z];exact q8
 ·have eX:(s2.aA != 0)=true:=by simpa using ak
  simp-implicitDefEqProofs(disch:=try exact ag) only[r2,reduceAdd,reduceLeDiff,reduceIte,az,eX,g2];have q8:=cK.rd;refine a8.2 ⟨by simp[ak],C_.de (.inr (bL _)) _,bt.mut (C_.de (.inr (bL _)) _) ?_⟩;simp only[ne_eq,ak,not_false_eq_true,if_true];unfold c1 at q8 ⊢;rw[J.get_set_other Z];exact q8
theorem PC{H:J}{r:Nat}{T:List Tok}{aj:I}{s:aw}(af:c8 H r T aj s):W (au P ao 155 [.ptr r 0 0] H) λv H'=>v= .tuple [.str (jz T s).1.1,.agg [.str (jz T s).1.2.1,.int .i64 (jz T s).1.2.2]]/\cB r H H'/\c8 H' r T aj (jz T s).2:=by
 refine cU (λ_=>aji 0) ?_;have ax:=af.rd.lt;have aU:=aR.push H (.row false 2 [[.str [],.int .i64 0]]);simp-implicitDefEqProofs(disch:=try exact ag) only[r2,reduceAdd,reduceLeDiff,reduceIte,az];refine aY (Gw (af.rd.aK aU) (af.b9.aK aU)) ?_;rintro _ bl ⟨rfl,aJ⟩;refine⟨aJ.1,?_⟩;have n2:=aJ.1;simp only[J.b6] at n2;have bz:=aR.push bl (.row false 4 [[.int .i64 (aq T s.at_).kind,.str (aq T s.at_).text,.int .i64 (aq T s.at_).n,.int .i64 (aq T s.at_).pos]]);have g3:=bz.get (aJ.get (J.ca H (.row false 2 [[.str [],.int .i64 0]])));have b3:=J.ca bl (.row false 4 [[.int .i64 (aq T s.at_).kind,.str (aq T s.at_).text,.int .i64 (aq T s.at_).n,.int .i64 (aq T s.at_).pos]])
 have eY:=af.aK ((aU.trans aJ).trans bz);have fin: ∀(dc:J) (s1:aw),s1=(bif (aq T s.at_).kind != 1 then cL T 2 s else s)->cB r H dc->c1 dc r aj s1->dc.get H.next=some (.row false 2 [[.str [],.int .i64 0]])->dc.get bl.next=some (.row false 4 [[.int .i64 (aq T s.at_).kind,.str (aq T s.at_).text,.int .i64 (aq T s.at_).n,.int .i64 (aq T s.at_).pos]])->
   W (w7 (au P ao) (.ptr r 0 0) (.ptr H.next 0 0) (.ptr bl.next 0 0) dc) λv H'=>v= .tuple [.str (jz T s).1.1,.agg [.str (jz T s).1.2.1,.int .i64 (jz T s).1.2.2]]/\cB r H H'/\c8 H' r T aj (jz T s).2:=by
  intro dc s1 Av m5 ao5 aX ay;refine(afn af m5 ao5 aX ay Z).mono ?_;rintro v H' ⟨rfl,cE,cx⟩;have aS:(cY T [58] (aE s1)).2=colonS T s:=by rw[Av];rfl
  rw[aS] at cx ⊢;unfold jz;by_cases ct:(colonS T s).aA≠0
  ·simp only[if_pos ct] at cx ⊢;exact⟨trivial,cE,cx⟩
  ·simp only[if_neg ct] at cx ⊢;exact⟨trivial,cE,cx⟩
 cases ah:((aq T s.at_).kind != 1) with
 |true=>
  simp-implicitDefEqProofs(disch:=try exact ag) only[r2,reduceAdd,reduceLeDiff,reduceIte,az,Tok.v,ah];refine aY (Bm eY 2) ?_;rintro _ dc ⟨rfl,m5,ff⟩;refine⟨m5.1,?_⟩;exact fin dc _ (by rw[ah];rfl) ((((aU.trans aJ).trans bz).mut _).trans m5) ff.rd (m5.get g3 Z) (m5.get b3 Z)
 |false=>
  simp-implicitDefEqProofs(disch:=try exact ag) only[r2,reduceAdd,reduceLeDiff,reduceIte,az,Tok.v,ah];exact fin _ _ (by rw[ah];rfl) (((aU.trans aJ).trans bz).mut _) eY.rd g3 b3
end
end Go.Proofs.YtghmbpmaafnodaaGreatDoor
