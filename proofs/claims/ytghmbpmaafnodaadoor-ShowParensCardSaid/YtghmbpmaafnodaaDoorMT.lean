/-
  Texts of one proof, laid together: Rp Rq Rr Rv Rw We Wf Vj Vk Vl.
-/
import Derived.Test.YtghmbpmaafnodaaDoorMS
set_option linter.unusedVariables false
set_option linter.unusedSimpArgs false
set_option linter.defProp false
open Option renaming some→D
open Bool renaming true→X,false→U
open Go.b9.aa renaming int→I,str→Y,bool→C
open Go.IntKind renaming i64→J
namespace Go.Proofs.YtghmbpmaafnodaaDoor
open Go.b9
open Nat (reduceAdd reduceLeDiff)
def dH.rd{α:Type}{K:hC α}{H:ae}{ok:Nat->Prop}{l:List α}{v:aa}(h:dH K H ok l v):bj (D v) v=true:=by
 rcases h with⟨rfl,_⟩|⟨L,i,cap,ro,els,rfl,_⟩|⟨L,i,cap,rfl,_⟩
 ·rfl
 ·exact kS _ _ _ _ _
 ·exact kS _ _ _ _ _
def c1.rd{H:ae}{ok:Nat->Prop}{l:List bE}{v:aa}(h:c1 H ok l v):bj (D v) v=true:=by
 rcases h with⟨rfl,_⟩|⟨L,i,cap,ro,els,rfl,_⟩|⟨L,i,cap,rfl,_⟩
 ·rfl
 ·exact kS _ _ _ _ _
 ·exact kS _ _ _ _ _
def Aq(p:b7)(l:List bN):flat (fF p++l)=p.name++([58,32]++(flat (cX p.cf p.c4)++flat l)):=ue _ _ _ _
def rM{p:b7}(h:gA p):(flat (fF p)).length<=40:=by
 have:=eM h.n;have:=gn h.ai;have:=h.ai.2.1;unfold fF;rw[uX];omega
def uT:∀l:List b7,(∀p∈l,gA p)->(flat (eG l)).length<=44*l.length
 |[],_=>by simp[eG,flat]
 |p::r,h=>by
  have c:=rM (h p (by simp));have d:=uT r λx a=>h x (List.mem_cons_of_mem _ a)
  rw[eG,h6,cW,c_,i_];simp only[List.length_cons,List.length_nil];omega
def As(x:e0)(l:List bN):flat (r3 x++l)=q4++([32]++(x.name++([32,123,10]++(flat (eG x.fields)++([125,10]++flat l))))):=by
 unfold r3;simp only[List.cons_append,List.append_assoc,List.nil_append];rw[gD,dV,iA,dV,cT,mD,c3,cT,mD];rfl
def Ao(x:b7)(l:List bN):flat (r2 x++l)=q3++([32]++(flat (fF x)++([59,10]++flat l))):=by
 unfold r2;simp only[List.cons_append,List.append_assoc,List.nil_append];rw[gD,dV,c3,cT,mD];rfl
def H9{x:e0}(h:nS x):(flat (r3 x)).length<=400:=by
 have a:=uT x.fields h.f;have c:=eM h.n;have d:=h.l;have:=As x [];rw[List.append_nil,cY,List.append_nil]at this;rw[this];simp only[List.length_append,List.length_cons,List.length_nil,q4];omega
def H7{x:b7}(h:gA x):(flat (r2 x)).length<=60:=by
 have a:=rM h;have:=Ao x [];rw[List.append_nil,cY,List.append_nil]at this;rw[this];simp only[List.length_append,List.length_cons,List.length_nil,q3];omega
def Hc(x:e0)(l:List eY):flat (cG (.r x::l))=q4++([32]++(x.name++([32,123,10]++(flat (eG x.fields)++([125,10]++flat (cG l)))))):=by
 rw[cG,oz,As]
def Hb(x:b7)(l:List eY):flat (cG (.g x::l))=q3++([32]++(flat (fF x)++([59,10]++flat (cG l)))):=by
 rw[cG,oz,Ao]
def Ba:∀l:List b7,(∀p∈l,gA p)->(flat (mR l)).length<=44*l.length
 |[],_=>by simp[mR,flat]
 |p::r,h=>by
  have c:=rM (h p (by simp));have d:=Ba r λx a=>h x (List.mem_cons_of_mem _ a)
  rw[mR,c_,ew,cW];simp only[List.length_cons,List.length_nil];omega
def rL(l:List b7)(h:∀p∈l,gA p):(flat (gI l)).length<=44*l.length:=by
 cases l with
 |nil=>simp[gI,flat]
 |cons p r=>
  have c:=rM (h p (by simp));have d:=Ba r λx a=>h x (List.mem_cons_of_mem _ a)
  rw[gI,cW,List.length_cons];omega
def h7(f:Fn):aJ:=bif f.has then[58,32]++flat (cX f.dF f.rd)else[]
def Ha(f:Fn)(l:List bN):flat (vk f++l)=mc++([32]++(f.name++([40]++(flat (gI f.params)++([41]++(h7 f++([32,123,10]++(flat (cH 1 f.body)++([125,10]++flat l))))))))):=by
 unfold vk;simp only[List.cons_append,List.append_assoc,List.nil_append];rw[gD,dV,iA,cT,c3,cT];have e:∀m,flat ((bif f.has then bQ [58]::ct::cX f.dF f.rd else[])++m)=h7 f++flat m:=by
  intro m;unfold h7;cases f.has
  ·rfl
  ·rw[aY,aY,List.cons_append,List.cons_append,cT,dV,c3];simp
 rw[e];have:=pU [] (cH 1 f.body) (nl::l);rw[this,mD];simp
def Ap(f:Fn)(l:List eY):flat (cG (.f f::l))=mc++([32]++(f.name++([40]++(flat (gI f.params)++([41]++(h7 f++([32,123,10]++(flat (cH 1 f.body)++([125,10]++flat (cG l)))))))))):=by
 rw[cG,oz,Ha]
def oA:∀a b:List eY,cG (a++b)=cG a++cG b
 |[],_=>rfl
 |i::a,b=>by rw[List.cons_append,cG,oA a b,cG,List.append_assoc]
def A_:∀l:List e0,(∀x∈l,nS x)->(flat (cG (l.map eY.r))).length<=400*l.length
 |[],_=>by simp[cG,flat]
 |x::r,h=>by
  have c:=H9 (h x (by simp));have d:=A_ r λx a=>h x (List.mem_cons_of_mem _ a)
  rw[List.map_cons,cG,cW,List.length_cons,oz];omega
def A9:∀l:List b7,(∀x∈l,gA x)->(flat (cG (l.map eY.g))).length<=60*l.length
 |[],_=>by simp[cG,flat]
 |x::r,h=>by
  have c:=H7 (h x (by simp));have d:=A9 r λx a=>h x (List.mem_cons_of_mem _ a)
  rw[List.map_cons,cG,cW,List.length_cons,oz];omega
def mS(g:dm):List bN:=cG (g.da.map .r++(g.globals.map .g++g.funcs.map .f))
structure w2(g:dm):Prop where
 mY:∀x∈g.da,nS x
 di:∀x∈g.globals,gA x
 cq:∀x∈g.funcs,nR x/\du x.body<=1000000000
 gl:g.da.length<=100
 mJ:g.globals.length<=100
 ou:g.funcs.length<=100
section
variable {H0:ae}{ok:Nat->Prop}{r:Nat}{bD bL bG:aa}{g:dm}
end
def AP:∀l:List b7,Lib.joinTail [44,32] (l.map λp=>flat (fF p))=flat (mR l)
 |[]=>rfl
 |p::r=>by
  have a:=AP r;rw[mR,cT,dV,c3,<-a,List.map_cons,Lib.joinTail,List.map_cons,List.flatten_cons,Lib.joinTail];simp
def AO:∀l:List b7,Lib.join (l.map λp=>flat (fF p)) [44,32]=flat (gI l)
 |[]=>rfl
 |p::r=>by rw[List.map_cons,Lib.join_cons,AP,gI,c3]
def iX(f:Fn):aJ:=mc++([32]++(f.name++([40]++(flat (gI f.params)++([41]++(h7 f++[32,123]))))))
section
variable {N:Nat}{H0:ae}{r L i n:Nat}{cap:Option Nat}{ro:Bool}{els:List (List aa)}
def Bx(G:H0.get L=D (.row ro 4 els))(am:n<=1000){all:List b7}(m:∀(j:Nat) (a:b7),all[j]? =D a->els[i+j]? =D a.cells)(hw:∀p∈all,gA p)(an:n=all.length){Q:aa->ae->Prop}(E:∀v H,aO H0 H->(aC P az 59 [v,Y [44,32]] H=D (Y (flat (gI all)),H))->W (lV (aC P az) N (.ptr r 0 0) v H) Q):∀(es:List b7) (j k:Nat) (done:List b7) (v:aa) (H:ae),all=done++es->done.length=j->es.length<k->aO H0 H->c0 od (λl=>H0.next<=l) H (done.map λe=>flat (fF e)) v->
  W (k2 (aC P az) N k (.ptr r 0 0) v (.aA L i n 4 cap) (I J n) (I J j) H) Q
 |_,_,0,_,_,_,_,_,A,_,_=>af
 |[],j,k+1,done,v,H,c,y,A,pp,w=>by
  rw[List.append_nil]at c;subst c;have z:¬((j:Int)<(n:Int)):=af;have aF:=rL all hw;have s:aC P az 59 [v,Y [44,32]] H=D (Y (flat (gI all)),H):=by
   rw[<-AO];exact rG w (by rw[List.length_map];omega) (by rw[AO];omega)
  simp-implicitDefEqProofs(disch:=try exact al)only[k2,oQ,reduceAdd,reduceLeDiff,reduceIte,ax,z,decide_false];exact E v H pp s
 |x::es,j,k+1,done,v,H,c,y,A,pp,w=>by
  simp only[List.length_cons]at A;have aB:all.length=done.length+(es.length+1):=by rw[c,List.length_append,List.length_cons]
  have z:(j:Int)<(n:Int):=af;have au:((j:Int)).toNat=j:=af;have aj:(0:Int)<=(j:Int):=af;have aw:IntKind.i64.wrap ((j:Int)+1)=((j+1:Nat):Int):=by rw[wrap_i64 af af];omega
  have O:all[j]? =D x:=by rw[c,List.getElem?_append_right af,y,Nat.sub_self];rfl
  have aZ:=m j x O;have aG:=hw x (List.mem_of_getElem? O);have aH:=eM aG.n;have aD:=gn aG.ai;have aI:=aG.ai.2.1;have aE:=iD x.cf x.c4;have g1:=pp.get G;have B:=aO.push H (.row U 4 [x.cells]);have u:=ae.bC H (.row U 4 [x.cells]);have aJ:H.next<(H.push (.row U 4 [x.cells])).next:=by simp
  simp only[b7.cells]at aZ B u;simp-implicitDefEqProofs(disch:=try exact al)only[k2,oQ,reduceAdd,reduceLeDiff,reduceIte,ax,z,decide_true,aj,au,g1,aZ];refine aN (type20 aG.ai.1 aG.ai.2.1 af) ?_;rintro _ d ⟨rfl,o⟩;refine⟨o.1,?_⟩;have ah:=o.get u;have q:=pp.trans (B.trans o);have F:=(w.aM B).aM o;have ao:flat (fF x)=x.name++[58,32]++flat (cX x.cf x.c4):=by
   have:=Aq x [];rw[List.append_nil,cY,List.append_nil]at this;rw[this];simp
  have ad:aq P .add 9 X (Y x.name) (Y [58,32])=D (Y (x.name++[58,32])):=cV (by simp only[List.length_cons,List.length_nil];omega);have ag:aq P .add 9 U (Y (x.name++[58,32])) (Y (flat (cX x.cf x.c4)))=D (Y (flat (fF x))):=by
   rw[ao];exact cV (by simp only[List.length_append,List.length_cons,List.length_nil];omega)
  have ap:=vV d.next (flat (fF x))
  obtain⟨R,H',s,S,T,b3⟩:=c0.app (K:=od) (ok':=λl=>H0.next<=l) BH F (okE:=λ_=>False) (a:=flat (fF x)) (cs:=[Y (flat (fF x))]) rfl (λ_ _ h=>h.elim) (λ_ _ h _=>h) (by have:=q.1;show H0.next<=d.next+1;omega) (by rw[List.length_map];omega);have av:aO H0 H':=by
   refine⟨by have:=q.1;omega,λl m=> ?_⟩;have:=q.1;rw[b3 l af λL M ak=> ?_]
   ·exact q.2 l m
   ·subst ak;rcases F with⟨rfl,_⟩|⟨L',_,rfl,ay,_⟩
    ·cases M
    ·cases M;omega
  have ab:cQ P (d.push (.row U 1 [[Y (flat (fF x))]])) [50,50] v (.aA d.next 0 1 1 (D 1))=D (R,H'):=s;have V:(d.push (.row U 1 [[Y (flat (fF x))]])).next<=H'.next:=by rw[ae.bT];exact T
  simp-implicitDefEqProofs(disch:=try exact al)only[reduceAdd,reduceLeDiff,reduceIte,ax,u,ah,ad,ag,ap,ab,eI,V,aw];exact Bx G am m hw an E es (j+1) k (done++[x]) R H' (by rw[c,List.append_assoc];rfl) (by rw[List.length_append,y];rfl) af av (by rw[List.map_append];exact S)
end
def Hq{H:ae}{ok:Nat->Prop}{f:Fn}{cs:List aa}(h:hK.V H ok f cs)(hw:nR f):W (aC P az 30 [.agg cs] H) λv H'=>v= Y (iX f)/\aO H H':=by
 obtain⟨c,bv,rfl,aB,R⟩:=h;have bH:=aB.one;have bX:=R.eb;have Q:∀l,dS l (.agg [Y f.name,c,C f.has,Y f.dF,I J f.rd,bv,I J f.pos])=D (.ptr l 0 0,.row U 7 [[Y f.name,c,C f.has,Y f.dF,I J f.rd,bv,I J f.pos]]):=λl=>hh l _ (by simp only[List.all_cons,List.all_nil,hq,gH,qn,bH,bX,Bool.and_self])
 have pp:=aO.push H (.row U 7 [[Y f.name,c,C f.has,Y f.dF,I J f.rd,bv,I J f.pos]]);have di:=ae.bC H (.row U 7 [[Y f.name,c,C f.has,Y f.dF,I J f.rd,bv,I J f.pos]]);have aD:=eM hw.n;have ay:=rL f.params hw.p;have an:=hw.l;have S:=λH'=>aB.mI H'
 have ad:=aB.aX (df.aM pp);have fin:∀v d,aO (H.push (.row U 7 [[Y f.name,c,C f.has,Y f.dF,I J f.rd,bv,I J f.pos]])) d->(aC P az 59 [v,Y [44,32]] d=D (Y (flat (gI f.params)),d))->W (lV (aC P az) 1000 (.ptr H.next 0 0) v d) λv H'=>v= Y (iX f)/\aO H H':=by
  intro v d w e;have g2:=w.get di;have k:aq P .add 9 X (Y [102,117,110,99,32]) (Y f.name)=D (Y ([102,117,110,99,32]++f.name)):=cV (by simp only[List.length_cons,List.length_nil];omega);have A:aq P .add 9 X (Y ([102,117,110,99,32]++f.name)) (Y [40])=D (Y ([102,117,110,99,32]++f.name++[40])):=cV (by simp only[List.length_append,List.length_cons,List.length_nil];omega);have B:aq P .add 9 U (Y ([102,117,110,99,32]++f.name++[40])) (Y (flat (gI f.params)))=D (Y ([102,117,110,99,32]++f.name++[40]++flat (gI f.params))):=cV (by simp only[List.length_append,List.length_cons,List.length_nil];omega)
  have o:aq P .add 9 X (Y ([102,117,110,99,32]++f.name++[40]++flat (gI f.params))) (Y [41])=D (Y ([102,117,110,99,32]++f.name++[40]++flat (gI f.params)++[41])):=cV (by simp only[List.length_append,List.length_cons,List.length_nil];omega);obtain⟨T,aE⟩:∃T,T=[102,117,110,99,32]++f.name++[40]++flat (gI f.params)++[41]:=⟨_,rfl⟩;have ao:T.length<=1000:=by rw[aE];simp only[List.length_append,List.length_cons,List.length_nil];omega
  rw[<-aE]at o;unfold lV;simp-implicitDefEqProofs(disch:=try exact al)only[reduceAdd,reduceLeDiff,reduceIte,ax,e,eI,bk,g2];rw[k,dG,A,dG,B,dG,o,dG];have E:∀y:aJ,h7 f=y->T++(y++[32,123])=iX f:=by
   intro y O;rw[aE];unfold iX;rw[O];simp[mc]
  clear aE k A B o;rcases hw.r with⟨i,m⟩|⟨i,au,ap⟩
  ·have av:=gn m;have aF:=m.2.1;have aw:=iD f.dF f.rd;have s:h7 f=[58,32]++flat (cX f.dF f.rd):=by unfold h7;rw[i];rfl
   rw[i]at g2;simp-implicitDefEqProofs(disch:=try exact al)only[reduceAdd,reduceLeDiff,reduceIte,ax,g2];refine aN (type20 (x:=f.dF) (z:=f.rd) m.1 m.2.1 af) ?_;rintro _ ai ⟨rfl,G⟩;refine⟨G.1,?_⟩;have K:aq P .add 9 X (Y [58,32]) (Y (flat (cX f.dF f.rd)))=D (Y ([58,32]++flat (cX f.dF f.rd))):=cV (by simp only[List.length_append,List.length_cons,List.length_nil];omega);have L:aq P .add 9 U (Y T) (Y ([58,32]++flat (cX f.dF f.rd)))=D (Y (T++([58,32]++flat (cX f.dF f.rd)))):=cV (by simp only[List.length_append,List.length_cons,List.length_nil];omega);have q:aq P .add 9 X (Y (T++([58,32]++flat (cX f.dF f.rd)))) (Y [32,123])=D (Y (T++([58,32]++flat (cX f.dF f.rd))++[32,123])):=cV (by simp only[List.length_append,List.length_cons,List.length_nil];omega)
   rw[K,dG,L,dG,ni,q,dG];exact bb.2 ⟨by rw[List.append_assoc T,E _ s],pp.trans (w.trans G)⟩
  ·have s:h7 f=[]:=by unfold h7;rw[i];rfl
   rw[i]at g2;simp-implicitDefEqProofs(disch:=try exact al)only[reduceAdd,reduceLeDiff,reduceIte,ax,g2];have q:aq P .add 9 X (Y T) (Y [32,123])=D (Y (T++[32,123])):=cV (by simp only[List.length_append,List.length_cons,List.length_nil];omega);rw[ni,q,dG];exact bb.2 ⟨by rw[<-E _ s];rfl,pp.trans w⟩
 refine cz (λ_=>JF 1000) ?_;rw[su];simp-implicitDefEqProofs(disch:=try exact al)only[reduceAdd,reduceLeDiff,reduceIte,ax,Q,di,S];by_cases u:f.params.length=0
 ·have ag:=List.length_eq_zero_iff.1 u;have M:¬((0:Int)<((0:Nat):Int)):=af;have e:aC P az 59 [.ar,Y [44,32]] (H.push (.row U 7 [[Y f.name,c,C f.has,Y f.dF,I J f.rd,bv,I J f.pos]]))=D (Y (flat (gI f.params)),H.push (.row U 7 [[Y f.name,c,C f.has,Y f.dF,I J f.rd,bv,I J f.pos]])):=by
   rw[ag];exact rG (ok:=λ_=>True) (l:=[]) (.inl ⟨rfl,rfl⟩) (Nat.zero_le _) (Nat.zero_le _)
  rw[u];simp-implicitDefEqProofs(disch:=try exact al)only[k2,oQ,reduceAdd,reduceLeDiff,reduceIte,ax,M,decide_false];exact fin _ _ (.refl _) e
 ·obtain⟨aj,i2,ak,aG,am,rfl,F,ab⟩:=ad.row u;have ah:fE.esz=4:=rfl;rw[ah]at F;exact Bx (N:=1000) F af (λj a h=>by obtain⟨cs,e,k⟩:=ab j a h;rw[e,show cs=a.cells from k]) hw.p rfl fin f.params 0 1000 [] .ar _ rfl rfl af (.refl _) (.inl ⟨rfl,rfl⟩)
def j_:pad 0=[]:=rfl
def x0:∀l:aJ,bytesOf (et l)=D l
 |[]=>rfl
 |c::l=>by
  have a:=x0 l;unfold et at a ⊢;rw[List.map_cons,bytesOf,a];simp[Go.b9.byteOf]
open Classical in
def Ms{H:ae}{p m:Nat}{acc:aJ}(h:fA H p m acc)(d:acc.length<=100000000000000):∃H',aC P az 32 [.ptr p 0 0] H=D (Y acc,H')/\H'.next=H.next/\∀l,l≠m->H'.get l=H.get l:=by
 obtain⟨-,-,a,b,c,-,k⟩:=h;rcases k with⟨rfl,rfl⟩|⟨j,rfl,o⟩
 ·refine⟨H,lC ?_,rfl,λ_ _=>rfl⟩;unfold az;simp only[c]
 ·refine⟨H.set m .dead,lC ?_,by simp,λl d=>ae.get_set_other (λe=>d e.symm)⟩;have i:bytesOf (((et acc).drop 0).take acc.length)=D acc:=by
   rw[List.drop_zero,List.take_of_length_le (by rw[kJ];omega)];exact x0 acc
  have n:0<acc.length/\0+acc.length<=(et acc).length/\True/\acc.length<=140737488355328/\((et acc).drop 0).take acc.length=acc.map (λb=>[I .u8 b.toNat]):=⟨List.length_pos_iff.2 j,by rw[kJ];omega,trivial,af,by rw[List.drop_zero,List.take_of_length_le (by rw[kJ];omega)];rfl⟩;unfold az;simp only[c,o,i];rw[if_pos n]
section
variable {N:Nat}{H0:ae}{r L i n n0 p m0:Nat}{cap:Option Nat}{ro:Bool}{els:List (List aa)}{ok:Nat->Prop}{Q:aa->ae->Prop}{acc:aJ}
def BB(q:∀l,ok l->l<n0)(M:ok L)(aE:n<=100){all:List Fn}(aF:n=all.length)(hw:∀x∈all,nR x/\du x.body<=1000000000)
  (O:∀m H,eL n0 p m H (acc++flat (cG (all.map .f)))->cF p m0 H0 m H->W (lP (aC P az) N (.ptr p 0 0) H) Q):∀(es:List Fn) (j k:Nat) (done:List Fn) (m:Nat) (H:ae),all=done++es->done.length=j->es.length<k->H.get L=D (.row ro 7 els)->(∀(j:Nat) (a:Fn),all[j]? =D a->∃cs,els[i+j]? =D cs/\hK.V H ok a cs)->eL n0 p m H (acc++flat (cG (done.map .f)))->acc.length+(flat (cG (done.map .f))).length+2000000000*es.length<=400000000000->cF p m0 H0 m H->
  W (kV (aC P az) N k (.ptr p 0 0) (.aA L i n 7 cap) (I J n) (I J j) H) Q
 |_,_,0,_,_,_,_,_,E,_,_,_,_,_=>af
 |[],j,k+1,done,m,H,e,z,E,A,F,c,R,w=>by
  rw[List.append_nil]at e;subst e;have B:¬((j:Int)<(n:Int)):=af;simp-implicitDefEqProofs(disch:=try exact al)only[kV,oL,reduceAdd,reduceLeDiff,reduceIte,ax,B,decide_false];exact O m H c w
 |x::es,j,k+1,done,m,H,e,z,E,A,F,c,R,w=>by
  simp only[List.length_cons]at E R;have a2:all.length=done.length+(es.length+1):=by rw[e,List.length_append,List.length_cons]
  have B:(j:Int)<(n:Int):=af;have aI:((j:Int)).toNat=j:=af;have aw:(0:Int)<=(j:Int):=af;have aU:IntKind.i64.wrap ((j:Int)+1)=((j+1:Nat):Int):=by rw[wrap_i64 af af];omega
  have ag:all[j]? =D x:=by rw[e,List.getElem?_append_right af,z,Nat.sub_self];rfl
  obtain⟨cs,aZ,ad⟩:=F j x ag;obtain⟨aG,aK⟩:=hw x (List.mem_of_getElem? ag);have aJ:=ad;obtain⟨aj,bv,rfl,aB,S⟩:=ad;have bH:=aB.one;have bX:=S.eb;have a8:=eM aG.n;have a6:=rL x.params aG.p;have a1:=aG.l;have a7:(h7 x).length<=30:=by
   unfold h7;rcases aG.r with⟨y,aa⟩|⟨y,_⟩
   ·have:=gn aa;have:=aa.2.1;have:=iD x.dF x.rd;rw[y,aY];simp only[List.length_append,List.length_cons,List.length_nil];omega
   ·rw[y];simp
  have a5:(iX x).length<=1000:=by unfold iX;simp only[List.length_append,List.length_cons,List.length_nil,mc];omega
  have aD:iX x≠[]:=by unfold iX mc;simp
  have u:=aO.push H (.row U 7 [[Y x.name,aj,C x.has,Y x.dF,I J x.rd,bv,I J x.pos]]);have au:=ae.bC H (.row U 7 [[Y x.name,aj,C x.has,Y x.dF,I J x.rd,bv,I J x.pos]]);have ay:=Hq (hK.aX (df.aM u) aJ) aG;have aL:=c.aM u;have am:H.next≠p/\H.next≠m:=by have:=c.lm;have:=c.iu.lt;omega
  obtain⟨d,a4,T⟩:=aG.b;simp-implicitDefEqProofs(disch:=try exact al)only[kV,oL,reduceAdd,reduceLeDiff,reduceIte,ax,B,decide_true,aw,aI,A,aZ,bH,bX];refine aN ay ?_;rintro _ G ⟨rfl,o⟩;refine⟨o.1,?_⟩;have K:=o.get au;have aH:=vV G.next (iX x)
  simp-implicitDefEqProofs(disch:=try exact al)only[bf,br,aH];refine aN (fZ (aL.aM o) (deep:=0) rfl [iX x] (by simpa using aD) (by simp) af (by simp only[List.flatten_cons,List.flatten_nil,List.length_append,List.length_cons,List.length_nil];omega) rfl rfl rfl) ?_;rintro _ an ⟨aR,m4,aP,v⟩;refine⟨aR,?_⟩;have av:=v.get K am.1 am.2;have cK:=(S.aM (u.trans o)).aX (v.aX c.aG c.hm q).s;have a9:H.next≠m4:=by have:=v.1;have:=ae.aS K;omega
  simp-implicitDefEqProofs(disch:=try exact al)only[reduceAdd,reduceLeDiff,reduceIte,ax,av];refine aN (Gn x.body d 1 T af aK an ok bv _ n0 p m4 _ rfl cK q aP (by simp only[List.flatten_cons,List.flatten_nil,List.length_append,List.length_cons,List.length_nil,j_];omega)) ?_;rintro _ a0 ⟨m5,aQ,ak⟩;refine⟨ak.next,?_⟩;have a3:=p8 (deep:=1) T af;simp-implicitDefEqProofs(disch:=try exact al)only[bf,br];refine aN (fZ aQ (deep:=0) rfl [[125]] (by simp) (by simp) af (by simp only[List.flatten_cons,List.flatten_nil,List.length_append,List.length_cons,List.length_nil,j_];omega) rfl rfl rfl) ?_;rintro _ ao ⟨aT,m6,ah,aV⟩
  refine⟨aT,?_⟩;simp-implicitDefEqProofs(disch:=try exact al)only[bf,br,c5,aU];have aW:cF p m H m G:=cF.aM (u.trans o);have wt:=((aW.trans v).trans ak).trans aV;have ai:=wt.aX c.aG c.hm q;have ab:acc++flat (cG (done.map .f))++(pad 0++([iX x].flatten++[10]))++flat (cH 1 x.body)++(pad 0++([[125]].flatten++[10]))=acc++flat (cG ((done++[x]).map .f)):=by
   rw[List.map_append,oA,c3,List.map_cons,List.map_nil,Ap,cG,cY,j_];unfold iX;simp
  rw[ab]at ah;have hlen:(flat (cG ((done++[x]).map eY.f))).length<=(flat (cG (done.map eY.f))).length+2000000000:=by
   have:=congrArg List.length ab;simp only[List.length_append,List.flatten_cons,List.flatten_nil,List.length_cons,List.length_nil,j_]at this;omega
  exact BB q M aE aF hw O es (j+1) k (done++[x]) m6 ao (by rw[e,List.append_assoc];rfl) (by rw[List.length_append,z];rfl) af (ai L _ M A).2 (λj a h=>by obtain⟨cs,ap,aq⟩:=F j a h;exact⟨cs,ap,hK.aX ai aq⟩) ah af (w.trans wt)
end
def B7:∀a b:List b7,eG (a++b)=eG a++eG b
 |[],_=>rfl
 |x::a,b=>by rw[List.cons_append,eG,eG,B7 a b];simp
def IL(x:b7):flat (eG [x])=[32,32]++(flat (fF x)++[59,10]):=by
 rw[eG,eG,uc,c3,cT,mD,cY];rfl
section
variable {N:Nat}{H0:ae}{r L i n n0 p m0:Nat}{cap:Option Nat}{ro:Bool}{els:List (List aa)}{ok:Nat->Prop}{Q:aa->ae->Prop}{acc:aJ}
def Ar(x:b7):flat (fF x)=x.name++([58,32]++flat (cX x.cf x.c4)):=by
 have:=Aq x [];rw[List.append_nil,cY,List.append_nil]at this;exact this
def BD(G:∀l,ok l->l<n0)(A:ok L)(T:n<=100){all:List b7}(V:n=all.length)(hw:∀x∈all,gA x)(F:∀(j:Nat) (a:b7),all[j]? =D a->els[i+j]? =D a.cells)
  (B:∀m H,eL n0 p m H (acc++flat (cG (all.map .g)))->cF p m0 H0 m H->W (lO (aC P az) N (.ptr r 0 0) (.ptr p 0 0) H) Q):∀(es:List b7) (j k:Nat) (done:List b7) (m:Nat) (H:ae),all=done++es->done.length=j->es.length<k->H.get L=D (.row ro 4 els)->eL n0 p m H (acc++flat (cG (done.map .g)))->acc.length+(flat (cG (done.map .g))).length+1000*es.length<=100000000000->cF p m0 H0 m H->
  W (kW (aC P az) N k (.ptr r 0 0) (.ptr p 0 0) (.aA L i n 4 cap) (I J n) (I J j) H) Q
 |_,_,0,_,_,_,_,_,u,_,_,_,_=>af
 |[],j,k+1,done,m,H,c,o,u,q,d,E,w=>by
  rw[List.append_nil]at c;subst c;have s:¬((j:Int)<(n:Int)):=af;simp-implicitDefEqProofs(disch:=try exact al)only[kW,oM,reduceAdd,reduceLeDiff,reduceIte,ax,s,decide_false];exact B m H d w
 |x::es,j,k+1,done,m,H,c,o,u,q,d,E,w=>by
  simp only[List.length_cons]at u E;have ak:all.length=done.length+(es.length+1):=by rw[c,List.length_append,List.length_cons]
  have s:(j:Int)<(n:Int):=af;have aa:((j:Int)).toNat=j:=af;have S:(0:Int)<=(j:Int):=af;have ag:IntKind.i64.wrap ((j:Int)+1)=((j+1:Nat):Int):=by rw[wrap_i64 af af];omega
  have M:all[j]? =D x:=by rw[c,List.getElem?_append_right af,o,Nat.sub_self];rfl
  have aZ:=F j x M;have aG:=hw x (List.mem_of_getElem? M);have ao:=eM aG.n;have am:=gn aG.ai;have ap:=aG.ai.2.1;have an:=iD x.cf x.c4;have v:=aO.push H (.row U 4 [x.cells]);have h:=ae.bC H (.row U 4 [x.cells]);simp only[b7.cells]at aZ v h;simp-implicitDefEqProofs(disch:=try exact al)only[kW,oM,reduceAdd,reduceLeDiff,reduceIte,ax,s,decide_true,S,aa,q,aZ];refine aN (type20 (x:=x.cf) (z:=x.c4) aG.ai.1 aG.ai.2.1 af) ?_;rintro _ aj ⟨rfl,e⟩;refine⟨e.1,?_⟩;have y:=e.get h;simp-implicitDefEqProofs(disch:=try exact al)only[reduceAdd,reduceLeDiff,reduceIte,ax,y,Dq];refine aN (fZ (d.aM (v.trans e)) (deep:=0) rfl [[103,108,111,98,97,108,32],x.name,[58,32],flat (cX x.cf x.c4),[59]] (by simp) (by simp) af (by simp only[List.flatten_cons,List.flatten_nil,List.length_append,List.length_cons,List.length_nil];omega) rfl rfl rfl) ?_
  rintro _ R ⟨ad,m4,O,ah⟩;refine⟨ad,?_⟩;simp-implicitDefEqProofs(disch:=try exact al)only[reduceAdd,reduceLeDiff,reduceIte,ax,h,y,ag];have wt:=(cF.aM (p:=p) (m:=m) (v.trans e)).trans ah;have ab:=wt.aX d.aG d.hm G;have K:acc++flat (cG (done.map .g))++(pad 0++([[103,108,111,98,97,108,32],x.name,[58,32],flat (cX x.cf x.c4),[59]].flatten++[10]))=acc++flat (cG ((done++[x]).map .g)):=by
   rw[List.map_append,oA,c3,List.map_cons,List.map_nil,Hb,cG,cY,j_,Ar];simp[q3]
  rw[K]at O;have hlen:(flat (cG ((done++[x]).map eY.g))).length<=(flat (cG (done.map eY.g))).length+1000:=by
   have:=congrArg List.length K;simp only[List.length_append,List.flatten_cons,List.flatten_nil,List.length_cons,List.length_nil,j_]at this;omega
  exact BD G A T V hw F B es (j+1) k (done++[x]) m4 R (by rw[c,List.append_assoc];rfl) (by rw[List.length_append,o];rfl) af (ab L _ A q).2 O af (w.trans wt)
def BA{y:aa->aa->aa->aa->aa->ae->O}{T bz V:aa}(K:∀l,ok l->l<n0)(B:ok L)(ag:n<=100){all:List b7}(ah:n=all.length)(hw:∀x∈all,gA x)(G:∀(j:Nat) (a:b7),all[j]? =D a->els[i+j]? =D a.cells)
  (E:∀m H,eL n0 p m H (acc++flat (eG all))->cF p m0 H0 m H->W (lQ (aC P az) N y (.ptr r 0 0) (.ptr p 0 0) T bz V H) Q):∀(es:List b7) (j k:Nat) (done:List b7) (m:Nat) (H:ae),all=done++es->done.length=j->es.length<k->H.get L=D (.row ro 4 els)->eL n0 p m H (acc++flat (eG done))->acc.length+(flat (eG done)).length+1000*es.length<=100000000000->cF p m0 H0 m H->
  W (kX (aC P az) N y k (.ptr r 0 0) (.ptr p 0 0) T bz V (.aA L i n 4 cap) (I J n) (I J j) H) Q
 |_,_,0,_,_,_,_,_,u,_,_,_,_=>af
 |[],j,k+1,done,m,H,c,o,u,q,d,F,w=>by
  rw[List.append_nil]at c;subst c;have s:¬((j:Int)<(n:Int)):=af;simp-implicitDefEqProofs(disch:=try exact al)only[kX,oO,reduceAdd,reduceLeDiff,reduceIte,ax,s,decide_false];exact E m H d w
 |x::es,j,k+1,done,m,H,c,o,u,q,d,F,w=>by
  simp only[List.length_cons]at u F;have aq:all.length=done.length+(es.length+1):=by rw[c,List.length_append,List.length_cons]
  have s:(j:Int)<(n:Int):=af;have aj:((j:Int)).toNat=j:=af;have ad:(0:Int)<=(j:Int):=af;have an:IntKind.i64.wrap ((j:Int)+1)=((j+1:Nat):Int):=by rw[wrap_i64 af af];omega
  have R:all[j]? =D x:=by rw[c,List.getElem?_append_right af,o,Nat.sub_self];rfl
  have aZ:=G j x R;have aG:=hw x (List.mem_of_getElem? R);have ay:=eM aG.n;have au:=gn aG.ai;have aB:=aG.ai.2.1;have av:=iD x.cf x.c4;have v:=aO.push H (.row U 4 [x.cells]);have h:=ae.bC H (.row U 4 [x.cells]);simp only[b7.cells]at aZ v h;simp-implicitDefEqProofs(disch:=try exact al)only[kX,oO,reduceAdd,reduceLeDiff,reduceIte,ax,s,decide_true,ad,aj,q,aZ];refine aN (type20 (x:=x.cf) (z:=x.c4) aG.ai.1 aG.ai.2.1 af) ?_;rintro _ ap ⟨rfl,e⟩;refine⟨e.1,?_⟩;have A:=e.get h;simp-implicitDefEqProofs(disch:=try exact al)only[reduceAdd,reduceLeDiff,reduceIte,ax,A,vU];refine aN (fZ (d.aM (v.trans e)) (deep:=1) rfl [x.name,[58,32],flat (cX x.cf x.c4),[59]] (by simp) (by simp) af (by simp only[List.flatten_cons,List.flatten_nil,List.length_append,List.length_cons,List.length_nil];omega) rfl rfl rfl) ?_
  rintro _ ab ⟨am,m4,S,ao⟩;refine⟨am,?_⟩;simp-implicitDefEqProofs(disch:=try exact al)only[reduceAdd,reduceLeDiff,reduceIte,ax,h,A,an];have wt:=(cF.aM (p:=p) (m:=m) (v.trans e)).trans ao;have ak:=wt.aX d.aG d.hm K;have M:acc++flat (eG done)++(pad 1++([x.name,[58,32],flat (cX x.cf x.c4),[59]].flatten++[10]))=acc++flat (eG (done++[x])):=by
   rw[B7,c3,IL,Ar,show pad 1=[32,32]from rfl];simp
  rw[M]at S;have hlen:(flat (eG (done++[x]))).length<=(flat (eG done)).length+1000:=by
   have:=congrArg List.length M;have aw:=hl 1;simp only[List.length_append,List.flatten_cons,List.flatten_nil,List.length_cons,List.length_nil]at this;omega
  exact BA K B ag ah hw G E es (j+1) k (done++[x]) m4 ab (by rw[c,List.append_assoc];rfl) (by rw[List.length_append,o];rfl) af (ak L _ B q).2 S af (w.trans wt)
