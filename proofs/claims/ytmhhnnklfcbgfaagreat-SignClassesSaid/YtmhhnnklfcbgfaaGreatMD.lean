/-
  Texts of one proof, laid together: Hv18 Hv17 Hv21 Hv22.
-/
import Derived.Test.YtmhhnnklfcbgfaaGreatMC
set_option linter.unusedVariables false
set_option linter.unusedSimpArgs false
set_option linter.defProp false
open Option renaming some→A,none→Z
open Bool renaming true→J,false→I
namespace Go.cw
def bK.FT{α:Type}(x y:α):∀(p q:List m3) (t:bK α),p≠q->bK.fc x p (bK.fc y q t)=bK.fc y q (bK.fc x p t)
 |[],[],_,h=>absurd rfl h
 |[],d::q,.leaf,_=>by cases d<;>simp[bK.fc]
 |[],d::q,.node ..,_=>by cases d<;>simp[bK.fc]
 |d::p,[],.leaf,_=>by cases d<;>simp[bK.fc]
 |d::p,[],.node ..,_=>by cases d<;>simp[bK.fc]
 |d::p,e::q,.leaf,h=>by
  by_cases a:d=e
  ·subst a;have f:=bK.FT x y p q .leaf (λb=>h (by rw[b]));cases d<;>simp[bK.fc,f]
  ·cases d<;>cases e<;>first|exact absurd rfl a|simp[bK.fc]
 |d::p,e::q,.node v br a1 bd bn bI bY ch dp,h=>by
  by_cases a:d=e
  ·subst a;have f:=λc=>bK.FT x y p q c (λb=>h (by rw[b]))
   cases d<;>simp[bK.fc,f]
  ·cases d<;>cases e<;>first|exact absurd rfl a|simp[bK.fc]
def ae.set_comm{H:ae}{l m:Nat}{b c:bz}(h:l≠m):(H.set l b).set m c=(H.set m c).set l b:=by
 simp only[ae.set,bK.put];rw[bK.FT _ _ _ _ _ (λe=>h (OY e).symm)]
section
variable {E:Env}{P:Program}{call:aq}{ops:Array Oper}{ord:List Nat}{dh bo:bf}{H0 c5:ae}{T:List bM}{ρ0:Env}{w0:World}{Q:Exit->Act->World->Prop}
def gN(ops:Array Oper)(b a:Nat):Array Oper:=ops.mapIdx λi o=>if i=b then {o with after:=o.after.push ⟨a,default⟩}else o
def j2(b a i:Nat)(o:Oper):Oper:=if i=b then {o with after:=o.after.push ⟨a,default⟩}else o
def kU(ops:Array Oper)(b a i:Nat):(gN ops b a)[i]? =(ops[i]?).map (j2 b a i):=by
 simp only[gN,Array.getElem?_mapIdx];rfl
def l7(ops:Array Oper)(b a:Nat):(gN ops b a).size=ops.size:=by simp[gN]
def oH(b a i:Nat)(o:Oper):(j2 b a i o).op=o.op/\(j2 b a i o).dst=o.dst/\(j2 b a i o).guard=o.guard:=by unfold j2;split<;>exact⟨rfl,rfl,rfl⟩
def Dp{b a i:Nat}{o:Oper}{L:Nat->Bool}(h:l6 L o)(c:i=b->L a=J):l6 L (j2 b a i o):=by
 unfold j2;split
 ·rename_i e;intro x aE d;simp only[Array.mem_push]at aE;rcases aE with aE|rfl
  ·exact h x aE d
  ·exact c e
 ·exact h
def IN{b a i:Nat}{o:Oper}{L:Nat->Bool}(h:l6 L (j2 b a i o)):l6 L o:=by
 unfold j2 at h;split at h
 ·intro x aE c;exact h x (by simp[aE]) c
 ·exact h
def Uu(b a i:Nat)(R:bf)(o:Oper):j8 (gN ops b a) R (j2 b a i o)=j8 ops R o:=by
 unfold j8;rw[(oH b a i o).2.2];cases o.guard with
 |none=>rfl
 |some p=>
  obtain⟨j,want⟩:=p;simp only[kU];cases c:ops[j]? with
  |none=>rfl
  |some q=>simp only[Option.map_some,(oH b a j q).2.1]
def j3(b a:Nat)(t:bM):bM:=⟨t.i,j2 b a t.i t.o,t.R,t.k⟩
def Eb(b a:Nat):∀(is:List Nat) (R:bf) (H:ae),canRun P call (gN ops b a) is R H=(canRun P call ops is R H).map λp=>(p.1.map (j3 b a),p.2)
 |[],_,_=>rfl
 |i::is,R,H=>by
  simp only[canRun,kU];cases aZ:ops[i]? with
  |none=>rfl
  |some o=>
   simp only[Option.map_some];have c:gk P call (gN ops b a) (j2 b a i o) R H=gk P call ops o R H:=by
    unfold gk;rw[Uu,(oH b a i o).1]
   rw[c,(oH b a i o).2.1];cases gk P call ops o R H with
   |none=>rfl
   |some k=>
    simp only
    cases R.put o.dst k.val with
    |none=>rfl
    |some bl=>
     simp only
     rw[Eb b a is bl (k.heap H)];cases canRun P call ops is bl (k.heap H)with
     |none=>rfl
     |some p=>rfl
def ux(a:List Nat):∀(is:List Nat) (R:bf) (H:ae),canRun P call ops (is++a) R H=(canRun P call ops is R H).bind λp=>(canRun P call ops a p.2.1 p.2.2).map λq=>(p.1++q.1,q.2)
 |[],R,H=>by
  simp only[List.nil_append,canRun,Option.bind_some];cases canRun P call ops a R H<;>rfl
 |i::is,R,H=>by
  simp only[List.cons_append,canRun];cases ops[i]? with
  |none=>rfl
  |some o=>
   simp only
   cases gk P call ops o R H with
   |none=>rfl
   |some k=>
    simp only
    cases R.put o.dst k.val with
    |none=>rfl
    |some bl=>
     simp only
     rw[ux a is bl (k.heap H)];cases canRun P call ops is bl (k.heap H)with
     |none=>rfl
     |some p=>
      simp only[Option.bind_some];cases canRun P call ops a p.2.1 p.2.2<;>rfl
def IV{b a i:Nat}{K:Act->World->Prop}{c:Act}{w:World}(h:wpOp P (gN ops b a) Q i K c w):wpOp P ops Q i K c w:=by
 unfold wpOp at h ⊢;rw[kU]at h;have d:yielded (gN ops b a) c.tmps=yielded ops c.tmps:=by
  funext j
  unfold yielded;rw[kU];cases ops[j]? with
  |none=>rfl
  |some q=>simp only[Option.map_some,Option.bind_some,(oH b a j q).2.1]
 rw[d]at h;cases aZ:ops[i]? with
 |none=>rw[aZ]at h;exact h
 |some o=>
  rw[aZ]at h;simp only[Option.map_some]at h;unfold j2 at h;split at h<;>exact h
def FY{b a:Nat}{d:Array Bool}(c:d.size=ops.size)(e:c0 d a=J){i:Nat}:i∈Region.ready .any (gN ops b a) d↔i∈Region.ready .any ops d:=by
 constructor
 ·intro h;obtain⟨o,ah,ai,ax,aM⟩:=pE h (by rw[l7];exact c);rw[kU]at ah;obtain⟨q,aJ,rfl⟩:=Option.map_eq_some_iff.1 ah;exact Ae aJ ai (IN ax) c
 ·intro h;obtain⟨o,ah,ai,ax,aM⟩:=pE h c;exact Ae (by rw[kU,ah];rfl) ai (Dp ax λ_=>e) (by rw[l7];exact c)
def IU{b a:Nat}:∀(fuel:Nat) {e:Array Bool} {c:Act} {w:World},e.size=ops.size->c0 e a=J->wpAny P .any (gN ops b a) Q fuel e c w->wpAny P .any ops Q fuel e c w
 |0,e,c,w,d,f,h=>by
  refine⟨?_,h.2⟩;rw[List.eq_nil_iff_forall_not_mem];intro i aP;have:=(FY (b:=b) d f).2 aP;rw[h.1]at this;simp at this
 |fuel+1,e,c,w,d,f,h=>by
  refine⟨λar=>h.1 ?_,λi aP=> ?_⟩
  ·rw[List.eq_nil_iff_forall_not_mem];intro i aP;have:=(FY d f).1 aP;rw[ar]at this;simp at this
  ·refine wpOp_mono (λg j cu=>IU fuel (fA d) ?_ cu) (IV (h.2 i ((FY d f).2 aP)));obtain⟨o,_,_,_,aM⟩:=pE aP d;rw[pk (by rw[d];exact aM)];split
   ·rfl
   ·exact f
def lq(dh:bf)(H0:ae)(T:List bM)(N:Nat)(ρ0:Env)(w0:World)(L:Nat->Bool)(a:Act)(w:World):Prop:=∃ρ T1 T2,T=T1++T2/\(∀t∈T1,t.k.fF=J->L t.i=J)/\(∀t∈T2,(∃v H,t.k= .cR v H)->L t.i=I)/\ gE ρ0 H0 w0 N (eE L T2 (cW T1 H0)) ρ (cW T1 H0) w/\∃b:bf,eT ρ b a/\b.size=dh.size/\∀d,b.get d=gA L d T (dh.get d)
def EH(b a:Nat):∀(T:List bM) (H:ae),cW (T.map (j3 b a)) H=cW T H
 |[],_=>rfl
 |t::T,H=>EH b a T (t.k.heap H)
def z7(b a:Nat)(L:Nat->Bool):∀(T:List bM) (H:ae),eE L (T.map (j3 b a)) H=eE L T H
 |[],_=>rfl
 |t::T,H=>by
  funext l
  simp only[List.map_cons,eE,j3];cases c:t.k with
  |new v eL=>simp only[z7 b a L T (H.push eL)]
  |_=>exact congrFun (z7 b a L T _) l
def F0(b a:Nat)(L:Nat->Bool)(d:Nat):∀(T:List bM) (v:af),gA L d (T.map (j3 b a)) v=gA L d T v
 |[],_=>rfl
 |t::T,v=>by
  simp only[List.map_cons,gA,j3,(oH b a t.i t.o).2.1];exact F0 b a L d T _
def lq.up{b a:Nat}{N:Nat}{L:Nat->Bool}{c:Act}{w:World}(h:lq dh H0 T N ρ0 w0 L c w):lq dh H0 (T.map (j3 b a)) N ρ0 w0 L c w:=by
 obtain⟨ρ,T1,T2,rfl,ah,ai,ax,f,g,i,j⟩:=h;refine⟨ρ,T1.map (j3 b a),T2.map (j3 b a),aX,λt ba e=> ?_,λt ba e=> ?_,?_,f,g,i,λd=> ?_⟩
 ·obtain⟨u,hu,rfl⟩:=List.mem_map.1 ba;exact ah u hu e
 ·obtain⟨u,hu,rfl⟩:=List.mem_map.1 ba;exact ai u hu e
 ·rw[EH,z7];exact ax
 ·rw[F0];exact j d
def lq.down{b a:Nat}{N:Nat}{L:Nat->Bool}{c:Act}{w:World}(h:lq dh H0 (T.map (j3 b a)) N ρ0 w0 L c w):lq dh H0 T N ρ0 w0 L c w:=by
 obtain⟨ρ,T1,T2,e,ah,ai,ax,g,i,j,k⟩:=h;obtain⟨eJ,gG,rfl,rfl,rfl⟩:=List.map_eq_append_iff.1 e;refine⟨ρ,eJ,gG,rfl,λt ba f=>ah (j3 b a t) (List.mem_map.2 ⟨t,ba,rfl⟩) f,λt ba f=>ai (j3 b a t) (List.mem_map.2 ⟨t,ba,rfl⟩) f,?_,g,i,j,λd=> ?_⟩
 ·rw[EH,z7]at ax;exact ax
 ·have:=k d;rwa[F0]at this
def FO{L:Nat->Bool}:∀{zD:List bM} {H:ae},(∀t∈zD,∀v b,t.k≠ .new v b)->eE L zD H=λ_=>Z
 |[],_,_=>rfl
 |t::zD,H,h=>by
  rw[sT (h t aX)];exact FO λu hu=>h u (by simp[hu])
def FN{L:Nat->Bool}{zD D':List bM}(h:∀t∈zD,∀v b,t.k≠ .new v b)(cu:∀t∈D',∀v b,t.k≠ .new v b):∀{zC:List bM} {H:ae},eE L (zC++zD) H=eE L (zC++D') H
 |[],H=>by rw[List.nil_append,List.nil_append,FO h,FO cu]
 |t::zC,H=>by
  funext l
  simp only[List.cons_append,eE];cases a:t.k with
  |new v eL=>simp only[FN h cu (zC:=zC) (H:=H.push eL)]
  |_=>exact congrFun (FN h cu (zC:=zC)) l
def lq.swap{zA M:List bM}{ta tb ta2 tb2:bM}{N:Nat}{L:Nat->Bool}{c:Act}{w:World}(q:∀t∈M,t.k.fF=I)(j:∃v H,ta.k= .cR v H)(n:∃v H,tb.k= .cR v H)(m:∃v H,ta2.k= .cR v H)(p:∃v H,tb2.k= .cR v H)
  (O:ta2.i=ta.i) (P:tb2.i=tb.i) (u:ta.o.dst=Z) (B:tb.o.dst=Z) (z:ta2.o.dst=Z) (E:tb2.o.dst=Z) (cq:L ta.i=I) (Q:L tb.i=I) (h:lq dh H0 (zA++ta::(M++[tb])) N ρ0 w0 L c w):lq dh H0 (zA++(M++[tb2,ta2])) N ρ0 w0 L c w:=by
 obtain⟨ρ,T1,T2,e,ah,ai,ax,s,R,S,T⟩:=h;obtain⟨an,U,j⟩:=j;obtain⟨bj,W,n⟩:=n;obtain⟨aa,V,m⟩:=m;obtain⟨ab,Y,p⟩:=p;obtain⟨zC,G,K⟩:∃zC,zA=T1++zC/\T2=zC++ta::(M++[tb]):=by
  rcases List.append_eq_append_iff.1 e with⟨x,g,f⟩|⟨x,g,f⟩
  ·cases x with
   |nil=>rw[List.append_nil]at g;exact⟨[],by rw[g,List.append_nil],by rw[List.nil_append]at f;rw[<-f,List.nil_append]⟩
   |cons y x=>
    simp only[List.cons_append,List.cons.injEq]at f;obtain⟨rfl,_⟩:=f;have:=ah ta (by rw[g];simp) (by rw[j];rfl);rw[cq]at this;cases this
  ·exact⟨x,g,f⟩
 subst G;subst K;have k7:∀t∈M,∀v b,t.k≠ .new v b:=λt ba v b e=>by have:=q t ba;rw[e]at this;cases this
 refine⟨ρ,T1,zC++(M++[tb2,ta2]),aX,ah,λt ba r=> ?_,?_,s,R,S,λd=> ?_⟩
 ·simp only[List.mem_append,List.mem_cons,List.not_mem_nil,or_false]at ba;rcases ba with ba|ba|rfl|rfl
  ·exact ai t (by simp[ba]) r
  ·obtain⟨v,H,e⟩:=r;have:=q t ba;rw[e]at this;cases this
  ·rw[P];exact Q
  ·rw[O];exact cq
 ·rw[FN (D':=ta::(M++[tb]))]
  ·exact ax
  ·intro t ba v b a;simp only[List.mem_append,List.mem_cons,List.not_mem_nil,or_false]at ba;rcases ba with ba|rfl|rfl
   ·exact k7 t ba v b a
   ·rw[p]at a;cases a
   ·rw[m]at a;cases a
  ·intro t ba v b a;simp only[List.mem_append,List.mem_cons,List.not_mem_nil,or_false]at ba;rcases ba with rfl|ba|rfl
   ·rw[j]at a;cases a
   ·exact k7 t ba v b a
   ·rw[n]at a;cases a
 ·rw[T d];have aL:∀{x:af} {t:bM},t.o.dst=Z->∀{l:List bM},gA L d (t::l) x=gA L d l x:=λba=>by
   intro l;simp only[gA,ba];rw[if_neg aX]
  rw[oj,oj,oj,oj,aL u,oj,oj,aL B,aL E,aL z]
def aj2{a b:Nat}{V W:List Nat}{T1 T2:List bM}{v:bf}(N:a≠b)(a1:Ctx P call (gN ops b a) V dh H0 T1 bo c5)(bd:Ctx P call (gN ops a b) W dh H0 T2 v c5)(m:e1 E P call)(k:E.le ρ0)
  (T:∀L c w,L a=I->L b=I->lq dh H0 T1 c5.next ρ0 w0 L c w->lq dh H0 T2 c5.next ρ0 w0 L c w) (M:v=bo) (r:∀ρ a w,eT ρ bo a->Step ρ0 H0 w0 ρ c5 w->Q .normal a w):
  ∀(fuel:Nat) (d:Array Bool) (c:Act) (w:World),Inv (gN ops b a) dh H0 T1 c5.next ρ0 w0 d c w->c0 d a=I->c0 d b=I->(List.range ops.size).countP (λj=> !c0 d j)<=fuel->wpAny P .any ops Q fuel d c w:=by
 subst M;have z:∀d c w,Inv (gN ops b a) dh H0 T1 c5.next ρ0 w0 d c w->Region.ready .any ops d=[]->Q .normal c w:=by
  intro d c w aP ar;have f:d.size=ops.size:=by have:=aP.size;rwa[l7]at this
  have S:Region.ready .any (gN ops b a) d=[]:=by
   rw[List.eq_nil_iff_forall_not_mem];intro i g;obtain⟨o,ah,ai,ax,aM⟩:=pE g aP.size;rw[kU]at ah;obtain⟨q,aJ,rfl⟩:=Option.map_eq_some_iff.1 ah;have:=Ae aJ ai (IN ax) f;rw[ar]at this;simp at this
  obtain⟨ρ,ah,ai⟩:=a1.final aP (a1.Js aP.size S);exact r ρ c w ah ai
 intro fuel
 induction fuel with
 |zero=>
  intro d c w aP _ _ y;have f:d.size=ops.size:=by have:=aP.size;rwa[l7]at this
  have ar:Region.ready .any ops d=[]:=by
   rw[List.eq_nil_iff_forall_not_mem];intro i g;obtain⟨o,ah,ai,ax,aM⟩:=pE g f;have Y:0<(List.range ops.size).countP (λj=> !c0 d j):=List.countP_pos_iff.2 ⟨i,fA aM,by simp[ai]⟩;omega
  exact⟨ar,z _ _ _ aP ar⟩
 |succ fuel U=>
  intro d c w aP cq H y;have f:d.size=ops.size:=by have:=aP.size;rwa[l7]at this
  refine⟨λar=>z _ _ _ aP ar,λi g=> ?_⟩;obtain⟨o,aZ,aw,hw,n⟩:=pE g f;have G:i<d.size:=by rw[f];exact n
  have s:=count_set G n aw y;have l:∀j,c0 (d.setIfInBounds i J) j=if j=i then J else c0 d j:=λj=>pk G j
  by_cases p:i=b
  ·
    subst p;have O:Inv (gN ops a i) dh H0 T2 c5.next ρ0 w0 d c w:=by
     refine⟨by rw[l7];exact f,λj q B t=> ?_,T _ _ _ cq H aP.mid⟩;rw[kU]at B;obtain⟨aa,R,rfl⟩:=Option.map_eq_some_iff.1 B;have K:=aP.closed j _ (by rw[kU,R];rfl) t;refine Dp (IN K) λe=> ?_
     subst e;rw[cq]at t;cases t
    refine IV (b:=a) (a:=i) (bd.step m k O (by rw[kU,aZ];rfl) aw (Dp hw λe=>absurd e.symm N) (by rw[l7];exact n) λb1 u h=> ?_);refine IU fuel (fA f) (by rw[l,if_pos rfl]) (bd.any m k r fuel _ b1 u h ?_);rw[l7];exact s
  ·refine IV (b:=b) (a:=a) (a1.step m k aP (by rw[kU,aZ];rfl) aw (Dp hw λe=>absurd e p) (by rw[l7];exact n) λb1 u h=> ?_);by_cases x:i=a
   ·subst x;refine IU fuel (fA f) (by rw[l,if_pos rfl]) (a1.any m k r fuel _ b1 u h ?_);rw[l7];exact s
   ·exact U _ _ _ h (by rw[l,if_neg (Ne.symm x)];exact cq) (by rw[l,if_neg (Ne.symm p)];exact H) s
def kf(ops:Array Oper)(a:Nat):Option (TypeId×Operand×Operand):=match ops[a]? with
 |some o=>(match o.op,o.guard,o.dst with
  | .store t x y,Z,Z=>A (t,x,y)
  |_,_,_=>Z)
 |none=>Z
def o4(ms:List Nat)(ops:Array Oper):List Nat->List Nat->Bool
 |[],_=>J
 |i::is,ids=>match ops[i]? with
  |some o=>(match cls o.op with
   | .new=>o4 ms ops is (i::ids)
   | .write=>ids.all (λj=>cz ms j i)&&o4 ms ops is (i::ids)
   | .call=>ids.all (λj=>cz ms j i)&&o4 ms ops is (i::ids)
   |_=>o4 ms ops is ids)
  |none=>J
def Pu(ops:Array Oper)(ord:List Nat)(a b:Nat):Bool:=ord.all λi=>match ops[i]? with
 |some o=>(match cls o.op with
  | .read=>cz (cJ ops) i a&&(cz (cJ ops) i b&& !cz (cJ ops) a i)
  | .both=>cz (cJ ops) i a&&(cz (cJ ops) i b&& !cz (cJ ops) a i)
  |_=>J)
 |none=>J
def z1(ops:Array Oper)(ord:List Nat):Bool:=q0 ops (cJ ops) ord&&o4 (cJ ops) ops ord []
def ah2{o:Op}{R:bf}{H:ae}{v:af}{H':ae}(h:hU P call o R H=A (.cR v H')):cls o= .write\/cls o= .call:=by
 unfold hU at h;split at h
 ·unfold nk at h;split at h<;>cases h
 ·unfold lN at h;split at h<;>cases h
 ·split at h
  ·cases h
  ·unfold lN at h;split at h<;>cases h
 ·unfold uR at h;split at h<;>cases h
 ·rename_i aA;exact .inl aA
 ·rename_i aA;exact .inr aA
def ah4{o:Op}{R:bf}{H:ae}{v:af}{b:bz}(h:hU P call o R H=A (.new v b)):cls o= .new:=by
 unfold hU at h;split at h
 ·unfold nk at h;split at h<;>cases h
 ·unfold lN at h;split at h<;>cases h
 ·split at h
  ·cases h
  ·unfold lN at h;split at h<;>cases h
 ·rename_i aA;exact aA
 ·unfold kA at h;split at h
  ·split at h<;>cases h
  ·cases h
 ·split at h
  ·split at h
   ·unfold kA at h;split at h
    ·split at h<;>cases h
    ·cases h
   ·cases h
  ·cases h
def ah6{o:Op}{R:bf}{H:ae}{v:af}(h:hU P call o R H=A (.read v)):cls o= .read\/cls o= .both:=by
 unfold hU at h;split at h
 ·unfold nk at h;split at h<;>cases h
 ·rename_i aA;exact .inl aA
 ·rename_i aA;exact .inr aA
 ·unfold uR at h;split at h<;>cases h
 ·unfold kA at h;split at h
  ·split at h<;>cases h
  ·cases h
 ·split at h
  ·split at h
   ·unfold kA at h;split at h
    ·split at h<;>cases h
    ·cases h
   ·cases h
  ·cases h
def EP{o:Oper}{R:bf}{H:ae}{k:K}(h:gk P call ops o R H=A k)(a:k≠ .skip):hU P call o.op R H=A k:=by
 unfold gk at h;split at h
 ·exact h
 ·simp only[bD]at h;exact absurd h.symm a
def sx{ms:List Nat}:∀{is:List Nat} {R:bf} {H:ae} {T:List bM} {bl:bf} {H':ae} {ids d:List Nat},canRun P call ops is R H=A (T,bl,H')->o4 ms ops is ids=J->(∀j∈d,j∈ids)->kt ms T d=J
 |[],R,H,T,bl,H',ids,d,h,_,_=>by
  simp only[canRun,bD,eF]at h;rw[<-h.1];rfl
 |i::is,R,H,T,bl,H',ids,d,h,c,aP=>by
  simp only[canRun]at h;split at h
  ·cases h
  ·rename_i o aZ;split at h
   ·cases h
   ·rename_i k m;split at h
    ·cases h
    ·rename_i q _;split at h
     ·cases h
     ·rename_i T1 r n e;simp only[bD,eF]at h;obtain⟨rfl,rfl,rfl⟩:=h;simp only[o4,aZ]at c;have sub:∀j∈i::d,j∈i::ids:=λj a=>by
       rcases List.mem_cons.1 a with rfl|a
       ·simp
       ·simp[aP j a]
      have s:∀j∈d,j∈i::ids:=λj a=>by simp[aP j a]
      have aT:∃f,o4 ms ops is f=J/\(∀j∈ids,j∈f):=by
       split at c
       ·exact⟨_,c,λj a=>by simp[a]⟩
       ·simp only[Bool.and_eq_true]at c;exact⟨_,c.2,λj a=>by simp[a]⟩
       ·simp only[Bool.and_eq_true]at c;exact⟨_,c.2,λj a=>by simp[a]⟩
       ·exact⟨_,c,λj a=>a⟩
      simp only[kt];cases k with
      |cR v p=>
       have aA:=ah2 (EP m aX);simp only[Bool.and_eq_true];rcases aA with aA|aA<;>
       ·rw[aA]at c;simp only[Bool.and_eq_true,List.all_eq_true]at c;refine⟨?_,sx e c.2 sub⟩;rw[List.all_eq_true];exactλj a=>c.1 j (aP j a)
      |new v b=>
       have aA:=ah4 (EP m aX);rw[aA]at c;exact sx e c sub
      |pure v=>obtain⟨f,g,l⟩:=aT;exact sx e g λj a=>l j (aP j a)
      |read v=>obtain⟨f,g,l⟩:=aT;exact sx e g λj a=>l j (aP j a)
      |skip=>obtain⟨f,g,l⟩:=aT;exact sx e g λj a=>l j (aP j a)
def rR(P:Program)(ms:List Nat)(cN:Nat->Bool)(T:List bM)(H:ae):List bM->Bool
 |[]=>J
 |t::ts=>(match t.k with
  | .read v=>cN t.i||gW ms (ld P t.o.op t.R v) t.i T H
  |_=>J)&&rR P ms cN T H ts
def S6{ms:List Nat}{cN:Nat->Bool}{T:List bM}{H:ae}{t:bM}{v:af}(ba:t.k= .read v):∀{ts:List bM},rR P ms cN T H ts=J->t∈ts->cN t.i=J\/gW ms (ld P t.o.op t.R v) t.i T H=J
 |[],_,hm=>by simp at hm
 |u::ts,h,hm=>by
  simp only[rR,Bool.and_eq_true]at h;rcases List.mem_cons.1 hm with rfl|hm
  ·have:=h.1;rw[ba]at this;simpa using this
  ·exact S6 ba h.2 hm
def S4{ms:List Nat}{cN:Nat->Bool}{T:List bM}{H:ae}:∀{ts:List bM},(∀t∈ts,∀v,t.k= .read v->cN t.i=J\/gW ms (ld P t.o.op t.R v) t.i T H=J)->m0 P ms cN T H ts=J
 |[],_=>rfl
 |t::ts,h=>by
  simp only[m0,Bool.and_eq_true];refine⟨?_,S4 λu hu=>h u (by simp[hu])⟩;cases a:t.k with
  |read v=>
   simp only[Bool.or_eq_true];refine(h t aX v a).imp id λhw=> ?_
   unfold rF;cases qu ms t.i T I with
   |true=>rw[g8,hw];rfl
   |false=>rw[oZ,hw]
  |_=>rfl
def KU{ops:Array Oper}{ord:List Nat}(h:z1 ops ord=J)(dO:canRun P call ops ord dh H0=A (T,bo,c5))(hw:∀t∈T,∀v,t.k= .read v->kg ops (cJ ops) ord t.i=J\/gW (cJ ops) (ld P t.o.op t.R v) t.i T H0=J):Ctx P call ops ord dh H0 T bo c5:=by
 unfold z1 at h;simp only[Bool.and_eq_true]at h;exact⟨dO,h.1,sx dO h.2 λj a=>a,S4 hw⟩
def acV{ord:List Nat}(dO:canRun P call ops ord dh H0=A (T,bo,c5)){t:bM}(ba:t∈T){v:af}(d:t.k= .read v):t.i∈ord/\ops[t.i]? =A t.o/\(cls t.o.op= .read\/cls t.o.op= .both):=by
 obtain⟨zA,B,c⟩:=List.append_of_mem ba;obtain⟨b,_,a,_⟩:=yV (by rw[<-c];exact dO);rw[d]at a;exact⟨by rw[<-(lE dO).1,List.mem_map];exact⟨t,ba,rfl⟩,b,ah6 (EP a aX)⟩
def Ep{acc:List Nat}{j:Nat}{e:Edge}:∀{es:List Edge},e∈es->Region.binds .any e=J->(acc[e.on]?.getD 0).testBit j=J->(k0 acc es).testBit j=J
 |[],h,_,_=>by simp at h
 |d::es,h,a,b=>by
  unfold k0;rcases List.mem_cons.1 h with rfl|h
  ·rw[if_pos a];simp[b]
  ·split
   ·simp[Ep h a b]
   ·exact Ep h a b
def abm(ops:Array Oper):(cJ ops).length=ops.size:=by
 have hlen:∀(os:List Oper) (acc:List Nat),(pr os acc).length=acc.length+os.length:=by
  intro os
  induction os with
  |nil=>intro acc;simp[pr]
  |cons o os a=>intro acc;simp[pr,a];omega
 unfold cJ;rw[hlen];simp
def yQ(b a:Nat):∀(i j:Nat),cz (cJ ops) j i=J->cz (cJ (gN ops b a)) j i=true:=by
 intro i
 induction i using Nat.strongRecOn with
 |_ i g=>
  intro j c;cases aZ:ops[i]? with
  |none=>
   unfold cz at c;have:ops.size<=i:=fA aZ;rw[List.getElem?_eq_none (by rw[abm];exact this)]at c;simp at c
  |some o=>
   unfold cz at c ⊢;rw[zM aZ]at c;rw[zM (show(gN ops b a)[i]? =A (j2 b a i o) by rw[kU,aZ];rfl)];simp only[Option.getD_some]at c ⊢;obtain⟨e,ah,ai,ax⟩:=y4 c;have f:e∈(j2 b a i o).after.toList:=by
    unfold j2;split
    ·simp;exact .inl (fA ah)
    ·exact ah
   rcases ax with rfl|ax
   ·exact y5 f ai
   ·refine Ep f ai ?_;rcases Nat.lt_or_ge e.on i with d|h
    ·rw[List.getElem?_take_of_lt d]at ax ⊢;exact g e.on d j ax
    ·rw[List.getElem?_eq_none (by simp;omega)]at ax;simp at ax
def Sp{b a:Nat}{ord c:List Nat}{i:Nat}(h:kg ops (cJ ops) ord i=J)(e:∀j∈c,j∈ord):kg (gN ops b a) (cJ (gN ops b a)) c i=true:=by
 unfold kg at h ⊢;rw[List.all_eq_true]at h ⊢;intro j d;have ah:=h j (e j d);simp only[Bool.or_eq_true,beq_iff_eq]at ah ⊢;rcases ah with((ah|ah)|ah)|ah
 ·exact .inl (.inl (.inl ah))
 ·refine .inl (.inl (.inr ?_));rw[kU];cases aZ:ops[j]? with
  |none=>rfl
  |some o=>rw[aZ]at ah;simp only[Option.map_some,(oH b a j o).1];exact ah
 ·exact .inl (.inr (yQ b a _ _ ah))
 ·exact .inr (yQ b a _ _ ah)
def Dr{ms ms':List Nat}{b a:Nat}(hm:∀i j,cz ms j i=J->cz ms' j i=J){rd:ae->Bool}{i:Nat}:∀{T:List bM} {H:ae},gW ms rd i T H=J->gW ms' rd i (T.map (j3 b a)) H=J
 |[],H,h=>h
 |t::T,H,h=>by
  simp only[List.map_cons,gW,j3]at h ⊢;split at h
  ·rename_i c;rw[if_pos c];simp only[Bool.and_eq_true,Bool.or_eq_true]at h ⊢;exact⟨h.1.imp (hm _ _) id,h.2.imp (hm _ _) (Dr hm)⟩
  ·rename_i c;rw[if_neg c];exact Dr hm h
def IT{ms:List Nat}{rd:ae->Bool}{i:Nat}{ta tb:bM}{zX W M:List bM}(b:ta.k.fF=J)(c:tb.k.fF=J)(a:∀t∈M,t.k.fF=I)(ah:cz ms ta.i i=I)(ai:cz ms i tb.i=J):∀{zA:List bM} {H:ae},gW ms rd i (zA++ta::zX) H=J->gW ms rd i (zA++(M++tb::W)) H=J
 |[],H,h=>by
  simp only[List.nil_append,gW,b,if_true,ah,Bool.false_or,Bool.and_eq_true]at h;have key:∀{M:List bM},(∀t∈M,t.k.fF=I)->gW ms rd i (M++tb::W) H=true:=by
   intro M
   induction M with
   |nil=>intro _;simp only[List.nil_append,gW,c,if_true,h.1,ai,Bool.or_true,Bool.true_or,Bool.and_self]
   |cons t M e=>
    intro a;simp only[List.cons_append,gW];rw[if_neg (by rw[a t aX];simp)];exact e λu hu=>a u (by simp[hu])
  exact key a
 |t::zA,H,h=>by
  simp only[List.cons_append,gW]at h ⊢;split at h
  ·rename_i d;rw[if_pos d];simp only[Bool.and_eq_true,Bool.or_eq_true]at h ⊢;exact⟨h.1,h.2.imp id (IT b c a ah ai)⟩
  ·rename_i d;rw[if_neg d];exact IT b c a ah ai h
def FQ(ops:Array Oper)(xs:List Operand)(i:Nat):Bool:=match ops[i]? with
 |some o=>(match cls o.op,o.guard,o.dst with
  | .pure,Z,A d=>xs.all λx=>match x with
   | .tmp t=>t != d
   |_=>J
  | .pure,Z,Z=>J
  |_,_,_=>I)
 |none=>I
def Ki{xs:List Operand}:∀{is:List Nat} {R:bf} {H:ae} {M:List bM} {b:bf} {f:ae},is.all (FQ ops xs)=J->canRun P call ops is R H=A (M,b,f)->f=H/\(∀t∈M,t.k.fF=I)/\(∀H',canRun P call ops is R H'=A (M,b,H'))/\∀x∈xs,cp b x=cp R x
 |[],R,H,M,b,f,_,h=>by
  simp only[canRun,bD,eF]at h;obtain⟨rfl,rfl,rfl⟩:=h;exact⟨rfl,λt ba=>by simp at ba,λH'=>rfl,λ_ _=>rfl⟩
 |i::is,R,H,M,b,f,m,h=>by
  simp only[List.all_cons,Bool.and_eq_true]at m;obtain⟨a,s⟩:=m;simp only[canRun]at h;split at h
  ·cases h
  ·rename_i o aZ;unfold FQ at a;rw[aZ]at a;simp only at a;have r:cls o.op= .pure/\o.guard=Z/\∀d,o.dst=A d->∀x∈xs,∀t,x= .tmp t->t≠d:=by
    split at a
    ·rename_i d aA aS c;refine⟨aA,aS,λp e x aE t ba=> ?_⟩;rw[c]at e;cases e;rw[List.all_eq_true]at a;have:=a x aE;rw[ba]at this;simpa using this
    ·rename_i aA aS c;exact⟨aA,aS,λp e=>by rw[c]at e;cases e⟩
    ·cases a
   obtain⟨a1,bd,bn⟩:=r;have l:∀H',gk P call ops o R H'=nk (jJ P o.op R):=λH'=>by
    unfold gk j8;rw[bd];simp only[hU,a1]
   rw[l]at h;cases g:jJ P o.op R with
   |none=>rw[g]at h;cases h
   |some v=>
    rw[g]at h;simp only[nk]at h;split at h
    ·cases h
    ·rename_i n j;split at h
     ·cases h
     ·rename_i T1 G E u;simp only[bD,eF]at h;obtain⟨rfl,rfl,rfl⟩:=h;obtain⟨w,y,z,B⟩:=Ki s u;refine⟨w,λt ba=> ?_,λH'=> ?_,λx aE=> ?_⟩
      ·rcases List.mem_cons.1 ba with rfl|ba
       ·rfl
       ·exact y t ba
      ·have q:R.put o.dst v=A n:=j;simp only[canRun,aZ,l,g,nk,K.val,q,K.heap];rw[z H']
      ·rw[B x aE];cases x with
       |tmp t=>
        simp only[cp];rw[bf.sE j t];split
        ·rename_i c;exact absurd rfl (bn t c _ aE t rfl)
        ·rfl
       |_=>rfl
def D0{H H':ae}{t:TypeId}{u v:af}(h:cr P H t u v=A H'):∃l i c b,u= .ptr l i c/\l<H.next/\H'=H.set l b/\∀a:ae,a.get l=H.get l->cr P a t u v=A (a.set l b):=by
 unfold cr at h;split at h
 ·rename_i l i c;split at h
  ·rename_i esz els aS;split at h
   ·rename_i e he;split at h
    ·rename_i aA;simp only[bD]at h;exact⟨l,i,c,_,rfl,ae.bq aS,h.symm,λa ai=>by simp only[cr,ai,aS,he];rw[if_pos aA]⟩
    ·cases h
   ·cases h
  ·rename_i d esz els aS;split at h
   ·rename_i e he;split at h
    ·rename_i aA;simp only[bD]at h;exact⟨l,i,c,_,rfl,ae.bq aS,h.symm,λa ai=>by simp only[cr,ai,aS,he];rw[if_pos aA]⟩
    ·cases h
   ·cases h
  ·cases h
 ·cases h
def ahk{a:Nat}{t:TypeId}{x y:Operand}(h:kf ops a=A (t,x,y)):∃o,ops[a]? =A o/\o.op= .store t x y/\o.guard=Z/\o.dst=none:=by
 unfold kf at h;split at h
 ·rename_i o aZ;split at h
  ·rename_i ah ai ax;simp only[bD,eF]at h;obtain⟨rfl,rfl,rfl⟩:=h;exact⟨o,aZ,ah,ai,ax⟩
  ·cases h
 ·cases h
def yW{a:Nat}{t:TypeId}{x y:Operand}(h:kf ops a=A (t,x,y))(is:List Nat)(R:bf)(H:ae):∃o,ops[a]? =A o/\o.dst=Z/\canRun P call ops (a::is) R H=((cp R x).bind λu=>(cp R y).bind λv=>cr P H t u v).bind λH'=>(canRun P call ops is R H').map λp=>(⟨a,o,R,.cR (.tuple []) H'⟩::p.1,p.2):=by
 obtain⟨o,ah,ai,ax,aM⟩:=ahk h;refine⟨o,ah,aM,?_⟩;have d:gk P call ops o R H=kA H (me P (.store t x y) R H):=by
  unfold gk j8;rw[ax,ai];simp only[hU,cls]
 simp only[canRun,ah,d,me];cases hu:cp R x with
 |none=>rfl
 |some u=>
  simp only[Option.bind_some];cases f:cp R y with
  |none=>rfl
  |some v=>
   simp only[Option.bind_some];cases e:cr P H t u v with
   |none=>rfl
   |some H'=>
    obtain⟨l,i,c,b,_,_,rfl,_⟩:=D0 e;simp only[Option.map_some,kA,ae.u1,du,if_true,aM,bf.put,K.heap,Option.bind_some];cases canRun P call ops is R (H.set l b)with
    |none=>rfl
    |some p=>rfl
def zB(R:bf)(x:Operand):Option Nat:=match cp R x with
 |some (.ptr l _ _)=>A l
 |_=>Z
def Df(ops:Array Oper)(ord pre:List Nat)(a:Nat)(mid:List Nat)(b:Nat):Bool:=
 match kf ops a,kf ops b with
 |some (_,c,d),A _=>decide (ord=pre++a::(mid++[b]))&&(decide (a≠b)&&(mid.all (FQ ops [c,d])&&(Pu ops ord a b&&(z1 (gN ops b a) ord&&z1 (gN ops a b) (pre++(mid++[b,a]))))))
 |_,_=>I
def ym(ops:Array Oper)(a b:Nat)(R:bf):Bool:=
 match kf ops a,kf ops b with
 |some (_,c,_),A (_,aU,_)=>(match zB R c,zB R aU with
  |some l,A m=> !Nat.beq l m
  |_,_=>I)
 |_,_=>I
theorem aih{id a b:Nat}{ord pre mid:List Nat}{act:Act}{w:World}(hm:P.follows .mixedOrders=J)(aZ:e1 E P call)(p:Df ops ord pre a mid b=J)(K:canRun P call ops ord dh H0=A (T,bo,c5))(G:ym ops a b bo=J)(bl:rR P (cJ ops) (kg ops (cJ ops) ord) T H0 T=J)
  (aV:Rel ρ0 H0 w) (aC:jB E ρ0 H0.next c5.next) (ar:eT ρ0 dh act) (aT:∀ρ a U,eT ρ bo a->Step ρ0 H0 w ρ c5 U->Q .normal a U):(Code.region id ops J).wp P Q act w:=by
 unfold Df at p;unfold ym at G;cases N:kf ops a with
 |none=>rw[N]at p;cases p
 |some br=>
 obtain⟨bO,aD,aE⟩:=br;cases aa:kf ops b with
 |none=>rw[N,aa]at p;cases p
 |some bs=>
 obtain⟨bP,aU,bS⟩:=bs;rw[N,aa]at p G;simp only[Bool.and_eq_true,decide_eq_true_eq]at p G;obtain⟨a_,aY,a3,af,a4,a5⟩:=p;subst a_;have am:=K;rw[ux]at K;obtain⟨⟨zA,z,H1⟩,aP,K⟩:=eV.1 K;obtain⟨⟨bK,bI,bF⟩,B,he⟩:=Option.map_eq_some_iff.1 K;simp only[eF]at he;obtain⟨rfl,rfl,rfl⟩:=he;simp only at B;obtain⟨r,a6,aj,aH⟩:=yW (P:=P) (call:=call) N (mid++[b]) z H1;rw[aH]at B;obtain⟨bC,O,B⟩:=eV.1 B;obtain⟨⟨b6,bG,bz⟩,V,he⟩:=Option.map_eq_some_iff.1 B;simp only[eF]at he;obtain⟨rfl,rfl,rfl⟩:=he;rw[ux]at V;obtain⟨⟨M,f,aF⟩,aS,V⟩:=eV.1 V;obtain⟨⟨cg,bH,bA⟩,x,he⟩:=Option.map_eq_some_iff.1 V;simp only[eF]at he;obtain⟨rfl,rfl,rfl⟩:=he
 simp only at x;obtain⟨rfl,ay,bn,aB⟩:=Ki a3 aS;obtain⟨s,a8,ak,aJ⟩:=yW (P:=P) (call:=call) aa [] f aF;rw[aJ]at x;obtain⟨bE,S,x⟩:=eV.1 x;simp only[canRun,Option.map_some,bD,eF]at x;obtain⟨rfl,rfl,rfl⟩:=x;obtain⟨bQ,bg,O⟩:=eV.1 O;obtain⟨an,bh,O⟩:=eV.1 O;obtain⟨bR,aq,S⟩:=eV.1 S;obtain⟨bj,bk,S⟩:=eV.1 S;obtain⟨cq,bm,aG,n,rfl,bL,rfl,aL⟩:=D0 O;obtain⟨g,bN,bJ,m,rfl,a2,rfl,aN⟩:=D0 S;have ap:cp f aD=A (.ptr cq bm aG):=(aB aD aX).trans bg;have bi:cp f aE=A an:=(aB aE aX).trans bh;have ad:cq≠g:=by
  simp only[zB,ap,aq]at G;intro e;subst e;simp at G
 simp only[ae.u1]at a2;have bx:=aN H1 (by rw[ae.b8 ad]);have bw:=aL (H1.set g m) (by rw[ae.b8 (Ne.symm ad)]);have a0:(H1.set g m).set cq n=(H1.set cq n).set g m:=(ae.set_comm ad).symm;have bc:canRun P call ops (pre++(mid++[b,a])) dh H0=A (zA++(M++[⟨b,s,f,.cR (.tuple []) (H1.set g m)⟩,⟨a,r,f,.cR (.tuple []) ((H1.set cq n).set g m)⟩]),f,(H1.set cq n).set g m):=by
  obtain⟨bp,a7,_,aI⟩:=yW (P:=P) (call:=call) N [] f (H1.set g m);obtain rfl:bp=r:=Option.some.inj (a7.symm.trans a6);obtain⟨bq,a9,_,aK⟩:=yW (P:=P) (call:=call) aa [a] f H1;obtain rfl:bq=s:=Option.some.inj (a9.symm.trans a8);rw[ux,aP];simp only[Option.bind_some];rw[ux,bn H1];simp only[Option.bind_some];rw[aK,aq,bk];simp only[Option.bind_some,bx];rw[aI,ap,bi];simp only[Option.bind_some,bw,canRun,Option.map_some,a0]
 have al:∀t∈zA++⟨a,r,z,.cR (.tuple []) (H1.set cq n)⟩::(M++[⟨b,s,f,.cR (.tuple []) ((H1.set cq n).set g m)⟩]),∀v,t.k= .read v->cz (cJ ops) a t.i=I/\cz (cJ ops) t.i b=J/\(kg ops (cJ ops) (pre++a::(mid++[b])) t.i=J\/gW (cJ ops) (ld P t.o.op t.R v) t.i (zA++⟨a,r,z,.cR (.tuple []) (H1.set cq n)⟩::(M++[⟨b,s,f,.cR (.tuple []) ((H1.set cq n).set g m)⟩])) H0=J):=by
  intro t ba v q;obtain⟨bt,bu,bv⟩:=acV am ba q;unfold Pu at af;rw[List.all_eq_true]at af;have aM:=af _ bt;rw[bu]at aM;simp only at aM;refine⟨?_,?_,S6 q bl ba⟩<;>
  ·rcases bv with aA|aA<;>
   ·rw[aA]at aM;simp only[Bool.and_eq_true,Bool.not_eq_true']at aM
    first|exact aM.2.2|exact aM.2.1
 have a1:=KU a4 (show canRun P call (gN ops b a) (pre++a::(mid++[b])) dh H0=A (_,_,_) by rw[Eb,am];rfl) (λt ba v q=>by
  obtain⟨u,hu,rfl⟩:=List.mem_map.1 ba;obtain⟨_,_,ab⟩:=al u hu v q;refine ab.imp (λh=>Sp h λj Y=>Y) λh=> ?_
  have:=Dr (b:=b) (a:=a) (ms':=cJ (gN ops b a)) (yQ b a) h;simpa only[j3,(oH b a u.i u.o).1]using this)
 have be:∀j∈pre++(mid++[b,a]),j∈pre++a::(mid++[b]):=λj Y=>by
  simp only[List.mem_append,List.mem_cons,List.not_mem_nil,or_false]at Y ⊢;rcases Y with h|h|h|h
  ·exact .inl h
  ·exact .inr (.inr (.inl h))
  ·exact .inr (.inr (.inr h))
  ·exact .inr (.inl h)
 have bd:=KU a5 (show canRun P call (gN ops a b) (pre++(mid++[b,a])) dh H0=A (_,_,_) by rw[Eb,bc];rfl) (λt ba v q=>by
  obtain⟨u,hu,rfl⟩:=List.mem_map.1 ba;have bf:u∈zA++⟨a,r,z,.cR (.tuple []) (H1.set cq n)⟩::(M++[⟨b,s,f,.cR (.tuple []) ((H1.set cq n).set g m)⟩]):=by
   simp only[List.mem_append,List.mem_cons,List.not_mem_nil,or_false]at hu ⊢;rcases hu with h|h|rfl|rfl
   ·exact .inl h
   ·exact .inr (.inr (.inl h))
   ·cases q
   ·cases q
  obtain⟨ax,aM,ab⟩:=al u bf v q;refine ab.imp (λh=>Sp h be) λh=> ?_
  have aO:=IT (tb:=⟨b,s,f,.cR (.tuple []) (H1.set g m)⟩) (W:=[⟨a,r,f,.cR (.tuple []) ((H1.set cq n).set g m)⟩]) rfl rfl ay ax aM h;have:=Dr (b:=a) (a:=b) (ms':=cJ (gN ops a b)) (yQ a b) aO;simpa only[j3,(oH a b u.i u.o).1]using this)
 have y:∀j,c0 (Array.replicate ops.size I) j=false:=λj=>by
  unfold c0;rw[Array.getD_eq_getD_getElem?];by_cases h:j<ops.size<;>simp[h]
 refine wp_region_any hm (aj2 (ρ0:=ρ0) (w0:=w.drew) aY a1 bd aZ aC.le (λL c U aQ aR h=> ?_) rfl (λρ a U ah ai=>aT ρ a U ah ?_) _ _ _ _ ⟨by rw[l7];simp,λi o _ aw=>absurd aw (by rw[y];simp),ρ0,[],_,rfl,aX,λt _ _=>y _,?_,dh,ar,rfl,λd=> ?_⟩ (y a) (y b) ?_)
 ·exact(lq.swap (ta:=⟨a,r,z,.cR (.tuple []) (H1.set cq n)⟩) (tb:=⟨b,s,f,.cR (.tuple []) ((H1.set cq n).set g m)⟩) (ta2:=⟨a,r,f,.cR (.tuple []) ((H1.set cq n).set g m)⟩) (tb2:=⟨b,s,f,.cR (.tuple []) (H1.set g m)⟩) ay ⟨_,_,rfl⟩ ⟨_,_,rfl⟩ ⟨_,_,rfl⟩ ⟨_,_,rfl⟩ rfl rfl aj ak aj ak aQ aR h.down).up
 ·exact⟨ai.le,ai.next,ai.keep,ai.rel,ai.os,ai.tape,ai.output,ai.size,ai.frame,ai.own,ai.ro,ai.olds⟩
 ·have bb:∀(T:List bM) (H:ae),eE (c0 (Array.replicate ops.size I)) T H=λ_=>none:=by
   intro T
   induction T with
   |nil=>intro H;rfl
   |cons t T av=>
    intro H
    funext l
    unfold eE;split
    ·rw[av,y];simp
    ·rw[av]
  rw[bb];exact gE.start aV.drew aC.new
 ·rw[vg λt _ _=>y _]
 ·refine Nat.le_trans List.countP_le_length ?_;simp
def qa(ops:Array Oper)(ord:List Nat):Option (Nat×Nat):=match ord.getLast? with
 |none=>Z
 |some b=>match kf ops b with
  |none=>Z
  |some _=>match ord.dropLast.find? (λa=>(kf ops a).isSome&& !cz (cJ ops) a b)with
   |none=>Z
   |some a=>match Df ops ord (ord.dropLast.takeWhile λi=> !Nat.beq i a) a ((ord.dropLast.dropWhile λi=> !Nat.beq i a).drop 1) b with
    |true=>A (a,b)
    |false=>Z
theorem aif{ops:Array Oper}{ord:List Nat}{a b:Nat}(h:qa ops ord=A (a,b)):∃pre mid,Df ops ord pre a mid b=true:=by
 unfold qa at h;split at h
 ·cases h
 ·split at h
  ·cases h
  ·split at h
   ·cases h
   ·split at h
    ·rename_i c;simp only[bD,eF]at h;obtain⟨rfl,rfl⟩:=h;exact⟨_,_,c⟩
    ·cases h
end
def jy(P:Program)(call:aq)(ops:Array Oper):List Oper->bf->ae->Option (bf×ae)
 |[],R,H=>A (R,H)
 |o::os,R,H=>match gk P call ops o R H with
  |none=>Z
  |some k=>match R.put o.dst k.val with
   |none=>Z
   |some bl=>jy P call ops os bl (k.heap H)
def Tx(o:Oper):Bool:=match cls o.op with
 | .write=>J
 | .call=>J
 |_=>I
def need(m:Nat)(done:Nat):List Nat->List Nat
 |[]=>[]
 |j::a=>if m.testBit j&& !done.testBit j then j::need m done a else need m done a
def RH(done:Nat):List Nat->Nat
 |[]=>done
 |j::a=>RH (done|||2^j) a
def FK(ms all:List Nat):List (Nat×Oper)->Nat->List Nat
 |[],done=>need (2^all.length-1) done all
 |(i,o)::is,done=>if Tx o&& !done.testBit i then
   (let a:=need (ms[i]?.getD 0) done all
    a++i::FK ms all is (RH done a|||2^i))
  else FK ms all is done
def Te:Nat->List Oper->List (Nat×Oper)
 |_,[]=>[]
 |i,o::os=>(i,o)::Te (i+1) os
def order(ops:Array Oper):List Nat:=FK (cJ ops) (List.range ops.size) (Te 0 ops.toList) 0
def hB(P:Program)(call:aq)(ops:Array Oper)(draw:Bool)(R:bf)(H:ae):Option (bf×ae):=
 match draw with
 |false=>jy P call ops ops.toList R H
 |true=>match canRun P call ops (order ops) R H with
  |none=>Z
  |some (T,bl,H')=>match qa ops (order ops)with
   |some (a,b)=>(match ym ops a b bl&&rR P (cJ ops) (kg ops (cJ ops) (order ops)) T H T with
    |false=>Z
    |true=>A (bl,H'))
   |none=>match kt (cJ ops) T []with
    |false=>Z
    |true=>match m0 P (cJ ops) (kg ops (cJ ops) (order ops)) T H T with
     |false=>Z
     |true=>A (bl,H')
def mK:Code->Bool
 | .region _ ops J=>q0 ops (cJ ops) (order ops)
 | .seq a b=>mK a&&mK b
 | .cond _ a b=>mK a&&mK b
 | .block _ b=>mK b
 | .loop b=>mK b
 |_=>J
inductive gX where
 |normal
 |exit (id:Nat)
 |ret
def gX.Es:gX->Exit
 | .normal=> .normal
 | .exit id=> .exit id
 | .ret=> .ret
abbrev yx:=Array Oper->Bool->bf->ae->Option (bf×ae)
def iter(f:bf->ae->Option (gX×bf×ae)):Nat->bf->ae->Option (gX×bf×ae)
 |0,_,_=>Z
 |n+1,R,H=>match f R H with
  |some (.normal,bl,H')=>iter f n bl H'
  |r=>r
def dc(jv:yx)(N:Nat):Code->bf->ae->Option (gX×bf×ae)
 | .skip,R,H=>A (.normal,R,H)
 | .region _ ops d,R,H=>match jv ops d R H with
  |some (bl,H')=>A (.normal,bl,H')
  |none=>Z
 | .seq a b,R,H=>match dc jv N a R H with
  |some (.normal,bl,H')=>dc jv N b bl H'
  |r=>r
 | .cond c a b,R,H=>match cp R c with
  |some (.bool J)=>dc jv N a R H
  |some (.bool I)=>dc jv N b R H
  |_=>Z
 | .block id b,R,H=>match dc jv N b R H with
  |some (.exit e,bl,H')=>if e=id then A (.normal,bl,H')else A (.exit e,bl,H')
  |r=>r
 | .loop b,R,H=>iter (λR H=>dc jv N b R H) N R H
 | .exit id,R,H=>A (.exit id,R,H)
 | .ret,R,H=>A (.ret,R,H)
 | .label _,R,H=>A (.normal,R,H)
 |_,_,_=>Z
def bf.u3(t:bK af):Nat->List af->bK af
 |_,[]=>t
 |i,v::ak=>bf.u3 (bK.put v (i+1) t i) (i+1) ak
def bf.enter(n:Nat)(args:List af):bf:=⟨bf.u3 .leaf 0 args,args.length+(n-args.length)⟩
def sf(P:Program)(R:bf)(H:ae):ResultVar->Option af
 | .tmp t=>A (R.get t)
 | .cell a t=>aI P H t (R.get a)
def jh(P:Program)(R:bf)(H:ae):List ResultVar->Option (List af)
 |[]=>A []
 |r::rs=>match sf P R H r,jh P R H rs with
  |some v,A ak=>A (v::ak)
  |_,_=>Z
def lA:List af->af
 |[v]=>v
 |ak=> .tuple ak
def jQ(P:Program)(aG:aq)(N:Nat):Nat->aq
 |0,_,_,_=>Z
 |n+1,f,args,H=>match aG f args H with
 |some r=>A r
 |none=>match P.funcs[f]? with
  |none=>Z
  |some fn=>match fn.body with
   |none=>Z
   |some c=>match dc (hB P (jQ P aG N n)) N c (bf.enter fn.ntmps args) H with
    |none=>Z
    |some (ex,R,H')=>match ex with
     | .exit _=>Z
     |_=>match jh P R H' fn.results.toList with
      |none=>Z
      |some ak=>A (lA ak,H')
section
variable {E:Env}{P:Program}{aG:aq}{call:aq}{jv:yx}{N:Nat}
theorem Io{ops:Array Oper}:∀{os:List Oper} {R bl:bf} {H H':ae},jy P call ops os R H=A (bl,H')->H.next<=H'.next
 |[],R,bl,H,H',h=>by
  grind[jy]
 |o::os,R,bl,H,H',h=>by
  simp only[jy]at h;split at h
  ·cases h
  ·rename_i k a;split at h
   ·cases h
   ·exact Nat.le_trans (EO a) (Io h)
def DD(jv:yx):Prop:=∀ops d R H bl H',jv ops d R H=A (bl,H')->H.next<=H'.next
def Py:DD (hB P call):=by
 intro ops d R H bl H' h;unfold hB at h;split at h
 ·exact Io h
 ·split at h
  ·cases h
  ·rename_i T a H1 aA;split at h
   ·split at h
    ·cases h
    ·simp only[bD,eF]at h;obtain⟨rfl,rfl⟩:=h;rw[(lE aA).2.1];exact(sm aA).le
   ·split at h
    ·cases h
    ·split at h
     ·cases h
     ·simp only[bD,eF]at h;obtain⟨rfl,rfl⟩:=h;rw[(lE aA).2.1];exact(sm aA).le
theorem zm{f:bf->ae->Option (gX×bf×ae)}(aC:∀R H ex bl H',f R H=A (ex,bl,H')->H.next<=H'.next):∀{n:Nat} {R:bf} {H:ae} {ex:gX} {bl:bf} {H':ae},
  iter f n R H=A (ex,bl,H')->H.next<=H'.next
 |0,_,_,_,_,_,h=>by cases h
 |n+1,R,H,ex,bl,H',h=>by
  simp only[iter]at h;split at h
  ·rename_i a H1 ah;exact Nat.le_trans (aC _ _ _ _ _ ah) (zm aC h)
  grind
theorem Le(j:DD jv):∀(c:Code) {R:bf} {H:ae} {ex:gX} {bl:bf} {H':ae},dc jv N c R H=A (ex,bl,H')->H.next<=H'.next:=by
 intro c
 induction c with
 |skip=>grind[dc]
 |region id ops d=>
  intro R H ex bl H' h;simp only[dc]at h;split at h
  ·rename_i k H1 ah;simp only[bD,eF]at h;obtain⟨_,_,rfl⟩:=h;exact j _ _ _ _ _ _ ah
  grind
 |seq a b g i=>
  grind[dc]
 |cond c a b g i=>
  intro R H ex bl H' h;simp only[dc]at h;split at h
  ·grind
  ·grind
  grind
 |block id b e=>
  grind[dc]
 |loop b e=>
  intro R H ex bl H' h;simp only[dc]at h;exact zm ad h
 |exit id=>grind[dc]
 |ret=>grind[dc]
 |label l=>grind[dc]
 |goto l=>intro R H ex bl H' h;cases h
 |scope b e=>intro R H ex bl H' h;cases h
 |rangeFunc f dk a b g i=>intro R H ex bl H' h;cases h
 |refuse y=>intro R H ex bl H' h;cases h
theorem RG(j:e1 E P call){ops:Array Oper}{Q:Exit->Act->World->Prop}:∀{os:List Oper} {R bl:bf} {H H':ae} {ρ:Env} {w:World} {a:Act},jy P call ops os R H=A (bl,H')->
  Rel ρ H w->jB E ρ H.next H'.next->eT ρ R a->(∀d b1 c,eT d bl b1->Step ρ H w d H' c->Q .normal b1 c)->wpList P ops Q os a w
 |[],R,bl,H,H',ρ,w,a,h,e,_,ar,i=>by
  simp only[jy,bD,eF]at h;obtain⟨rfl,rfl⟩:=h;exact i ρ a w ar (.refl e)
 |o::os,R,bl,H,H',ρ,w,a,h,e,aC,ar,i=>by
  simp only[jy]at h;split at h
  ·cases h
  ·rename_i k m;split at h
   ·cases h
   ·rename_i aa p;have r:=Io h;have ab:=EO m;have go:∀x c d,bA d k.val x->Step ρ H w d (k.heap H) c->wpList P ops Q os (a.put o.dst x) c:=λx c d aE g=>
     RG j h g.rel (aC.after g) ((ar.mono g.le).put p aE) λW n V ah ai=>i W n V ah (g.trans ai)
    unfold wpList;rw[JQ ar o];rcases sJ m with⟨hw,f⟩|⟨hw,rfl⟩
    ·rw[hw];simp only[if_true];refine .inl ?_;cases k with
     |skip=>exact f.elim
     |pure v=>exact Pe f ar λx aE=>go x w ρ aE (.refl e)
     |read v=>exact Pw e f ar λx aE=>go x w ρ aE (.refl e)
     |new v b=>
      have q:ρ H.next=none:=aC.new _ ad (by grind[K.heap,ae.fR])
      refine On f ar q λx c d loc u G L M N O S T U y z B=>go x c d u ?_
      have s:gE ρ H w (H.next+1) (λ_=>Z) ρ H w:=gE.start e λl ah ai=>by
       grind
      have t:=s.early ad ad rfl G L M N O S T U y z B;exact(t.tT (b:=b) aX).done rfl
     |cR v Y=>
      exact K_ j e (aC.left r) f ar λx c d ah ai=>go x c d ah ai
    ·rw[hw];simp only[Bool.false_eq_true,if_false];exact go undef w ρ (.tuple [] [] .nil) (.refl e)
def Jf(E:Env)(P:Program)(jv:yx):Prop:=∀(id:Nat) (ops:Array Oper) (d:Bool) (R:bf) (H:ae) (bl:bf) (H':ae),jv ops d R H=A (bl,H')->(d=J->q0 ops (cJ ops) (order ops)=J)->∀(ρ:Env) (w:World) (a:Act) (Q:Exit->Act->World->Prop),Rel ρ H w->jB E ρ H.next H'.next->eT ρ R a->(∀c b1 b,eT c bl b1->Step ρ H w c H' b->Q .normal b1 b)->(Code.region id ops d).wp P Q a w
theorem Pz(hm:P.follows .mixedOrders=J)(e:e1 E P call):Jf E P (hB P call):=by
 intro id ops d R H bl H' h f ρ w a Q c aC ar b;unfold hB at h;split at h
 ·grind[wp_region_list,RG]
 ·split at h
  ·cases h
  ·rename_i T j H1 aA;split at h
   ·grind[aif,aih]
   ·split at h
    ·cases h
    ·rename_i g;split at h
     ·cases h
     ·rename_i i;simp only[bD,eF]at h;obtain⟨rfl,rfl⟩:=h;exact aj3 hm e ⟨aA,f rfl,g,i⟩ c aC ar b
theorem aj4{c:Code}{Q:Exit->Act->World->Prop}(j:Nat->Act->World->Prop)(round:∀n a w,j n a w->∃m,n=m+1/\c.wp P (Exit.then (j m) Q) a w){n:Nat}{a:Act}{w:World}(s:j n a w):(Code.loop c).wp P Q a w:=by
 intro b k cs;have key:∀n a w,j n a w->∃e b1 i,Q e b1 i/\Arrives P (lone (b.at a (.code c:: .inLoop c::k)) cs w) b k cs e b1 i:=by
  intro n
  induction n with
  |zero=>grind
  |succ n t=>
   intro a w h;obtain⟨m,hm,hw⟩:=round _ a w h;obtain rfl:m=n:=ad;obtain⟨e,f,g,aJ,d⟩:=hw b (.inLoop c::k) cs;cases e with
   |normal=>
    obtain⟨p,o,u,r,q⟩:=t f g aJ;exact⟨p,o,u,r,.of_steps (Steps.trans d (.one step_inLoop)) q⟩
   |exit id=>exact⟨_,f,g,aJ,.pass (x:= .inLoop c) rfl (λ_ _=> .inl aX) d⟩
   |goto l=>exact⟨_,f,g,aJ,.pass (x:= .inLoop c) rfl (λ_ _=> .inl aX) d⟩
   |ret=>exact⟨_,f,g,aJ,.pass (x:= .inLoop c) rfl (λ_ _=> .inl aX) d⟩
   |panic v=>exact⟨_,f,g,aJ,.pass (x:= .inLoop c) rfl (λ_ _=> .inl aX) d⟩
   |outgrown=>exact⟨_,f,g,aJ,.pass (x:= .inLoop c) rfl (λ_ _=> .inl aX) d⟩
 obtain⟨e,b1,i,aJ,d⟩:=key _ a w s;exact⟨e,b1,i,aJ,.of_steps (.one step_loop) d⟩
def Dw(E:Env)(P:Program)(c:Code)(f:bf->ae->Option (gX×bf×ae)):Prop:=∀(R:bf) (H:ae) (ex:gX) (bl:bf) (H':ae),f R H=A (ex,bl,H')->∀(ρ:Env) (w:World) (a:Act) (Q:Exit->Act->World->Prop),Rel ρ H w->jB E ρ H.next H'.next->eT ρ R a->(∀d b1 b,eT d bl b1->Step ρ H w d H' b->Q ex.Es b1 b)->c.wp P Q a w
theorem ZU{c:Code}{f:bf->ae->Option (gX×bf×ae)}(aC:Dw E P c f)(p:∀R H ex bl H',f R H=A (ex,bl,H')->H.next<=H'.next)(n:Nat):Dw E P (.loop c) (iter f n):=by
 intro R H ex bl H' h ρ w a Q v o ar u;refine aj4 (n:=n) (λn e g=>∃i H1 d,iter f n i H1=A (ex,bl,H')/\Step ρ H w d H1 g/\eT d i e) ?_ ⟨R,H,ρ,h,.refl v,ar⟩;rintro n e g ⟨i,H1,d,ah,b,q⟩;cases n with
 |zero=>cases ah
 |succ n=>
  refine⟨n,rfl,?_⟩;have hle:=zm p ah;simp only[iter]at ah;split at ah
  ·rename_i t s ai;have x:=zm p ah;refine aC _ _ _ _ _ ai d g e _ b.rel (jB.left (jB.after o b) x) q λl m r j k=> ?_
   exact⟨t,s,l,ah,b.trans k,j⟩
  ·rename_i y;refine aC _ _ _ _ _ ah d g e _ b.rel (jB.after o b) q λl m r j k=> ?_
   have:=u l m r j (b.trans k);cases ex with
   |normal=>grind
   |exit id=>exact this
   |ret=>exact this
theorem Lg(t:DD jv)(M:Jf E P jv):∀(c:Code),mK c=J->Dw E P c (dc jv N c):=by
 intro c
 induction c with
 |skip=>
  intro _ R H ex bl H' h ρ w a Q e aC ar g;simp only[dc,bD,eF]at h;obtain⟨rfl,rfl,rfl⟩:=h;exact wp_skip (g ρ a w ar (.refl e))
 |region id ops d=>
  intro i R H ex bl H' h ρ w a Q e aC ar g;simp only[dc]at h;split at h
  ·rename_i s H1 ah;simp only[bD,eF]at h;obtain⟨rfl,rfl,rfl⟩:=h;exact M id ops d R H _ _ ah (λG=>by subst G;exact i) ρ w a Q e aC ar g
  grind
 |seq x y q r=>
  intro i R H ex bl H' h ρ w a Q e aC ar g;simp only[mK,Bool.and_eq_true]at i;simp only[dc]at h;refine wp_seq ?_;split at h
  ·rename_i s H1 ah;have hle:=Le t y h;refine q i.1 _ _ _ _ _ ah ρ w a _ e (aC.left hle) ar λo k n m j=> ?_
   exact r i.2 _ _ _ _ _ h o n k Q j.rel (aC.after j) m λT u S v B=>g T u S v (j.trans B)
  ·rename_i L;refine q i.1 _ _ _ _ _ h ρ w a _ e aC ar λo k n m j=> ?_
   have:=g o k n m j;cases ex with
   |normal=>grind
   |exit id=>exact this
   |ret=>exact this
 |cond c x y q r=>
  intro i R H ex bl H' h ρ w a Q e aC ar g;simp only[mK,Bool.and_eq_true]at i;simp only[dc]at h;split at h
  ·rename_i aA;have ah:=eu ar aA;refine wp_cond_true (by generalize a.eval c=z at ah;cases ah;rfl) ?_;exact q i.1 _ _ _ _ _ h ρ w a Q e aC ar g
  ·rename_i aA;have ah:=eu ar aA;refine wp_cond_false (by generalize a.eval c=z at ah;cases ah;rfl) ?_;exact r i.2 _ _ _ _ _ h ρ w a Q e aC ar g
  grind
 |block id b p=>
  intro i R H ex bl H' h ρ w a Q e aC ar g;simp only[dc]at h;refine wp_block ?_;split at h
  ·rename_i O s H1 ah;split at h
   ·rename_i K;simp only[bD,eF]at h;obtain⟨rfl,rfl,rfl⟩:=h;refine p i _ _ _ _ _ ah ρ w a _ e aC ar λo k n m j=> ?_
    grind[gX.Es,Exit.inBlock]
   ·rename_i K;simp only[bD,eF]at h;obtain⟨rfl,rfl,rfl⟩:=h;refine p i _ _ _ _ _ ah ρ w a _ e aC ar λo k n m j=> ?_
    grind[gX.Es,Exit.inBlock]
  ·rename_i L;refine p i _ _ _ _ _ h ρ w a _ e aC ar λo k n m j=> ?_
   have:=g o k n m j;cases ex with
   |normal=>exact this
   |exit O=>grind
   |ret=>exact this
 |loop b p=>
  intro i R H ex bl H' h ρ w a Q e aC ar g;simp only[dc]at h;exact ZU (p i) (λ_ _ _ _ _ h=>Le t b h) N R H ex bl H' h ρ w a Q e aC ar g
 |exit id=>
  intro _ R H ex bl H' h ρ w a Q e aC ar g;simp only[dc,bD,eF]at h;obtain⟨rfl,rfl,rfl⟩:=h;exact wp_exit (g ρ a w ar (.refl e))
 |ret=>
  intro _ R H ex bl H' h ρ w a Q e aC ar g;simp only[dc,bD,eF]at h;obtain⟨rfl,rfl,rfl⟩:=h;exact wp_ret (g ρ a w ar (.refl e))
 |label l=>
  intro _ R H ex bl H' h ρ w a Q e aC ar g;simp only[dc,bD,eF]at h;obtain⟨rfl,rfl,rfl⟩:=h;exact wp_label (g ρ a w ar (.refl e))
 |goto l=>intro _ R H ex bl H' h;cases h
 |scope b p=>intro _ R H ex bl H' h;cases h
 |rangeFunc f dk a b q r=>intro _ R H ex bl H' h;cases h
 |refuse y=>intro _ R H ex bl H' h;cases h
theorem FC:∀(args:List af) (t:bK af) (i d:Nat),(bf.u3 t i args).get d=if i<=d/\d<i+args.length then args[d-i]? else t.get d
 |[],t,i,d=>by grind[bf.u3]
 |v::ak,t,i,d=>by
  simp only[bf.u3];rw[FC ak];grind[bK.uH,bK.sF]
theorem Lb{ρ:Env}{args:List af}{xs:List Value}(h:bU ρ args xs)(n:Nat):eT ρ (bf.enter n args) {tmps:=xs.toArray++Array.replicate (n-xs.toArray.size) undef,defers:=[]}:=by
 have aw:=h.length;refine⟨by grind[bf.enter],λd=> ?_,rfl⟩;unfold bf.get bf.enter;simp only
 rw[FC];rw[Array.getD_eq_getD_getElem?];by_cases b:d<args.length
 ·rw[if_pos ad];obtain⟨v,a⟩:∃v,args[d]? =A v:=⟨args[d],al⟩;obtain⟨x,aE,c⟩:=h.get d v a;grind
 ·rw[if_neg ad];have ah:((xs.toArray++Array.replicate (n-xs.toArray.size) undef)[d]?).getD undef=undef:=by
   grind
  rw[ah,bK.sD];exact .tuple [] [] .nil
def vj(tmps:Array Value):ResultVar->Sem Value
 | .tmp t=>pure (tmps.getD t undef)
 | .cell b t=>do loadVar t (<-asAddr (tmps.getD b undef))
theorem Ul{ρ:Env}{H:ae}{w:World}{R:bf}{a:Act}(g:Rel ρ H w)(ar:eT ρ R a){r:ResultVar}{v:af}(h:sf P R H r=A v):
  ∃x,(vj a.tmps r).run P w= .ok x w/\bA ρ v x:=by
 cases r with
 |tmp t=>
  simp only[sf,bD]at h;subst h;exact⟨_,rfl,ar.get t⟩
 |cell b t=>
  simp only[sf]at h;obtain⟨x,e,f⟩:=DO g h (ar.get b);refine⟨x,?_,f⟩;have ai:=ar.get b;simp only[vj];generalize a.tmps.getD b undef=z at ai e ⊢;have d:∃l i c,R.get b= .ptr l i c:=by
   generalize R.get b=u at h;unfold aI at h;grind
  obtain⟨l,i,c,d⟩:=d;rw[d]at ai;cases ai;grind[Instr.loadAt,Instr.sureAddr,asAddr]
theorem JF{ρ:Env}{H:ae}{w:World}{R:bf}{a:Act}(b:Rel ρ H w)(ar:eT ρ R a):∀{rs:List ResultVar} {ak:List af},jh P R H rs=A ak->
  ∃xs:List Value,(rs.mapM (vj a.tmps)).run P w= .ok xs w/\bU ρ ak xs
 |[],ak,h=>by simp only[jh,bD]at h;subst h;exact⟨[],by simp[Sem.run_pure],.nil⟩
 |r::rs,ak,h=>by
  simp only[jh]at h;split at h
  ·rename_i v j e f;simp only[bD]at h;subst h;obtain⟨x,g,c⟩:=Ul b ar e;obtain⟨xs,i,d⟩:=JF b ar f;refine⟨x::xs,?_,.cons _ _ _ _ c d⟩;rw[List.mapM_cons];grind[Sem.run_bind,Result.andThen_ok,Sem.run_pure]
  grind
theorem ac_(fn:Func)(tmps:Array Value):results fn tmps=(do
  let ak<-fn.results.mapM (vj tmps)
  pure (if h:ak.size=1 then ak[0]else .tuple ak)):=by
 unfold results
 congr 1
theorem PD{ρ:Env}{H:ae}{w:World}{R:bf}{a:Act}(c:Rel ρ H w)(ar:eT ρ R a){fn:Func}{ak:List af}(h:jh P R H fn.results.toList=A ak):
  ∃x,(results fn a.tmps).run P w= .ok x w/\bA ρ (lA ak) x:=by
 obtain⟨xs,d,b⟩:=JF c ar h;have hm:(fn.results.mapM (vj a.tmps)).run P w= .ok xs.toArray w:=by
  grind[Array.mapM_eq_mapM_toList,Sem.run_map,Result.andThen_ok]
 refine⟨if h:xs.toArray.size=1 then xs.toArray[0]else .tuple xs.toArray,?_,?_⟩
 ·grind[ac_,Sem.run_bind,Result.andThen_ok,Sem.run_pure]
 ·cases b with
  |nil=>exact .tuple [] [] .nil
  |cons v x f j ah ai=>
   cases ai with
   |nil=>exact ah
   |cons e i g k ax aM=>
    simp only[lA];rw[dif_neg aX];exact .tuple _ _ (.cons _ _ _ _ ah (.cons _ _ _ _ ax aM))
structure kn(P:Program):Prop where
 mixed:P.follows .mixedOrders=true
 names:∀fn∈P.funcs,(fn.name== "runtime.NumGoroutine")=false
 O5:∀(f:Nat) (fn:Func) (c:Code),P.funcs[f]? =some fn->fn.body=some c->mK c=true
theorem uE(a:kn P)(e:e1 E P aG):∀n,e1 E P (jQ P aG N n)
 |0=>λg args H v H' h=>by cases h
 |n+1=>by
  intro g args H v H' h ρ w xs f aC i aL next j
  simp only[jQ]at h;split at h
  ·rename_i r ar;cases h;exact e g args H v H' ar ρ w xs f aC i aL next j
  split at h
  ·cases h
  ·rename_i fn b;split at h
   ·cases h
   ·rename_i c aA;split at h
    ·cases h
    ·rename_i ex R H1 o;have s:=uE a e n;have m:=Lg (N:=N) Py (Pz a.mixed s) c (a.O5 _ _ _ b aA);have y:(fn.name== "runtime.NumGoroutine")=false:=a.names fn (Array.mem_of_getElem? b);have p:(callFunc g xs.toArray).run P w= .ok (.enter g xs.toArray) w:=by
      unfold callFunc;simp[b,aA];grind
     unfold oS;rw[p];simp only
     split at h
     ·cases h
     ·rename_i z;split at h
      ·cases h
      ·rename_i ak q;simp only[bD,eF]at h;obtain⟨rfl,rfl⟩:=h;refine calls_of_wp b aA (m _ _ _ _ _ o ρ w _ _ f aC (Lb i fn.ntmps) λu b1 t ah ai=> ?_);obtain⟨x,d,l⟩:=PD ai.rel ah q;have k:=j x t u l ai;cases ex with
       |normal=>exact⟨ah.none,x,d,k⟩
       |ret=>exact⟨ah.none,x,d,k⟩
       |exit id=>grind
end
section
variable {E:Env}{P:Program}{aG:aq}
def qj(P:Program)(aG:aq)(f:Nat)(args:List af)(H:ae)(r:af×ae):Prop:=∃k,∀N,k<=N->∀n,k<=n->jQ P aG N n f args H=A r
def qj.uniq{f:Nat}{args:List af}{H:ae}{r s:af×ae}(h:qj P aG f args H r)(cu:qj P aG f args H s):r=s:=by
 obtain⟨k,b⟩:=h;obtain⟨j,a⟩:=cu;have ah:=b (max k j) (Nat.le_max_left ..) (max k j) (Nat.le_max_left ..);rw[a (max k j) (Nat.le_max_right ..) (max k j) (Nat.le_max_right ..)]at ah;exact(Option.some.inj ah).symm
open Classical in
noncomputable def aK(P:Program)(aG:aq):aq:=λf args H=>if h:∃r,qj P aG f args H r then A h.choose else Z
theorem Lj{f:Nat}{args:List af}{H:ae}{r:af×ae}(h:aK P aG f args H=A r):qj P aG f args H r:=by
 unfold aK at h;split at h
 ·grind
 grind
def aaI{f:Nat}{args:List af}{H:ae}{r:af×ae}(h:qj P aG f args H r):aK P aG f args H=A r:=by
 unfold aK;have aE:∃r,qj P aG f args H r:=⟨r,h⟩;rw[dif_pos aE];exact congrArg A (aE.choose_spec.uniq h)
def Wt(b:kn P)(a:e1 E P aG):e1 E P (aK P aG):=by
 intro g args H v H' h;obtain⟨k,c⟩:=Lj h;exact uE b a k g args H v H' (c k (du _) k (du _))
theorem ah1{o:Op}{R:bf}{H:ae}{x:K}(h:hU P (aK P aG) o R H=A x):∃k,∀N,k<=N->∀n,k<=n->hU P (jQ P aG N n) o R H=A x:=by
 unfold hU at h;unfold hU;split at h
 ·exact⟨0,λ_ _ _ _=>h⟩
 ·exact⟨0,λ_ _ _ _=>h⟩
 ·exact⟨0,λ_ _ _ _=>h⟩
 ·exact⟨0,λ_ _ _ _=>h⟩
 ·exact⟨0,λ_ _ _ _=>h⟩
 ·split at h
  ·split at h
   ·rename_i g ak aA;cases a:aK P aG g ak H with
    |none=>rw[a]at h;cases h
    |some r=>
     obtain⟨k,c⟩:=Lj a;refine⟨k,λN b n aL=> ?_⟩;grind
   grind
  grind
def MT{ops:Array Oper}{o:Oper}{R:bf}{H:ae}{x:K}(h:gk P (aK P aG) ops o R H=A x):∃k,∀N,k<=N->∀n,k<=n->gk P (jQ P aG N n) ops o R H=A x:=by
 unfold gk at h;unfold gk;split at h
 ·obtain⟨k,a⟩:=ah1 h;exact⟨k,ad⟩
 ·exact⟨0,λ_ _ _ _=>h⟩
theorem RF{ops:Array Oper}:∀{os:List Oper} {R:bf} {H:ae} {x:bf×ae},jy P (aK P aG) ops os R H=A x->∃k,∀N,k<=N->∀n,k<=n->jy P (jQ P aG N n) ops os R H=A x
 |[],R,H,x,h=>⟨0,λ_ _ _ _=>h⟩
 |o::os,R,H,x,h=>by
  simp only[jy]at h;split at h
  ·cases h
  ·rename_i y a;split at h
   ·cases h
   ·obtain⟨k,d⟩:=MT a;obtain⟨j,c⟩:=RF h;refine⟨max k j,λN b n aL=> ?_⟩;grind[jy]
theorem Kh{ops:Array Oper}:∀{is:List Nat} {R:bf} {H:ae} {x:List bM×bf×ae},canRun P (aK P aG) ops is R H=A x->∃k,∀N,k<=N->∀n,k<=n->canRun P (jQ P aG N n) ops is R H=A x
 |[],R,H,x,h=>⟨0,λ_ _ _ _=>h⟩
 |i::is,R,H,x,h=>by
  simp only[canRun]at h;split at h
  ·cases h
  ·split at h
   ·cases h
   ·rename_i y a;split at h
    ·cases h
    ·split at h
     ·cases h
     ·rename_i T bo c5 aA;obtain⟨k,d⟩:=MT a;obtain⟨j,c⟩:=Kh aA;refine⟨max k j,λN b n aL=> ?_⟩;grind[canRun]
theorem ac3{ops:Array Oper}{d:Bool}{R:bf}{H:ae}{x:bf×ae}(h:hB P (aK P aG) ops d R H=A x):∃k,∀N,k<=N->∀n,k<=n->hB P (jQ P aG N n) ops d R H=A x:=by
 unfold hB at h;unfold hB;split at h
 ·obtain⟨k,a⟩:=RF h;exact⟨k,ad⟩
 ·split at h
  ·cases h
  ·rename_i T bl H' aA;obtain⟨k,a⟩:=Kh aA;refine⟨k,λN b n aL=> ?_⟩;grind
theorem MG{f:bf->ae->Option (gX×bf×ae)}:∀{n m:Nat} {R:bf} {H:ae} {x:gX×bf×ae},iter f n R H=A x->n<=m->iter f m R H=A x
 |0,_,_,_,_,h,_=>by cases h
 |n+1,0,_,_,_,_,hm=>ad
 |n+1,m+1,R,H,x,h,hm=>by
  simp only[iter]at h ⊢;split at h
  ·exact MG h ad
  omega
theorem MF{f:bf->ae->Option (gX×bf×ae)}{g:Nat->Nat->bf->ae->Option (gX×bf×ae)}(aC:∀R H x,f R H=A x->∃k,∀N,k<=N->∀n,k<=n->g N n R H=A x):
  ∀{M:Nat} {R:bf} {H:ae} {x:gX×bf×ae},iter f M R H=A x->∃k,∀N,k<=N->∀n,k<=n->iter (g N n) M R H=A x
 |0,_,_,_,h=>by cases h
 |M+1,R,H,x,h=>by
  simp only[iter]at h;split at h
  ·rename_i bl H' he;obtain⟨k,b⟩:=aC _ _ _ he;obtain⟨j,c⟩:=MF aC h;refine⟨max k j,λN a n aL=> ?_⟩;grind[iter]
  ·obtain⟨k,b⟩:=aC _ _ _ h;refine⟨k,λN a n aL=> ?_⟩;simp only[iter,b N a n aL];split
   ·grind
   ·rfl
theorem Wp{M:Nat}:∀(c:Code) {R:bf} {H:ae} {x:gX×bf×ae},dc (hB P (aK P aG)) M c R H=A x->∃k,∀N,k<=N->∀n,k<=n->dc (hB P (jQ P aG N n)) N c R H=A x:=by
 intro c
 induction c with
 |skip=>intro R H x h;exact⟨0,λ_ _ _ _=>h⟩
 |region id ops d=>
  intro R H x h;simp only[dc]at h;split at h
  ·rename_i q H1 ah;obtain⟨k,i⟩:=ac3 ah;refine⟨k,λN e n aL=> ?_⟩;grind[dc]
  grind
 |seq a b m p=>
  intro R H x h;simp only[dc]at h;split at h
  ·rename_i q H1 ah;obtain⟨k,i⟩:=m ah;obtain⟨j,r⟩:=p h;refine⟨max k j,λN e n aL=> ?_⟩;grind[dc]
  ·rename_i s;obtain⟨k,i⟩:=m h;refine⟨k,λN e n aL=> ?_⟩;simp only[dc,i N e n aL];split
   ·grind
   ·rfl
 |cond c a b m p=>
  intro R H x h;simp only[dc]at h;split at h
  ·rename_i aA;obtain⟨k,i⟩:=m h;refine⟨k,λN e n aL=> ?_⟩;grind[dc]
  ·obtain⟨k,i⟩:=p h;refine⟨k,λN e n aL=> ?_⟩;grind[dc]
  grind
 |block id b o=>
  intro R H x h;simp only[dc]at h;split at h
  ·rename_i t q H1 ah;obtain⟨k,i⟩:=o ah;refine⟨k,λN e n aL=> ?_⟩;grind[dc]
  ·obtain⟨k,i⟩:=o h;refine⟨k,λN e n aL=> ?_⟩;simp only[dc,i N e n aL];split
   ·grind
   ·rfl
 |loop b o=>
  intro R H x h;obtain⟨k,i⟩:=MF (g:=λN n=>dc (hB P (jQ P aG N n)) N b) ad h;refine⟨max k M,λN e n aL=> ?_⟩;grind[dc,MG]
 |exit id=>intro R H x h;exact⟨0,λ_ _ _ _=>h⟩
 |ret=>intro R H x h;exact⟨0,λ_ _ _ _=>h⟩
 |label l=>intro R H x h;exact⟨0,λ_ _ _ _=>h⟩
 |goto l=>intro R H x h;cases h
 |scope b o=>intro R H x h;cases h
 |rangeFunc f dk a b m p=>intro R H x h;cases h
 |refuse y=>intro R H x h;cases h
theorem Li{f:Nat}{args:List af}{H H':ae}{fn:Func}{c:Code}{M:Nat}{ex:gX}{R:bf}{ak:List af}(b:aG f args H=Z)(aC:P.funcs[f]? =A fn)(d:fn.body=A c)
  (h:dc (hB P (aK P aG)) M c (bf.enter fn.ntmps args) H=A (ex,R,H')) (hex:∀id,ex≠ .exit id) (ar:jh P R H' fn.results.toList=A ak):aK P aG f args H=A (lA ak,H'):=by
 obtain⟨k,e⟩:=Wp c h;refine aaI ⟨k+1,λN a n aL=> ?_⟩;cases n with
 |zero=>omega
 |succ n=>
  grind[jQ]
end
abbrev O:=Option (af×ae)
abbrev bo:=Nat->af
def dG(R:bo)(dst:Option Nat)(v:af):bo:=match dst with
 |none=>R
 |some d=>λe=>bif Nat.beq e d then v else R e
def bm(R:bo):Operand->Option af
 | .tmp t=>A (R t)
 | .const v=>u4 v
 | .global _=>Z
 | .func f=>A (.func (.func f) [] [])
def fl(R:bo):List Operand->Option (List af)
 |[]=>A []
 |x::xs=>(bm R x).bind λv=>(fl R xs).bind λak=>A (v::ak)
def iW(R:bo):List (Nat×Operand)->Option (List (Nat×af))
 |[]=>A []
 |(i,x)::xs=>(bm R x).bind λv=>(iW R xs).bind λak=>A ((i,v)::ak)
def jR(R:bo):Option Operand->Option (Option af)
 |none=>A Z
 |some x=>(bm R x).bind λv=>A (A v)
def dt(c:af)(a b:Option af):Option af:=match c with
 | .bool t=>bif t then a else b
 |_=>Z
def o5(P:Program)(t:TypeId)(c:Bool)(a b:af):Bool:=
 match a,b with
 | .nilIface,.nilIface=>c
 | .agg _,.agg _=> !P.eqGuardType P.depth t
 |_,_=>J
def bx(P:Program)(op:BinOp)(t:TypeId)(c:Bool)(x y:af):Option af:=
 match x,y with
 | .int k a,.int d b=>
  (match op with
  | .shl=>sG .shl k a b
  | .shr=>sG .shr k a b
  |op=>if k=d then lL op k a b else Z)
 | .str a,.str b=>De op a b
 |x,y=>
  (match op with
  | .eql=>if o5 P t c x y then(jg P 10000 t x y).map .bool else Z
  | .neq=>if o5 P t c x y then(jg P 10000 t x y).map λb=> .bool (!b)else Z
  |_=>Z)
theorem Wl(P:Program)(t:TypeId)(x y:Operand)(u v:af):o5 P t (isConst x||isConst y) u v=qE P t x y u v:=by
 unfold o5 qE;grind
def X3(P:Program)(op:BinOp)(t:TypeId)(x y:Operand)(u v:af):bx P op t (isConst x||isConst y) u v=ug P op t x y u v:=by
 unfold bx ug;grind[Wl]
def hx(P:Program)(o:Op)(R:bo):Option af:=
 match o with
 | .move x=>bm R x
 | .assign x=>bm R x
 | .pick c a b=>(bm R c).bind λu=>dt u (bm R a) (bm R b)
 | .build t dk=>(iW R dk.toList).bind (ei P t)
 | .nilCheck x=>(bm R x).bind eB
 | .binOp op t x y _=>(bm R x).bind λu=>(bm R y).bind λv=>bx P op t (isConst x||isConst y) u v
 | .unOp op _ x=>(bm R x).bind (jL op)
 | .convert s d x=>(bm R x).bind (r_ P s d)
 | .makeInterface t x=>(bm R x).bind (nW P t)
 | .makeFunc fn f c=>(fl R f.toList).bind λfs=>(fl R c.toList).bind λcs=>A (.func fn fs cs)
 | .slice t x gl aP e=>(bm R x).bind λv=>(jR R gl).bind λl=>(jR R aP).bind λh=>(jR R e).bind λm=>gu P t v l h m
 | .fieldAddr t x f=>(bm R x).bind λv=>bO P t v f
 | .field t x f=>(bm R x).bind λv=>oT P t v f
 | .indexAddr t x i=>(bm R x).bind λu=>(bm R i).bind λv=>ct P t u v
 | .index t x i=>(bm R x).bind λu=>(bm R i).bind λv=>qm P t u v
 | .extract x i=>(bm R x).bind λv=>iS v i
 | .typeAssert x _ t ok=>(bm R x).bind (r8 P t ok)
 | .call c=>match c.callee with
  | .builtin b=>(fl R c.args.toList).bind (bE P .empty b c.argTypes.toList)
  |_=>Z
 |_=>Z
def hy(P:Program)(o:Op)(R:bo)(H:ae):Option af:=
 match o with
 | .load t x=>(bm R x).bind (aI P H t)
 | .lookup t x k ok=>(bm R x).bind λu=>(bm R k).bind λv=>l9 P H t u v ok
 | .convert s d x=>(bm R x).bind (ui P H s d)
 | .call c=>match c.callee with
  | .builtin b=>(fl R c.args.toList).bind (bE P H b c.argTypes.toList)
  |_=>Z
 |_=>Z
def fj(l:Nat)(v:af):Option (af×bz):=bif v.cells.all af.one then A (.ptr l 0 0,.row I v.cells.length [v.cells])else Z
def mf(ot:Option TypeId)(l:Nat)(v:af):Option (af×bz):=bif v.cells.all af.one then A (.ptr l 0 0,eQ ot v.cells.length [v.cells])else Z
def gB(P:Program)(l:Nat)(t:TypeId)(len:Nat)(parts:List (Nat×af)):Option (af×bz):=
 match P.underlying t with
 |some (.slice e)=>
  (match cE P e,fX P e with
  |some a,A z=>
   bif decide (len*a<=16777216/\z.cells.length=a/\z.cells.all af.one=J)then
    (ma a (List.replicate len z.cells) parts).bind λels=>A (.az l 0 len a (A len),.row I a els)
   else Z
  |_,_=>Z)
 |_=>Z
def iz(P:Program)(o:Op)(R:bo)(l:Nat):Option (af×bz):=
 match o with
 | .alloc t=>(fX P t).bind (mf (k9 P t) l)
 | .box t x=>(bm R x).bind (mf (k9 P t) l)
 | .buildSlice t n dk=>(iW R dk.toList).bind (gB P l t n)
 | .makeMap _ Z=>A (.map l,.map [])
 | .makeSlice t x c=>(bm R x).bind λu=>(bm R c).bind λv=>gS (hL P ⟨.leaf,l⟩ t u v) l
 |_=>Z
def k2(P:Program)(o:Op)(R:bo)(H:ae):Option (af×ae):=
 match o with
 | .store t x y=>(bm R x).bind λu=>(bm R y).bind λv=>(cr P H t u v).bind λH'=>A (.tuple [],H')
 | .mapUpdate t m k x=>(bm R m).bind λu=>(bm R k).bind λv=>(bm R x).bind λz=>(jI P H t u v z).bind λH'=>A (.tuple [],H')
 | .insert t m k x=>(bm R m).bind λu=>(bm R k).bind λv=>(bm R x).bind λz=>(jI P H t u v z).bind λH'=>A (.tuple [],H')
 | .call c=>match c.callee,c.args.toList with
  | .builtin .append,[s,x]=>(bm R s).bind λu=>(bm R x).bind λv=>eA P H c.argTypes.toList u v
  | .builtin .clear,[x]=>(bm R x).bind λu=>(yD P H c.argTypes.toList u).bind λH'=>A (.tuple [],H')
  |_,_=>Z
 |_=>Z
def oY(f:af)(ak:List af):Option (Nat×List af):=match f with
 | .func (.func g) first captured=>A (g,first++ak++captured)
 |_=>Z
def jr(P:Program)(H:ae)(r:af)(name:String)(ak:List af):Option (Nat×List af):=(nd P H r name).bind λp=>A (p.1,p.2::ak)
def qG(P:Program)(H:ae)(R:bo)(c:Call):Option (Nat×List af):=
 match c.callee with
 | .value f=>(bm R f).bind λu=>(fl R c.args.toList).bind λak=>oY u ak
 | .invoke r name=>(bm R r).bind λu=>(fl R c.args.toList).bind λak=>jr P H u name ak
 |_=>Z
def iM(a b:Option af)(k:K->O):O:=match a with
 |some v=>k (.pure v)
 |none=>b.bind λv=>k (.read v)
def jA(r:Option (af×bz))(k:K->O):O:=match r with
 |some (v,b)=>k (.new v b)
 |none=>Z
def eb(H:ae)(r:O)(k:K->O):O:=match r with
 |some (v,H')=>bif decide (H.next<=H'.next)then k (.cR v H')else Z
 |none=>Z
def dA(P:Program)(call:aq)(o:Op)(R:bo)(H:ae)(k:K->O):O:=
 match cls o with
 | .pure=>(hx P o R).bind λv=>k (.pure v)
 | .read=>(hy P o R H).bind λv=>k (.read v)
 | .both=>iM (hx P o R) (hy P o R H) k
 | .new=>jA (iz P o R H.next) k
 | .write=>eb H (k2 P o R H) k
 | .call=>match o with
  | .call c=>(qG P H R c).bind λp=>eb H (call p.1 p.2 H) k
  |_=>Z
def ca(b:af)(want:Bool)(m:(K->O)->O)(k:K->O):O:=match b with
 | .bool t=>bif t==want then m k else k .skip
 |_=>k .skip
def mj(P:Program)(call:aq)(ops:Array Oper)(o:Oper)(R:bo)(H:ae)(k:K->O):O:=
 match o.guard with
 |none=>dA P call o.op R H k
 |some (j,want)=>match ops[j]? with
  |some q=>(match q.dst with
   |some d=>ca (R d) want (dA P call o.op R H) k
   |none=>k .skip)
  |none=>k .skip
def ke(P:Program)(call:aq)(ops:Array Oper):List Oper->bo->ae->(bo->ae->O)->O
 |[],R,H,k=>k R H
 |o::os,R,H,k=>mj P call ops o R H λx=>ke P call ops os (dG R o.dst x.val) (x.heap H) k
structure fr where
 i:Nat
 k:K
 rd:ae->Option af
def hv(ms:List Nat):List fr->List Nat->Bool
 |[],_=>J
 |t::ts,ids=>match t.k with
  | .cR _ _=>ids.all (λj=>cz ms j t.i)&&hv ms ts (t.i::ids)
  | .new _ _=>hv ms ts (t.i::ids)
  |_=>hv ms ts ids
def bF(r:Option af)(v:af):Bool:=match r with
 |some u=>af.beq u v
 |none=>I
def iq(ms:List Nat)(rd:ae->Bool)(i:Nat):List fr->ae->Bool
 |[],H=>rd H
 |t::ts,H=>bif t.k.fF then(cz ms t.i i||rd H)&&(cz ms i t.i||iq ms rd i ts (t.k.heap H))else iq ms rd i ts H
def jN(ms:List Nat)(i:Nat):List fr->Bool->Bool
 |[],_=>I
 |t::ts,s=>match t.k with
  | .new _ _=>(s&&cz ms t.i i&&ts.all λu=>kB u.k)||jN ms i ts (s|| !cz ms t.i i)
  | .cR _ _=>jN ms i ts (s|| !cz ms t.i i)
  |_=>jN ms i ts s
def iZ(ms:List Nat)(rd:ae->Bool)(i:Nat):List fr->ae->Bool->Bool
 |[],_,_=>I
 |t::ts,H,s=>match t.k with
  | .new _ b=>bif s&&cz ms t.i i&&ts.all (λu=>kB u.k)then rd (H.push b).only||iZ ms rd i ts (H.push b) (s|| !cz ms t.i i)else iZ ms rd i ts (H.push b) (s|| !cz ms t.i i)
  | .cR _ H'=>iZ ms rd i ts H' (s|| !cz ms t.i i)
  |_=>iZ ms rd i ts H s
def rE(ms:List Nat)(rd:ae->Bool)(i:Nat)(T:List fr)(H:ae):Bool:=bif jN ms i T I then iq ms rd i T H||iZ ms rd i T H I else iq ms rd i T H
def jb(ms:List Nat)(cN:List Nat)(T:List fr)(H:ae):List fr->Bool
 |[]=>J
 |t::ts=>(match t.k with
  | .read v=>cN.contains t.i||rE ms (λH=>bF (t.rd H) v) t.i T H
  |_=>J)&&jb ms cN T H ts
def jj(ms:List Nat)(cN:List Nat)(T:List fr)(H:ae):Bool:=hv ms T []&&jb ms cN T H T
def jM(P:Program)(call:aq)(ops:Array Oper):List Nat->bo->ae->(List fr->bo->ae->O)->O
 |[],R,H,k=>k [] R H
 |i::is,R,H,k=>match ops[i]? with
  |none=>Z
  |some o=>mj P call ops o R H λx=>jM P call ops is (dG R o.dst x.val) (x.heap H) λT bl H'=>k (⟨i,x,hy P o.op R⟩::T) bl H'
def hV(ops:Array Oper):List Nat:=(order ops).filter (kg ops (cJ ops) (order ops))
def quiet(ops:Array Oper):Bool:=ops.toList.all λo=> !qJ o.op
def Ds(ms:List Nat)(cN:List Nat)(T:List fr)(H:ae):List fr->Bool
 |[]=>J
 |t::ts=>(match t.k with
  | .read v=>cN.contains t.i||iq ms (λH=>bF (t.rd H) v) t.i T H
  |_=>J)&&Ds ms cN T H ts
def E5(u v:af):Bool:=match u,v with
 | .ptr l _ _,.ptr m _ _=> !Nat.beq l m
 |_,_=>I
def IC(ops:Array Oper)(a b:Nat)(R:bo):Bool:=match kf ops a,kf ops b with
 |some (_,c,_),A (_,aU,_)=>(match bm R c,bm R aU with
  |some u,A v=>E5 u v
  |_,_=>I)
 |_,_=>I
def aie(ops:Array Oper)(a b:Nat)(R:bf):IC ops a b R.get=ym ops a b R:=by
 have c:∀x,bm R.get x=cp R x:=λx=>by cases x<;>rfl
 unfold IC ym;cases kf ops a with
 |none=>rfl
 |some d=>
  obtain⟨ta,f,g⟩:=d;cases kf ops b with
  |none=>rfl
  |some e=>
   obtain⟨tb,aU,h⟩:=e;simp only[c,zB];cases cp R f with
   |none=>rfl
   |some u=>
    cases cp R aU with
    |none=>grind
    |some v=>cases u<;>cases v<;>rfl
def mM(P:Program)(call:aq)(ops:Array Oper)(draw:Bool)(R:bo)(H:ae)(k:bo->ae->O):O:=
 match draw with
 |false=>ke P call ops ops.toList R H k
 |true=>match qa ops (order ops)with
  |some (a,b)=>jM P call ops (order ops) R H λT bl H'=>bif IC ops a b bl&&Ds (cJ ops) (hV ops) T H T then k bl H' else Z
  |none=>bif quiet ops then jM P call ops (order ops) R H λ_ bl H'=>k bl H' else
   jM P call ops (order ops) R H λT bl H'=>bif jj (cJ ops) (hV ops) T H then k bl H' else Z
def ep(c:Option af)(a b:O):O:=match c with
 |some (.bool t)=>bif t then a else b
 |_=>Z
abbrev bQ:=bo->ae->O
def look(i:Nat):List (Nat×bQ)->bQ
 |[],_,_=>Z
 |(j,k)::a,R,H=>bif Nat.beq i j then k R H else look i a R H
def qO(b:bQ->bQ):Nat->bQ
 |0,_,_=>Z
 |n+1,R,H=>b (λR H=>qO b n R H) R H
def bS(P:Program)(call:aq)(N:Nat):Code->bQ->List (Nat×bQ)->bQ->bQ
 | .skip,aV,_,_,R,H=>aV R H
 | .region _ ops d,aV,_,_,R,H=>mM P call ops d R H aV
 | .seq a b,aV,f,e,R,H=>bS P call N a (λR H=>bS P call N b aV f e R H) f e R H
 | .cond c a b,aV,f,e,R,H=>ep (bm R c) (bS P call N a aV f e R H) (bS P call N b aV f e R H)
 | .block id b,aV,f,e,R,H=>bS P call N b aV ((id,aV)::f) e R H
 | .loop b,_,f,e,R,H=>qO (λaV R H=>bS P call N b aV f e R H) N R H
 | .exit id,_,f,_,R,H=>look id f R H
 | .ret,_,_,e,R,H=>e R H
 | .label _,aV,_,_,R,H=>aV R H
 |_,_,_,_,_,_=>Z
def lP(P:Program)(H:ae)(R:bo):List ResultVar->(List af->O)->O
 |[],k=>k []
 | .tmp t::rs,k=>lP P H R rs λak=>k (R t::ak)
 | .cell a t::rs,k=>(aI P H t (R a)).bind λv=>lP P H R rs λak=>k (v::ak)
def lf(P:Program)(rs:List ResultVar):bQ:=λR H=>lP P H R rs λak=>A (lA ak,H)
def cY:List af->bo
 |[],_=> .tuple []
 |v::_,0=>v
 |_::ak,n+1=>cY ak n
section
variable {P:Program}{aG:aq}{call:aq}{R bl:bf}{H:ae}
theorem nh(x:Operand):bm R.get x=cp R x:=by cases x<;>rfl
def uF:∀xs:List Operand,fl R.get xs=iU R xs
 |[]=>rfl
 |x::xs=>by
  simp only[fl,iU,nh,uF xs];cases cp R x<;>cases iU R xs<;>rfl
def Ez:∀xs:List (Nat×Operand),iW R.get xs=kW R xs
 |[]=>rfl
 |(i,x)::xs=>by
  simp only[iW,kW,nh,Ez xs];cases cp R x<;>cases kW R xs<;>rfl
theorem YH(x:Option Operand):jR R.get x=mc R x:=by
 cases x with
 |none=>rfl
 |some x=>grind[jR,mc,nh]
theorem LQ(o:Op):hx P o R.get=jJ P o R:=by
 cases o<;>simp only[hx,jJ,nh,uF,Ez,YH,X3]
 ·rename_i c a b;cases aA:cp R c with
  |none=>rfl
  |some v=>cases v<;>first|rfl|(rename_i t;cases t<;>rfl)
 grind
theorem za(o:Op):hy P o R.get H=iw P o R H:=by
 cases o<;>simp only[hy,iw,nh,uF];grind
theorem Fw(v:af)(l:Nat)(b:bz)(a:b.iA=J):gS (A (v,ae.push ⟨.leaf,l⟩ b)) l=A (v,b):=by
 grind[gS,ae.push,ae.a2]
theorem abE(ot:Option TypeId)(esz:Nat)(els:List (List af)):(eQ ot esz els).iA=true:=by cases ot<;>rfl
theorem Ka(ot:Option TypeId)(l:Nat)(v:af):mf ot l v=gS (r9 ot ⟨.leaf,l⟩ v) l:=by
 unfold mf r9;by_cases h:v.cells.all af.one=J
 ·grind[Fw,abE]
 ·rw[if_neg h];simp only[Bool.not_eq_true]at h;rw[h];rfl
theorem ag7(l:Nat)(t:TypeId)(n:Nat)(dk:List (Nat×af)):gB P l t n dk=gS (uh P ⟨.leaf,l⟩ t n dk) l:=by
 unfold gB uh;cases hu:P.underlying t with
 |none=>rfl
 |some d=>
  cases d<;>try rfl
  rename_i e;simp only
  cases b:cE P e with
  |none=>rfl
  |some a=>
  cases c:fX P e with
  |none=>rfl
  |some z=>
   simp only
   by_cases h:n*a<=16777216/\z.cells.length=a/\z.cells.all af.one=J
   ·rw[if_pos h,decide_eq_true h];simp only[g8];cases ma a (List.replicate n z.cells) dk with
    |none=>rfl
    |some els=>exact(Fw _ _ _ rfl).symm
   ·rw[if_neg h,decide_eq_false h];rfl
theorem Ys(o:Op)(l:Nat):iz P o R.get l=ly P o R l:=by
 unfold ly;cases o<;>simp only[iz,qn,nh,Ez]<;>try rfl
 ·rename_i t;unfold yC;cases fX P t with
  |none=>rfl
  |some v=>exact Ka _ l v
 ·rename_i t x;cases cp R x with
  |none=>rfl
  |some v=>exact Ka _ l v
 ·rename_i t n dk;cases kW R dk.toList with
  |none=>rfl
  |some v=>grind[ag7]
 ·rename_i t r;cases r with
  |none=>exact(Fw _ _ _ rfl).symm
  |some r=>rfl
 ·rename_i t x c;cases cp R x with
  |none=>rfl
  |some u=>cases cp R c<;>rfl
def map_bind{α β:Type}(x:Option α)(f:α->β):x.bind (λa=>A (f a))=x.map f:=by cases x<;>rfl
theorem YV(o:Op):k2 P o R.get H=me P o R H:=by
 cases o<;>simp only[k2,me,nh,map_bind];grind
theorem Yb(c:Call):qG P H R.get c=nU P H R c:=by
 unfold qG nU;cases aA:c.callee with
 |value f=>
  simp only[nh,uF];cases cp R f with
  |none=>rfl
  |some v=>
   cases a:iU R c.args.toList with
   |none=>
    grind
   |some ak=>
    simp only[Option.bind_some];unfold oY;grind
 |invoke r m=>
  simp only[nh,uF];cases cp R r with
  |none=>rfl
  |some v=>
   simp only[Option.bind_some];cases a:iU R c.args.toList with
   |none=>grind
   |some ak=>
    simp only[Option.bind_some,jr];cases nd P H v m<;>rfl
 |builtin b=>rfl
theorem Lz(o:Op)(k:K->O):dA P call o R.get H k=(hU P call o R H).bind k:=by
 unfold dA hU;cases a:cls o with
 |pure=>simp only[LQ];cases jJ P o R<;>rfl
 |read=>simp only[za];cases iw P o R H<;>rfl
 |both=>
  simp only[LQ,za];unfold iM;cases jJ P o R with
  |some v=>rfl
  |none=>cases iw P o R H<;>rfl
 |new=>
  simp only[Ys];unfold jA;cases ly P o R H.next<;>rfl
 |write=>
  simp only[YV];unfold eb;grind[kA]
 |call=>
  cases o<;>try rfl
  rename_i c;simp only[Yb];cases nU P H R c with
  |none=>rfl
  |some p=>
   obtain⟨g,ak⟩:=p;simp only[Option.bind_some];unfold eb;grind[kA]
theorem LA(ops:Array Oper)(o:Oper)(k:K->O):mj P call ops o R.get H k=(gk P call ops o R H).bind k:=by
 unfold mj gk j8;cases aS:o.guard with
 |none=>exact Lz o.op k
 |some p=>
  grind[ca,Lz]
theorem SN{dst:Option Nat}{v:af}(h:R.put dst v=A bl):dG R.get dst v=bl.get:=by
 funext e
 rw[bf.sE h];cases dst with
 |none=>simp[dG]
 |some d=>
  grind[dG,Nat.beq_eq]
def qy(n:Nat)(o:Oper):Bool:=match o.dst with
 |none=>J
 |some d=>decide (d<n)
theorem Pl{o:Oper}(h:qy R.size o=J)(v:af):∃bl,R.put o.dst v=A bl/\bl.size=R.size:=by
 grind[qy,bf.put]
theorem RE(ops:Array Oper)(k:bo->ae->O):∀(os:List Oper) (R:bf) (H:ae),os.all (qy R.size)=J->
  ke P call ops os R.get H k=(jy P call ops os R H).bind λp=>k p.1.get p.2
 |[],R,H,_=>rfl
 |o::os,R,H,h=>by
  simp only[List.all_cons,Bool.and_eq_true]at h;simp only[ke,jy,LA];cases a:gk P call ops o R H with
  |none=>rfl
  |some x=>
   obtain⟨bl,ah,ai⟩:=Pl h.1 x.val;simp only[Option.bind_some,ah,SN ah];exact RE ops k os bl _ al
def bM.c(P:Program)(t:bM):fr:=⟨t.i,t.k,hy P t.o.op t.R.get⟩
theorem K9(ms:List Nat):∀(T:List bM) (ids:List Nat),hv ms (T.map (bM.c P)) ids=kt ms T ids
 |[],_=>rfl
 |t::T,ids=>by
  simp only[List.map_cons,hv,kt,bM.c];cases t.k<;>simp only[K9 ms T]
theorem Dq(ms:List Nat)(rd:ae->Bool)(i:Nat):∀(T:List bM) (H:ae),iq ms rd i (T.map (bM.c P)) H=gW ms rd i T H
 |[],_=>rfl
 |t::T,H=>by
  simp only[List.map_cons,iq,gW,bM.c];cases t.k.fF
  ·simp only[oZ];exact Dq ms rd i T H
  ·simp only[g8,if_true];rw[Dq ms rd i T]
theorem Kj(ms:List Nat)(i:Nat):∀(T:List bM) (s:Bool),jN ms i (T.map (bM.c P)) s=qu ms i T s
 |[],_=>rfl
 |t::T,s=>by
  simp only[List.map_cons,jN,qu,bM.c];cases t.k<;>simp only[Kj ms i T,List.all_map]<;>rfl
theorem Oj(ms:List Nat)(rd:ae->Bool)(i:Nat):∀(T:List bM) (H:ae) (s:Bool),iZ ms rd i (T.map (bM.c P)) H s=mH ms rd i T H s
 |[],_,_=>rfl
 |t::T,H,s=>by
  simp only[List.map_cons,iZ,mH,bM.c];cases t.k<;>simp only[Oj ms rd i T,List.all_map]<;>rfl
theorem agq(ms:List Nat)(rd:ae->Bool)(i:Nat)(T:List bM)(H:ae):rE ms rd i (T.map (bM.c P)) H=rF ms rd i T H:=by
 grind[rE,rF,Kj,Oj,Dq]
theorem S1(ms:List Nat)(tl:List Nat)(cN:Nat->Bool)(T:List bM)(H:ae):∀(S:List bM),(∀t∈S,tl.contains t.i=cN t.i)->jb ms tl (T.map (bM.c P)) H (S.map (bM.c P))=m0 P ms cN T H S
 |[],_=>rfl
 |t::S,h=>by
  simp only[List.map_cons,jb,m0,S1 ms tl cN T H S λt ba=>h t al]
  congr 1
  simp only[bM.c,h t aX];cases t.k<;>try rfl
  simp only[agq]
  congr 2
  grind[bF,ld,za]
theorem S5(ms:List Nat)(tl:List Nat)(cN:Nat->Bool)(T:List bM)(H:ae):∀(S:List bM),(∀t∈S,tl.contains t.i=cN t.i)->Ds ms tl (T.map (bM.c P)) H (S.map (bM.c P))=rR P ms cN T H S
 |[],_=>rfl
 |t::S,h=>by
  simp only[List.map_cons,Ds,rR,S5 ms tl cN T H S λt ba=>h t al]
  congr 1
  simp only[bM.c,h t aX];cases t.k<;>try rfl
  simp only[Dq]
  congr 2
  grind[bF,ld,za]
theorem Pp(ms:List Nat):∀(T:List bM) (ids:List Nat),(∀t∈T,t.k.fF=I)->kt ms T ids=J
 |[],_,_=>rfl
 |t::T,ids,h=>by
  have ba:=h t aX;simp only[kt];have b:=Pp ms T ids λu hu=>h u al
  cases a:t.k<;>rw[a]at ba<;>first|exact b|(cases ba;done)
theorem Pq(ms:List Nat)(cN:Nat->Bool)(T:List bM)(H:ae):∀(S:List bM),(∀t∈S,cN t.i=J)->m0 P ms cN T H S=J
 |[],_=>rfl
 |t::S,h=>by
  simp only[m0,h t aX,Pq ms cN T H S λt ba=>h t al,Bool.true_or,Bool.and_true];grind
theorem uw(ops:Array Oper):∀(is:List Nat) (R:bf) (H:ae) (k:List fr->bo->ae->O),ops.toList.all (qy R.size)=J->
  jM P call ops is R.get H k=(canRun P call ops is R H).bind λp=>k (p.1.map (bM.c P)) p.2.1.get p.2.2
 |[],R,H,k,_=>rfl
 |i::is,R,H,k,h=>by
  simp only[jM,canRun];cases aZ:ops[i]? with
  |none=>rfl
  |some o=>
   simp only[LA];cases b:gk P call ops o R H with
   |none=>rfl
   |some x=>
    have hm:qy R.size o=true:=by
     grind
    obtain⟨bl,ah,ai⟩:=Pl hm x.val;simp only[Option.bind_some,ah,SN ah];rw[uw ops is bl _ _ al];cases canRun P call ops is bl (x.heap H)with
    |none=>rfl
    |some p=>obtain⟨T,a,H1⟩:=p;rfl
theorem acY(ops:Array Oper)(d:Bool)(k:bo->ae->O)(h:ops.toList.all (qy R.size)=J):mM P call ops d R.get H k=(hB P call ops d R H).bind λp=>k p.1.get p.2:=by
 unfold mM hB;cases d with
 |false=>grind[RE]
 |true=>
  simp only
  rw[uw ops _ R H _ h,uw ops _ R H _ h];cases aA:canRun P call ops (order ops) R H with
  |none=>
   grind[uw]
  |some p=>
   obtain⟨T,l,H1⟩:=p;have aP:=(lE aA).1;have n:∀t∈T,t.i∈order ops:=al;have j:∀t∈T,(hV ops).contains t.i=kg ops (cJ ops) (order ops) t.i:=(by grind[hV]);cases r:qa ops (order ops)with
   |some q=>
    obtain⟨a,b⟩:=q;refine(uw ops _ R H _ h).trans ?_;rw[aA];simp only[Option.bind_some,aie,S5 _ _ _ T H T j];grind
   |none=>
   simp only
   simp only[Option.bind_some];cases aJ:quiet ops with
   |true=>
    have g:∀o∈ops.toList,qJ o.op=false:=(by grind[quiet]);have dO:∀t∈T,t.k.fF=false:=λt ba=>by
     obtain⟨zA,B,e⟩:=List.append_of_mem ba;have c:=yV (P:=P) (call:=call) (by rw[<-e];omega);cases f:t.k.fF with
     |false=>rfl
     |true=>
      have:=MU c.2.2.1 f;rw[g t.o (by have:=Array.mem_of_getElem? c.1;simpa using this)]at this;cases this
    have m:∀t∈T,kg ops (cJ ops) (order ops) t.i=true:=(by grind[kg]);grind[Pp,Pq]
   |false=>
    grind[jj,K9,S1]
def gY(n:Nat):Code->Bool
 | .region _ ops _=>ops.toList.all (qy n)
 | .seq a b=>gY n a&&gY n b
 | .cond _ a b=>gY n a&&gY n b
 | .block _ b=>gY n b
 | .loop b=>gY n b
 |_=>J
def sy(r:Option (gX×bf×ae))(aV:bQ)(b:List (Nat×bQ))(a:bQ):O:=match r with
 |some (.normal,R,H)=>aV R.get H
 |some (.exit id,R,H)=>look id b R.get H
 |some (.ret,R,H)=>a R.get H
 |none=>Z
theorem RU{ops:Array Oper}:∀{os:List Oper} {R bl:bf} {H H':ae},jy P call ops os R H=A (bl,H')->bl.size=R.size
 |[],R,bl,H,H',h=>by
  grind[jy]
 |o::os,R,bl,H,H',h=>by
  simp only[jy]at h;split at h
  ·cases h
  ·split at h
   ·cases h
   ·rename_i a ah;rw[RU h,bf.size_put ah]
theorem RQ{ops:Array Oper}:∀{is:List Nat} {R bl:bf} {H H':ae} {T:List bM},canRun P call ops is R H=A (T,bl,H')->bl.size=R.size
 |[],R,bl,H,H',T,h=>by
  grind[canRun]
 |i::is,R,bl,H,H',T,h=>by
  simp only[canRun]at h;split at h
  ·cases h
  ·split at h
   ·cases h
   ·split at h
    ·cases h
    ·rename_i a ah;split at h
     ·cases h
     ·rename_i ai;simp only[bD,eF]at h;obtain⟨_,rfl,_⟩:=h;rw[RQ ai,bf.size_put ah]
theorem agJ{ops:Array Oper}{d:Bool}{R bl:bf}{H H':ae}(h:hB P call ops d R H=A (bl,H')):bl.size=R.size:=by
 unfold hB at h;grind[RU,RQ]
theorem RT{f:bf->ae->Option (gX×bf×ae)}(aC:∀R H ex bl H',f R H=A (ex,bl,H')->bl.size=R.size):
  ∀{n:Nat} {R:bf} {H:ae} {ex:gX} {bl:bf} {H':ae},iter f n R H=A (ex,bl,H')->bl.size=R.size
 |0,_,_,_,_,_,h=>by cases h
 |n+1,R,H,ex,bl,H',h=>by
  simp only[iter]at h;split at h
  ·rename_i a H1 ah;rw[RT aC h,aC _ _ _ _ _ ah]
  grind
theorem RR{N:Nat}:∀(c:Code) {R:bf} {H:ae} {ex:gX} {bl:bf} {H':ae},dc (hB P call) N c R H=A (ex,bl,H')->bl.size=R.size:=by
 intro c
 induction c with
 |skip=>grind[dc]
 |region id ops d=>
  grind[dc,agJ]
 |seq a b g i=>
  grind[dc]
 |cond c a b g i=>
  intro R H ex bl H' h;simp only[dc]at h;split at h
  ·grind
  ·grind
  grind
 |block id b e=>
  grind[dc]
 |loop b e=>
  grind[dc,RT]
 |exit id=>grind[dc]
 |ret=>grind[dc]
 |label l=>grind[dc]
 |goto l=>intro R H ex bl H' h;cases h
 |scope b e=>intro R H ex bl H' h;cases h
 |rangeFunc f dk a b g i=>intro R H ex bl H' h;cases h
 |refuse y=>intro R H ex bl H' h;cases h
theorem ME{f:bf->ae->Option (gX×bf×ae)}{b:bQ->bQ}{d:List (Nat×bQ)}{c:bQ}(m:Nat)(i:∀R H ex bl H',f R H=A (ex,bl,H')->bl.size=R.size)
  (a:∀(R:bf) (H:ae) (aV:bQ),R.size=m->b aV R.get H=sy (f R H) aV d c) (aV:bQ):∀(n:Nat) (R:bf) (H:ae),R.size=m->qO b n R.get H=sy (iter f n R H) aV d c
 |0,R,H,_=>rfl
 |n+1,R,H,g=>by
  simp only[qO,iter];rw[a R H _ g];cases h:f R H with
  |none=>rfl
  |some x=>
   obtain⟨ex,e,H1⟩:=x;cases ex with
   |normal=>exact ME m i a aV n e H1 al
   |exit id=>rfl
   |ret=>rfl
theorem KH{N:Nat}:∀(c:Code) (R:bf) (H:ae) (aV:bQ) (g:List (Nat×bQ)) (e:bQ),gY R.size c=J->bS P call N c aV g e R.get H=sy (dc (hB P call) N c R H) aV g e:=by
 intro c
 induction c with
 |skip=>intro R H aV g e _;rfl
 |region id ops d=>
  intro R H aV g e h;simp only[bS,dc];rw[acY ops d aV h];cases hB P call ops d R H<;>rfl
 |seq a b k m=>
  intro R H aV g e h;simp only[gY,Bool.and_eq_true]at h;simp only[bS,dc];rw[k R H _ g e h.1];cases he:dc (hB P call) N a R H with
  |none=>rfl
  |some x=>
   obtain⟨ex,i,H1⟩:=x;cases ex with
   |normal=>exact m i H1 aV g e (by grind[RR])
   |exit id=>rfl
   |ret=>rfl
 |cond c a b k m=>
  intro R H aV g e h;simp only[gY,Bool.and_eq_true]at h;simp only[bS,dc,nh];unfold ep;cases cp R c with
  |none=>rfl
  |some v=>
   cases v<;>try rfl
   grind
 |block id b j=>
  intro R H aV g e h;simp only[bS,dc];rw[j R H aV _ e h];cases he:dc (hB P call) N b R H with
  |none=>rfl
  |some x=>
   obtain⟨ex,i,H1⟩:=x;cases ex with
   |normal=>rfl
   |ret=>rfl
   |exit o=>
    grind[sy,look,Nat.beq_eq]
 |loop b j=>
  intro R H aV g e h;simp only[bS,dc];exact ME R.size (by grind[RR]) (λi H1 aV n=>j i H1 aV g e (by rw[n];exact h)) aV N R H rfl
 |exit id=>intro R H aV g e _;rfl
 |ret=>intro R H aV g e _;rfl
 |label l=>intro R H aV g e _;rfl
 |goto l=>intro R H aV g e _;rfl
 |scope b j=>intro R H aV g e _;rfl
 |rangeFunc f dk a b k m=>intro R H aV g e _;rfl
 |refuse y=>intro R H aV g e _;rfl
def Ah{R:bf}{H:ae}:∀(rs:List ResultVar) (k:List af->O),lP P H R.get rs k=(jh P R H rs).bind k
 |[],k=>rfl
 | .tmp t::rs,k=>by
  simp only[lP,jh,sf];rw[Ah rs];cases jh P R H rs<;>rfl
 | .cell a t::rs,k=>by
  simp only[lP,jh,sf];cases aI P H t (R.get a)with
  |none=>rfl
  |some v=>
   simp only[Option.bind_some];rw[Ah rs];cases jh P R H rs<;>rfl
theorem JH(n:Nat)(args:List af):(bf.enter n args).get=cY args:=by
 have h:∀(args:List af) (d:Nat),cY args d=(args[d]?).getD (.tuple []):=by
  intro args
  induction args with
  |nil=>intro d;cases d<;>rfl
  |cons v ak a=>
   intro d;cases d with
   |zero=>rfl
   |succ d=>grind[cY]
 grind[bf.get,bf.enter,FC,bK.sD]
theorem Ws{f:Nat}{args:List af}{H:ae}{fn:Func}{c:Code}{M:Nat}{r:af×ae}(b:aG f args H=Z)(aC:P.funcs[f]? =A fn)(e:fn.body=A c)(g:gY fn.ntmps c=J)(aL:Nat.ble args.length fn.ntmps=J)
  (h:bS P (aK P aG) M c (lf P fn.results.toList) [] (lf P fn.results.toList) (cY args) H=A r):aK P aG f args H=A r:=by
 have i:(bf.enter fn.ntmps args).size=fn.ntmps:=by have:=Nat.le_of_ble_eq_true aL;grind[bf.enter]
 rw[<-JH fn.ntmps,KH c _ _ _ _ _ al]at h;unfold sy at h;have fin:∀(R:bf) (H':ae),lf P fn.results.toList R.get H'=A r->∃ak,jh P R H' fn.results.toList=A ak/\r=(lA ak,H'):=by
  intro R H' a;unfold lf at a;rw[Ah]at a;cases d:jh P R H' fn.results.toList with
  |none=>grind
  |some ak=>grind
 split at h
 ·grind[Li]
 ·cases h
 ·grind[Li]
 grind
