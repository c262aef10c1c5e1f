/-
  Texts of one proof, laid together: Hv18 Hv17 Hv21 Hv22.
-/
import Derived.Test.YtmhhnnklfcbgfaaGreatMC
set_option linter.unusedVariables false
set_option linter.unusedSimpArgs false
set_option linter.defProp false
open Option renaming some→A,none→Z
open Bool renaming true→J,false→I
namespace Go.cv
def bJ.GN{α:Type}(x y:α):∀(p q:List nu) (t:bJ α),p≠q->bJ.fo x p (bJ.fo y q t)=bJ.fo y q (bJ.fo x p t)
 |[],[],_,h=>absurd rfl h
 |[],d::q,.leaf,_=>by cases d<;>simp[bJ.fo]
 |[],d::q,.node ..,_=>by cases d<;>simp[bJ.fo]
 |d::p,[],.leaf,_=>by cases d<;>simp[bJ.fo]
 |d::p,[],.node ..,_=>by cases d<;>simp[bJ.fo]
 |d::p,e::q,.leaf,h=>by
  by_cases a:d=e
  ·subst a;have f:=bJ.GN x y p q .leaf (λb=>h (by rw[b]));cases d<;>simp[bJ.fo,f]
  ·cases d<;>cases e<;>first|exact absurd rfl a|simp[bJ.fo]
 |d::p,e::q,.node v bu a6 bd bo bO b3 cm dw,h=>by
  by_cases a:d=e
  ·subst a;have f:=λc=>bJ.GN x y p q c (λb=>h (by rw[b]))
   cases d<;>simp[bJ.fo,f]
  ·cases d<;>cases e<;>first|exact absurd rfl a|simp[bJ.fo]
def ae.set_comm{H:ae}{l m:Nat}{b c:bA}(h:l≠m):(H.set l b).set m c=(H.set m c).set l b:=by
 simp only[ae.set,bJ.put];rw[bJ.GN _ _ _ _ _ (λe=>h (Qh e).symm)]
section
variable {E:Env}{P:Program}{call:ao}{ops:Array Oper}{ord:List Nat}{dq br:bg}{H0 c_:ae}{T:List bN}{ρ0:Env}{w0:World}{Q:Exit->Act->World->Prop}
def g0(ops:Array Oper)(b a:Nat):Array Oper:=ops.mapIdx λi o=>if i=b then {o with after:=o.after.push ⟨a,default⟩}else o
def kb(b a i:Nat)(o:Oper):Oper:=if i=b then {o with after:=o.after.push ⟨a,default⟩}else o
def lb(ops:Array Oper)(b a i:Nat):(g0 ops b a)[i]? =(ops[i]?).map (kb b a i):=by
 simp only[g0,Array.getElem?_mapIdx];rfl
def mA(ops:Array Oper)(b a:Nat):(g0 ops b a).size=ops.size:=by simp[g0]
def pe(b a i:Nat)(o:Oper):(kb b a i o).op=o.op/\(kb b a i o).dst=o.dst/\(kb b a i o).guard=o.guard:=by unfold kb;split<;>exact⟨rfl,rfl,rfl⟩
def Ee{b a i:Nat}{o:Oper}{L:Nat->Bool}(h:mz L o)(c:i=b->L a=J):mz L (kb b a i o):=by
 unfold kb;split
 ·rename_i e;intro x aF d;simp only[Array.mem_push]at aF;rcases aF with aF|rfl
  ·exact h x aF d
  ·exact c e
 ·exact h
def JN{b a i:Nat}{o:Oper}{L:Nat->Bool}(h:mz L (kb b a i o)):mz L o:=by
 unfold kb at h;split at h
 ·intro x aF c;exact h x (by simp[aF]) c
 ·exact h
def VH(b a i:Nat)(R:bg)(o:Oper):kj (g0 ops b a) R (kb b a i o)=kj ops R o:=by
 unfold kj;rw[(pe b a i o).2.2];cases o.guard with
 |none=>rfl
 |some p=>
  obtain⟨j,want⟩:=p;simp only[lb];cases c:ops[j]? with
  |none=>rfl
  |some q=>simp only[Option.map_some,(pe b a j q).2.1]
def kc(b a:Nat)(t:bN):bN:=⟨t.i,kb b a t.i t.o,t.R,t.k⟩
def E4(b a:Nat):∀(is:List Nat) (R:bg) (H:ae),canRun P call (g0 ops b a) is R H=(canRun P call ops is R H).map λp=>(p.1.map (kc b a),p.2)
 |[],_,_=>rfl
 |i::is,R,H=>by
  simp only[canRun,lb];cases aX:ops[i]? with
  |none=>rfl
  |some o=>
   simp only[Option.map_some];have c:gB P call (g0 ops b a) (kb b a i o) R H=gB P call ops o R H:=by
    unfold gB;rw[VH,(pe b a i o).1]
   rw[c,(pe b a i o).2.1];cases gB P call ops o R H with
   |none=>rfl
   |some k=>
    simp only
    cases R.put o.dst k.val with
    |none=>rfl
    |some bk=>
     simp only
     rw[E4 b a is bk (k.heap H)];cases canRun P call ops is bk (k.heap H)with
     |none=>rfl
     |some p=>rfl
def u6(a:List Nat):∀(is:List Nat) (R:bg) (H:ae),canRun P call ops (is++a) R H=(canRun P call ops is R H).bind λp=>(canRun P call ops a p.2.1 p.2.2).map λq=>(p.1++q.1,q.2)
 |[],R,H=>by
  simp only[List.nil_append,canRun,Option.bind_some];cases canRun P call ops a R H<;>rfl
 |i::is,R,H=>by
  simp only[List.cons_append,canRun];cases ops[i]? with
  |none=>rfl
  |some o=>
   simp only
   cases gB P call ops o R H with
   |none=>rfl
   |some k=>
    simp only
    cases R.put o.dst k.val with
    |none=>rfl
    |some bk=>
     simp only
     rw[u6 a is bk (k.heap H)];cases canRun P call ops is bk (k.heap H)with
     |none=>rfl
     |some p=>
      simp only[Option.bind_some];cases canRun P call ops a p.2.1 p.2.2<;>rfl
def JT{b a i:Nat}{K:Act->World->Prop}{c:Act}{w:World}(h:wpOp P (g0 ops b a) Q i K c w):wpOp P ops Q i K c w:=by
 unfold wpOp at h ⊢;rw[lb]at h;have d:yielded (g0 ops b a) c.tmps=yielded ops c.tmps:=by
  funext j
  unfold yielded;rw[lb];cases ops[j]? with
  |none=>rfl
  |some q=>simp only[Option.map_some,Option.bind_some,(pe b a j q).2.1]
 rw[d]at h;cases aX:ops[i]? with
 |none=>rw[aX]at h;exact h
 |some o=>
  rw[aX]at h;simp only[Option.map_some]at h;unfold kb at h;split at h<;>exact h
def GS{b a:Nat}{d:Array Bool}(c:d.size=ops.size)(e:c7 d a=J){i:Nat}:i∈Region.ready .any (g0 ops b a) d↔i∈Region.ready .any ops d:=by
 constructor
 ·intro h;obtain⟨o,ah,ai,ay,aM⟩:=p8 h (by rw[mA];exact c);rw[lb]at ah;obtain⟨q,aH,rfl⟩:=Option.map_eq_some_iff.1 ah;exact AW aH ai (JN ay) c
 ·intro h;obtain⟨o,ah,ai,ay,aM⟩:=p8 h c;exact AW (by rw[lb,ah];rfl) ai (Ee ay λ_=>e) (by rw[mA];exact c)
def JS{b a:Nat}:∀(fuel:Nat) {e:Array Bool} {c:Act} {w:World},e.size=ops.size->c7 e a=J->wpAny P .any (g0 ops b a) Q fuel e c w->wpAny P .any ops Q fuel e c w
 |0,e,c,w,d,f,h=>by
  refine⟨?_,h.2⟩;rw[List.eq_nil_iff_forall_not_mem];intro i aP;have:=(GS (b:=b) d f).2 aP;rw[h.1]at this;simp at this
 |fuel+1,e,c,w,d,f,h=>by
  refine⟨λau=>h.1 ?_,λi aP=> ?_⟩
  ·rw[List.eq_nil_iff_forall_not_mem];intro i aP;have:=(GS d f).1 aP;rw[au]at this;simp at this
  ·refine wpOp_mono (λg j cD=>JS fuel (fH d) ?_ cD) (JT (h.2 i ((GS d f).2 aP)));obtain⟨o,_,_,_,aM⟩:=p8 aP d;rw[pV (by rw[d];exact aM)];split
   ·rfl
   ·exact f
def lP(dq:bg)(H0:ae)(T:List bN)(N:Nat)(ρ0:Env)(w0:World)(L:Nat->Bool)(a:Act)(w:World):Prop:=∃ρ T1 T2,T=T1++T2/\(∀t∈T1,t.k.fS=J->L t.i=J)/\(∀t∈T2,(∃v H,t.k= .cV v H)->L t.i=I)/\ gR ρ0 H0 w0 N (eL L T2 (c1 T1 H0)) ρ (c1 T1 H0) w/\∃b:bg,e1 ρ b a/\b.size=dq.size/\∀d,b.get d=gN L d T (dq.get d)
def Fz(b a:Nat):∀(T:List bN) (H:ae),c1 (T.map (kc b a)) H=c1 T H
 |[],_=>rfl
 |t::T,H=>Fz b a T (t.k.heap H)
def AP(b a:Nat)(L:Nat->Bool):∀(T:List bN) (H:ae),eL L (T.map (kc b a)) H=eL L T H
 |[],_=>rfl
 |t::T,H=>by
  funext l
  simp only[List.map_cons,eL,kc];cases c:t.k with
  |new v eS=>simp only[AP b a L T (H.push eS)]
  |_=>exact congrFun (AP b a L T _) l
def GV(b a:Nat)(L:Nat->Bool)(d:Nat):∀(T:List bN) (v:af),gN L d (T.map (kc b a)) v=gN L d T v
 |[],_=>rfl
 |t::T,v=>by
  simp only[List.map_cons,gN,kc,(pe b a t.i t.o).2.1];exact GV b a L d T _
def lP.up{b a:Nat}{N:Nat}{L:Nat->Bool}{c:Act}{w:World}(h:lP dq H0 T N ρ0 w0 L c w):lP dq H0 (T.map (kc b a)) N ρ0 w0 L c w:=by
 obtain⟨ρ,T1,T2,rfl,ah,ai,ay,f,g,i,j⟩:=h;refine⟨ρ,T1.map (kc b a),T2.map (kc b a),aW,λt a_ e=> ?_,λt a_ e=> ?_,?_,f,g,i,λd=> ?_⟩
 ·obtain⟨u,hu,rfl⟩:=List.mem_map.1 a_;exact ah u hu e
 ·obtain⟨u,hu,rfl⟩:=List.mem_map.1 a_;exact ai u hu e
 ·rw[Fz,AP];exact ay
 ·rw[GV];exact j d
def lP.down{b a:Nat}{N:Nat}{L:Nat->Bool}{c:Act}{w:World}(h:lP dq H0 (T.map (kc b a)) N ρ0 w0 L c w):lP dq H0 T N ρ0 w0 L c w:=by
 obtain⟨ρ,T1,T2,e,ah,ai,ay,g,i,j,k⟩:=h;obtain⟨eP,gT,rfl,rfl,rfl⟩:=List.map_eq_append_iff.1 e;refine⟨ρ,eP,gT,rfl,λt a_ f=>ah (kc b a t) (List.mem_map.2 ⟨t,a_,rfl⟩) f,λt a_ f=>ai (kc b a t) (List.mem_map.2 ⟨t,a_,rfl⟩) f,?_,g,i,j,λd=> ?_⟩
 ·rw[Fz,AP]at ay;exact ay
 ·have:=k d;rwa[GV]at this
def GJ{L:Nat->Bool}:∀{zD:List bN} {H:ae},(∀t∈zD,∀v b,t.k≠ .new v b)->eL L zD H=λ_=>Z
 |[],_,_=>rfl
 |t::zD,H,h=>by
  rw[tv (h t aW)];exact GJ λu hu=>h u (by simp[hu])
def GI{L:Nat->Bool}{zD D':List bN}(h:∀t∈zD,∀v b,t.k≠ .new v b)(cD:∀t∈D',∀v b,t.k≠ .new v b):∀{zC:List bN} {H:ae},eL L (zC++zD) H=eL L (zC++D') H
 |[],H=>by rw[List.nil_append,List.nil_append,GJ h,GJ cD]
 |t::zC,H=>by
  funext l
  simp only[List.cons_append,eL];cases a:t.k with
  |new v eS=>simp only[GI h cD (zC:=zC) (H:=H.push eS)]
  |_=>exact congrFun (GI h cD (zC:=zC)) l
def lP.swap{zA M:List bN}{ta tb ta2 tb2:bN}{N:Nat}{L:Nat->Bool}{c:Act}{w:World}(q:∀t∈M,t.k.fS=I)(j:∃v H,ta.k= .cV v H)(n:∃v H,tb.k= .cV v H)(m:∃v H,ta2.k= .cV v H)(p:∃v H,tb2.k= .cV v H)
  (O:ta2.i=ta.i) (P:tb2.i=tb.i) (u:ta.o.dst=Z) (B:tb.o.dst=Z) (z:ta2.o.dst=Z) (E:tb2.o.dst=Z) (cy:L ta.i=I) (Q:L tb.i=I) (h:lP dq H0 (zA++ta::(M++[tb])) N ρ0 w0 L c w):lP dq H0 (zA++(M++[tb2,ta2])) N ρ0 w0 L c w:=by
 obtain⟨ρ,T1,T2,e,ah,ai,ay,s,R,S,T⟩:=h;obtain⟨an,U,j⟩:=j;obtain⟨bh,W,n⟩:=n;obtain⟨aa,V,m⟩:=m;obtain⟨ab,Y,p⟩:=p;obtain⟨zC,G,K⟩:∃zC,zA=T1++zC/\T2=zC++ta::(M++[tb]):=by
  rcases List.append_eq_append_iff.1 e with⟨x,g,f⟩|⟨x,g,f⟩
  ·cases x with
   |nil=>rw[List.append_nil]at g;exact⟨[],by rw[g,List.append_nil],by rw[List.nil_append]at f;rw[<-f,List.nil_append]⟩
   |cons y x=>
    simp only[List.cons_append,List.cons.injEq]at f;obtain⟨rfl,_⟩:=f;have:=ah ta (by rw[g];simp) (by rw[j];rfl);rw[cy]at this;cases this
  ·exact⟨x,g,f⟩
 subst G;subst K;have lx:∀t∈M,∀v b,t.k≠ .new v b:=λt a_ v b e=>by have:=q t a_;rw[e]at this;cases this
 refine⟨ρ,T1,zC++(M++[tb2,ta2]),aW,ah,λt a_ r=> ?_,?_,s,R,S,λd=> ?_⟩
 ·simp only[List.mem_append,List.mem_cons,List.not_mem_nil,or_false]at a_;rcases a_ with a_|a_|rfl|rfl
  ·exact ai t (by simp[a_]) r
  ·obtain⟨v,H,e⟩:=r;have:=q t a_;rw[e]at this;cases this
  ·rw[P];exact Q
  ·rw[O];exact cy
 ·rw[GI (D':=ta::(M++[tb]))]
  ·exact ay
  ·intro t a_ v b a;simp only[List.mem_append,List.mem_cons,List.not_mem_nil,or_false]at a_;rcases a_ with a_|rfl|rfl
   ·exact lx t a_ v b a
   ·rw[p]at a;cases a
   ·rw[m]at a;cases a
  ·intro t a_ v b a;simp only[List.mem_append,List.mem_cons,List.not_mem_nil,or_false]at a_;rcases a_ with rfl|a_|rfl
   ·rw[j]at a;cases a
   ·exact lx t a_ v b a
   ·rw[n]at a;cases a
 ·rw[T d];have aL:∀{x:af} {t:bN},t.o.dst=Z->∀{l:List bN},gN L d (t::l) x=gN L d l x:=λa_=>by
   intro l;simp only[gN,a_];rw[if_neg aW]
  rw[oV,oV,oV,oV,aL u,oV,oV,aL B,aL E,aL z]
def alg{a b:Nat}{V W:List Nat}{T1 T2:List bN}{v:bg}(N:a≠b)(a6:Ctx P call (g0 ops b a) V dq H0 T1 br c_)(bd:Ctx P call (g0 ops a b) W dq H0 T2 v c_)(m:e_ E P call)(k:E.le ρ0)
  (T:∀L c w,L a=I->L b=I->lP dq H0 T1 c_.next ρ0 w0 L c w->lP dq H0 T2 c_.next ρ0 w0 L c w) (M:v=br) (r:∀ρ a w,e1 ρ br a->Step ρ0 H0 w0 ρ c_ w->Q .normal a w):
  ∀(fuel:Nat) (d:Array Bool) (c:Act) (w:World),Inv (g0 ops b a) dq H0 T1 c_.next ρ0 w0 d c w->c7 d a=I->c7 d b=I->(List.range ops.size).countP (λj=> !c7 d j)<=fuel->wpAny P .any ops Q fuel d c w:=by
 subst M;have z:∀d c w,Inv (g0 ops b a) dq H0 T1 c_.next ρ0 w0 d c w->Region.ready .any ops d=[]->Q .normal c w:=by
  intro d c w aP au;have f:d.size=ops.size:=by have:=aP.size;rwa[mA]at this
  have S:Region.ready .any (g0 ops b a) d=[]:=by
   rw[List.eq_nil_iff_forall_not_mem];intro i g;obtain⟨o,ah,ai,ay,aM⟩:=p8 g aP.size;rw[lb]at ah;obtain⟨q,aH,rfl⟩:=Option.map_eq_some_iff.1 ah;have:=AW aH ai (JN ay) f;rw[au]at this;simp at this
  obtain⟨ρ,ah,ai⟩:=a6.final aP (a6.Kr aP.size S);exact r ρ c w ah ai
 intro fuel
 induction fuel with
 |zero=>
  intro d c w aP _ _ y;have f:d.size=ops.size:=by have:=aP.size;rwa[mA]at this
  have au:Region.ready .any ops d=[]:=by
   rw[List.eq_nil_iff_forall_not_mem];intro i g;obtain⟨o,ah,ai,ay,aM⟩:=p8 g f;have Y:0<(List.range ops.size).countP (λj=> !c7 d j):=List.countP_pos_iff.2 ⟨i,fH aM,by simp[ai]⟩;omega
  exact⟨au,z _ _ _ aP au⟩
 |succ fuel U=>
  intro d c w aP cy H y;have f:d.size=ops.size:=by have:=aP.size;rwa[mA]at this
  refine⟨λau=>z _ _ _ aP au,λi g=> ?_⟩;obtain⟨o,aX,ar,hw,n⟩:=p8 g f;have G:i<d.size:=by rw[f];exact n
  have s:=count_set G n ar y;have l:∀j,c7 (d.setIfInBounds i J) j=if j=i then J else c7 d j:=λj=>pV G j
  by_cases p:i=b
  ·
    subst p;have O:Inv (g0 ops a i) dq H0 T2 c_.next ρ0 w0 d c w:=by
     refine⟨by rw[mA];exact f,λj q B t=> ?_,T _ _ _ cy H aP.mid⟩;rw[lb]at B;obtain⟨aa,R,rfl⟩:=Option.map_eq_some_iff.1 B;have K:=aP.closed j _ (by rw[lb,R];rfl) t;refine Ee (JN K) λe=> ?_
     subst e;rw[cy]at t;cases t
    refine JT (b:=a) (a:=i) (bd.step m k O (by rw[lb,aX];rfl) ar (Ee hw λe=>absurd e.symm N) (by rw[mA];exact n) λbY u h=> ?_);refine JS fuel (fH f) (by rw[l,if_pos rfl]) (bd.any m k r fuel _ bY u h ?_);rw[mA];exact s
  ·refine JT (b:=b) (a:=a) (a6.step m k aP (by rw[lb,aX];rfl) ar (Ee hw λe=>absurd e p) (by rw[mA];exact n) λbY u h=> ?_);by_cases x:i=a
   ·subst x;refine JS fuel (fH f) (by rw[l,if_pos rfl]) (a6.any m k r fuel _ bY u h ?_);rw[mA];exact s
   ·exact U _ _ _ h (by rw[l,if_neg (Ne.symm x)];exact cy) (by rw[l,if_neg (Ne.symm p)];exact H) s
def ku(ops:Array Oper)(a:Nat):Option (TypeId×Operand×Operand):=match ops[a]? with
 |some o=>(match o.op,o.guard,o.dst with
  | .store t x y,Z,Z=>A (t,x,y)
  |_,_,_=>Z)
 |none=>Z
def pG(ms:List Nat)(ops:Array Oper):List Nat->List Nat->Bool
 |[],_=>J
 |i::is,ids=>match ops[i]? with
  |some o=>(match cls o.op with
   | .new=>pG ms ops is (i::ids)
   | .write=>ids.all (λj=>cI ms j i)&&pG ms ops is (i::ids)
   | .call=>ids.all (λj=>cI ms j i)&&pG ms ops is (i::ids)
   |_=>pG ms ops is ids)
  |none=>J
def QM(ops:Array Oper)(ord:List Nat)(a b:Nat):Bool:=ord.all λi=>match ops[i]? with
 |some o=>(match cls o.op with
  | .read=>cI (cQ ops) i a&&(cI (cQ ops) i b&& !cI (cQ ops) a i)
  | .both=>cI (cQ ops) i a&&(cI (cQ ops) i b&& !cI (cQ ops) a i)
  |_=>J)
 |none=>J
def AM(ops:Array Oper)(ord:List Nat):Bool:=rC ops (cQ ops) ord&&pG (cQ ops) ops ord []
def ajf{o:Op}{R:bg}{H:ae}{v:af}{H':ae}(h:h9 P call o R H=A (.cV v H')):cls o= .write\/cls o= .call:=by
 unfold h9 at h;split at h
 ·unfold nK at h;split at h<;>cases h
 ·unfold ma at h;split at h<;>cases h
 ·split at h
  ·cases h
  ·unfold ma at h;split at h<;>cases h
 ·unfold vs at h;split at h<;>cases h
 ·rename_i aA;exact .inl aA
 ·rename_i aA;exact .inr aA
def ajh{o:Op}{R:bg}{H:ae}{v:af}{b:bA}(h:h9 P call o R H=A (.new v b)):cls o= .new:=by
 unfold h9 at h;split at h
 ·unfold nK at h;split at h<;>cases h
 ·unfold ma at h;split at h<;>cases h
 ·split at h
  ·cases h
  ·unfold ma at h;split at h<;>cases h
 ·rename_i aA;exact aA
 ·unfold kQ at h;split at h
  ·split at h<;>cases h
  ·cases h
 ·split at h
  ·split at h
   ·unfold kQ at h;split at h
    ·split at h<;>cases h
    ·cases h
   ·cases h
  ·cases h
def ajj{o:Op}{R:bg}{H:ae}{v:af}(h:h9 P call o R H=A (.read v)):cls o= .read\/cls o= .both:=by
 unfold h9 at h;split at h
 ·unfold nK at h;split at h<;>cases h
 ·rename_i aA;exact .inl aA
 ·rename_i aA;exact .inr aA
 ·unfold vs at h;split at h<;>cases h
 ·unfold kQ at h;split at h
  ·split at h<;>cases h
  ·cases h
 ·split at h
  ·split at h
   ·unfold kQ at h;split at h
    ·split at h<;>cases h
    ·cases h
   ·cases h
  ·cases h
def FJ{o:Oper}{R:bg}{H:ae}{k:K}(h:gB P call ops o R H=A k)(a:k≠ .skip):h9 P call o.op R H=A k:=by
 unfold gB at h;split at h
 ·exact h
 ·simp only[bE]at h;exact absurd h.symm a
def sZ{ms:List Nat}:∀{is:List Nat} {R:bg} {H:ae} {T:List bN} {bk:bg} {H':ae} {ids d:List Nat},canRun P call ops is R H=A (T,bk,H')->pG ms ops is ids=J->(∀j∈d,j∈ids)->kK ms T d=J
 |[],R,H,T,bk,H',ids,d,h,_,_=>by
  simp only[canRun,bE,dV]at h;rw[<-h.1];rfl
 |i::is,R,H,T,bk,H',ids,d,h,c,aP=>by
  simp only[canRun]at h;split at h
  ·cases h
  ·rename_i o aX;split at h
   ·cases h
   ·rename_i k m;split at h
    ·cases h
    ·rename_i q _;split at h
     ·cases h
     ·rename_i T1 r n e;simp only[bE,dV]at h;obtain⟨rfl,rfl,rfl⟩:=h;simp only[pG,aX]at c;have sub:∀j∈i::d,j∈i::ids:=λj a=>by
       rcases List.mem_cons.1 a with rfl|a
       ·simp
       ·simp[aP j a]
      have s:∀j∈d,j∈i::ids:=λj a=>by simp[aP j a]
      have aT:∃f,pG ms ops is f=J/\(∀j∈ids,j∈f):=by
       split at c
       ·exact⟨_,c,λj a=>by simp[a]⟩
       ·simp only[Bool.and_eq_true]at c;exact⟨_,c.2,λj a=>by simp[a]⟩
       ·simp only[Bool.and_eq_true]at c;exact⟨_,c.2,λj a=>by simp[a]⟩
       ·exact⟨_,c,λj a=>a⟩
      simp only[kK];cases k with
      |cV v p=>
       have aA:=ajf (FJ m aW);simp only[Bool.and_eq_true];rcases aA with aA|aA<;>
       ·rw[aA]at c;simp only[Bool.and_eq_true,List.all_eq_true]at c;refine⟨?_,sZ e c.2 sub⟩;rw[List.all_eq_true];exactλj a=>c.1 j (aP j a)
      |new v b=>
       have aA:=ajh (FJ m aW);rw[aA]at c;exact sZ e c sub
      |pure v=>obtain⟨f,g,l⟩:=aT;exact sZ e g λj a=>l j (aP j a)
      |read v=>obtain⟨f,g,l⟩:=aT;exact sZ e g λj a=>l j (aP j a)
      |skip=>obtain⟨f,g,l⟩:=aT;exact sZ e g λj a=>l j (aP j a)
def sj(P:Program)(ms:List Nat)(cT:Nat->Bool)(T:List bN)(H:ae):List bN->Bool
 |[]=>J
 |t::ts=>(match t.k with
  | .read v=>cT t.i||g9 ms (lE P t.o.op t.R v) t.i T H
  |_=>J)&&sj P ms cT T H ts
def Uj{ms:List Nat}{cT:Nat->Bool}{T:List bN}{H:ae}{t:bN}{v:af}(a_:t.k= .read v):∀{ts:List bN},sj P ms cT T H ts=J->t∈ts->cT t.i=J\/g9 ms (lE P t.o.op t.R v) t.i T H=J
 |[],_,hm=>by simp at hm
 |u::ts,h,hm=>by
  simp only[sj,Bool.and_eq_true]at h;rcases List.mem_cons.1 hm with rfl|hm
  ·have:=h.1;rw[a_]at this;simpa using this
  ·exact Uj a_ h.2 hm
def Uh{ms:List Nat}{cT:Nat->Bool}{T:List bN}{H:ae}:∀{ts:List bN},(∀t∈ts,∀v,t.k= .read v->cT t.i=J\/g9 ms (lE P t.o.op t.R v) t.i T H=J)->np P ms cT T H ts=J
 |[],_=>rfl
 |t::ts,h=>by
  simp only[np,Bool.and_eq_true];refine⟨?_,Uh λu hu=>h u (by simp[hu])⟩;cases a:t.k with
  |read v=>
   simp only[Bool.or_eq_true];refine(h t aW v a).imp id λhw=> ?_
   unfold sa;cases qZ ms t.i T I with
   |true=>rw[hk,hw];rfl
   |false=>rw[pC,hw]
  |_=>rfl
def LV{ops:Array Oper}{ord:List Nat}(h:AM ops ord=J)(dU:canRun P call ops ord dq H0=A (T,br,c_))(hw:∀t∈T,∀v,t.k= .read v->kv ops (cQ ops) ord t.i=J\/g9 (cQ ops) (lE P t.o.op t.R v) t.i T H0=J):Ctx P call ops ord dq H0 T br c_:=by
 unfold AM at h;simp only[Bool.and_eq_true]at h;exact⟨dU,h.1,sZ dU h.2 λj a=>a,Uh hw⟩
def aeb{ord:List Nat}(dU:canRun P call ops ord dq H0=A (T,br,c_)){t:bN}(a_:t∈T){v:af}(d:t.k= .read v):t.i∈ord/\ops[t.i]? =A t.o/\(cls t.o.op= .read\/cls t.o.op= .both):=by
 obtain⟨zA,B,c⟩:=List.append_of_mem a_;obtain⟨b,_,a,_⟩:=zG (by rw[<-c];exact dU);rw[d]at a;exact⟨by rw[<-(l3 dU).1,List.mem_map];exact⟨t,a_,rfl⟩,b,ajj (FJ a aW)⟩
def Fh{acc:List Nat}{j:Nat}{e:Edge}:∀{es:List Edge},e∈es->Region.binds .any e=J->(acc[e.on]?.getD 0).testBit j=J->(lk acc es).testBit j=J
 |[],h,_,_=>by simp at h
 |d::es,h,a,b=>by
  unfold lk;rcases List.mem_cons.1 h with rfl|h
  ·rw[if_pos a];simp[b]
  ·split
   ·simp[Fh h a b]
   ·exact Fh h a b
def acA(ops:Array Oper):(cQ ops).length=ops.size:=by
 have hlen:∀(os:List Oper) (acc:List Nat),(oP os acc).length=acc.length+os.length:=by
  intro os
  induction os with
  |nil=>intro acc;simp[oP]
  |cons o os a=>intro acc;simp[oP,a];omega
 unfold cQ;rw[hlen];simp
def zx(b a:Nat):∀(i j:Nat),cI (cQ ops) j i=J->cI (cQ (g0 ops b a)) j i=true:=by
 intro i
 induction i using Nat.strongRecOn with
 |_ i g=>
  intro j c;cases aX:ops[i]? with
  |none=>
   unfold cI at c;have:ops.size<=i:=fH aX;rw[List.getElem?_eq_none (by rw[acA];exact this)]at c;simp at c
  |some o=>
   unfold cI at c ⊢;rw[Aw aX]at c;rw[Aw (show(g0 ops b a)[i]? =A (kb b a i o) by rw[lb,aX];rfl)];simp only[Option.getD_some]at c ⊢;obtain⟨e,ah,ai,ay⟩:=zP c;have f:e∈(kb b a i o).after.toList:=by
    unfold kb;split
    ·simp;exact .inl (fH ah)
    ·exact ah
   rcases ay with rfl|ay
   ·exact zQ f ai
   ·refine Fh f ai ?_;rcases Nat.lt_or_ge e.on i with d|h
    ·rw[List.getElem?_take_of_lt d]at ay ⊢;exact g e.on d j ay
    ·rw[List.getElem?_eq_none (by simp;omega)]at ay;simp at ay
def Tw{b a:Nat}{ord c:List Nat}{i:Nat}(h:kv ops (cQ ops) ord i=J)(e:∀j∈c,j∈ord):kv (g0 ops b a) (cQ (g0 ops b a)) c i=true:=by
 unfold kv at h ⊢;rw[List.all_eq_true]at h ⊢;intro j d;have ah:=h j (e j d);simp only[Bool.or_eq_true,beq_iff_eq]at ah ⊢;rcases ah with((ah|ah)|ah)|ah
 ·exact .inl (.inl (.inl ah))
 ·refine .inl (.inl (.inr ?_));rw[lb];cases aX:ops[j]? with
  |none=>rfl
  |some o=>rw[aX]at ah;simp only[Option.map_some,(pe b a j o).1];exact ah
 ·exact .inl (.inr (zx b a _ _ ah))
 ·exact .inr (zx b a _ _ ah)
def Eg{ms ms':List Nat}{b a:Nat}(hm:∀i j,cI ms j i=J->cI ms' j i=J){rd:ae->Bool}{i:Nat}:∀{T:List bN} {H:ae},g9 ms rd i T H=J->g9 ms' rd i (T.map (kc b a)) H=J
 |[],H,h=>h
 |t::T,H,h=>by
  simp only[List.map_cons,g9,kc]at h ⊢;split at h
  ·rename_i c;rw[if_pos c];simp only[Bool.and_eq_true,Bool.or_eq_true]at h ⊢;exact⟨h.1.imp (hm _ _) id,h.2.imp (hm _ _) (Eg hm)⟩
  ·rename_i c;rw[if_neg c];exact Eg hm h
def JR{ms:List Nat}{rd:ae->Bool}{i:Nat}{ta tb:bN}{zX W M:List bN}(b:ta.k.fS=J)(c:tb.k.fS=J)(a:∀t∈M,t.k.fS=I)(ah:cI ms ta.i i=I)(ai:cI ms i tb.i=J):∀{zA:List bN} {H:ae},g9 ms rd i (zA++ta::zX) H=J->g9 ms rd i (zA++(M++tb::W)) H=J
 |[],H,h=>by
  simp only[List.nil_append,g9,b,if_true,ah,Bool.false_or,Bool.and_eq_true]at h;have key:∀{M:List bN},(∀t∈M,t.k.fS=I)->g9 ms rd i (M++tb::W) H=true:=by
   intro M
   induction M with
   |nil=>intro _;simp only[List.nil_append,g9,c,if_true,h.1,ai,Bool.or_true,Bool.true_or,Bool.and_self]
   |cons t M e=>
    intro a;simp only[List.cons_append,g9];rw[if_neg (by rw[a t aW];simp)];exact e λu hu=>a u (by simp[hu])
  exact key a
 |t::zA,H,h=>by
  simp only[List.cons_append,g9]at h ⊢;split at h
  ·rename_i d;rw[if_pos d];simp only[Bool.and_eq_true,Bool.or_eq_true]at h ⊢;exact⟨h.1,h.2.imp id (JR b c a ah ai)⟩
  ·rename_i d;rw[if_neg d];exact JR b c a ah ai h
def GL(ops:Array Oper)(xs:List Operand)(i:Nat):Bool:=match ops[i]? with
 |some o=>(match cls o.op,o.guard,o.dst with
  | .pure,Z,A d=>xs.all λx=>match x with
   | .tmp t=>t != d
   |_=>J
  | .pure,Z,Z=>J
  |_,_,_=>I)
 |none=>I
def Lh{xs:List Operand}:∀{is:List Nat} {R:bg} {H:ae} {M:List bN} {b:bg} {f:ae},is.all (GL ops xs)=J->canRun P call ops is R H=A (M,b,f)->f=H/\(∀t∈M,t.k.fS=I)/\(∀H',canRun P call ops is R H'=A (M,b,H'))/\∀x∈xs,cx b x=cx R x
 |[],R,H,M,b,f,_,h=>by
  simp only[canRun,bE,dV]at h;obtain⟨rfl,rfl,rfl⟩:=h;exact⟨rfl,λt a_=>by simp at a_,λH'=>rfl,λ_ _=>rfl⟩
 |i::is,R,H,M,b,f,m,h=>by
  simp only[List.all_cons,Bool.and_eq_true]at m;obtain⟨a,s⟩:=m;simp only[canRun]at h;split at h
  ·cases h
  ·rename_i o aX;unfold GL at a;rw[aX]at a;simp only at a;have r:cls o.op= .pure/\o.guard=Z/\∀d,o.dst=A d->∀x∈xs,∀t,x= .tmp t->t≠d:=by
    split at a
    ·rename_i d aA aR c;refine⟨aA,aR,λp e x aF t a_=> ?_⟩;rw[c]at e;cases e;rw[List.all_eq_true]at a;have:=a x aF;rw[a_]at this;simpa using this
    ·rename_i aA aR c;exact⟨aA,aR,λp e=>by rw[c]at e;cases e⟩
    ·cases a
   obtain⟨a6,bd,bo⟩:=r;have l:∀H',gB P call ops o R H'=nK (jV P o.op R):=λH'=>by
    unfold gB kj;rw[bd];simp only[h9,a6]
   rw[l]at h;cases g:jV P o.op R with
   |none=>rw[g]at h;cases h
   |some v=>
    rw[g]at h;simp only[nK]at h;split at h
    ·cases h
    ·rename_i n j;split at h
     ·cases h
     ·rename_i T1 G E u;simp only[bE,dV]at h;obtain⟨rfl,rfl,rfl⟩:=h;obtain⟨w,y,z,B⟩:=Lh s u;refine⟨w,λt a_=> ?_,λH'=> ?_,λx aF=> ?_⟩
      ·rcases List.mem_cons.1 a_ with rfl|a_
       ·rfl
       ·exact y t a_
      ·have q:R.put o.dst v=A n:=j;simp only[canRun,aX,l,g,nK,K.val,q,K.heap];rw[z H']
      ·rw[B x aF];cases x with
       |tmp t=>
        simp only[cx];rw[bg.s9 j t];split
        ·rename_i c;exact absurd rfl (bo t c _ aF t rfl)
        ·rfl
       |_=>rfl
def ES{H H':ae}{t:TypeId}{u v:af}(h:cz P H t u v=A H'):∃l i c b,u= .ptr l i c/\l<H.next/\H'=H.set l b/\∀a:ae,a.get l=H.get l->cz P a t u v=A (a.set l b):=by
 unfold cz at h;split at h
 ·rename_i l i c;split at h
  ·rename_i esz els aR;split at h
   ·rename_i e he;split at h
    ·rename_i aA;simp only[bE]at h;exact⟨l,i,c,_,rfl,ae.bm aR,h.symm,λa ai=>by simp only[cz,ai,aR,he];rw[if_pos aA]⟩
    ·cases h
   ·cases h
  ·rename_i d esz els aR;split at h
   ·rename_i e he;split at h
    ·rename_i aA;simp only[bE]at h;exact⟨l,i,c,_,rfl,ae.bm aR,h.symm,λa ai=>by simp only[cz,ai,aR,he];rw[if_pos aA]⟩
    ·cases h
   ·cases h
  ·cases h
 ·cases h
def aix{a:Nat}{t:TypeId}{x y:Operand}(h:ku ops a=A (t,x,y)):∃o,ops[a]? =A o/\o.op= .store t x y/\o.guard=Z/\o.dst=none:=by
 unfold ku at h;split at h
 ·rename_i o aX;split at h
  ·rename_i ah ai ay;simp only[bE,dV]at h;obtain⟨rfl,rfl,rfl⟩:=h;exact⟨o,aX,ah,ai,ay⟩
  ·cases h
 ·cases h
def zH{a:Nat}{t:TypeId}{x y:Operand}(h:ku ops a=A (t,x,y))(is:List Nat)(R:bg)(H:ae):∃o,ops[a]? =A o/\o.dst=Z/\canRun P call ops (a::is) R H=((cx R x).bind λu=>(cx R y).bind λv=>cz P H t u v).bind λH'=>(canRun P call ops is R H').map λp=>(⟨a,o,R,.cV (.tuple []) H'⟩::p.1,p.2):=by
 obtain⟨o,ah,ai,ay,aM⟩:=aix h;refine⟨o,ah,aM,?_⟩;have d:gB P call ops o R H=kQ H (mF P (.store t x y) R H):=by
  unfold gB kj;rw[ay,ai];simp only[h9,cls]
 simp only[canRun,ah,d,mF];cases hu:cx R x with
 |none=>rfl
 |some u=>
  simp only[Option.bind_some];cases f:cx R y with
  |none=>rfl
  |some v=>
   simp only[Option.bind_some];cases e:cz P H t u v with
   |none=>rfl
   |some H'=>
    obtain⟨l,i,c,b,_,_,rfl,_⟩:=ES e;simp only[Option.map_some,kQ,ae.vC,ds,if_true,aM,bg.put,K.heap,Option.bind_some];cases canRun P call ops is R (H.set l b)with
    |none=>rfl
    |some p=>rfl
def Ao(R:bg)(x:Operand):Option Nat:=match cx R x with
 |some (.ptr l _ _)=>A l
 |_=>Z
def D4(ops:Array Oper)(ord pre:List Nat)(a:Nat)(mid:List Nat)(b:Nat):Bool:=
 match ku ops a,ku ops b with
 |some (_,c,d),A _=>decide (ord=pre++a::(mid++[b]))&&(decide (a≠b)&&(mid.all (GL ops [c,d])&&(QM ops ord a b&&(AM (g0 ops b a) ord&&AM (g0 ops a b) (pre++(mid++[b,a]))))))
 |_,_=>I
def y6(ops:Array Oper)(a b:Nat)(R:bg):Bool:=
 match ku ops a,ku ops b with
 |some (_,c,_),A (_,aU,_)=>(match Ao R c,Ao R aU with
  |some l,A m=> !Nat.beq l m
  |_,_=>I)
 |_,_=>I
theorem aju{id a b:Nat}{ord pre mid:List Nat}{act:Act}{w:World}(hm:P.follows .mixedOrders=J)(aZ:e_ E P call)(p:D4 ops ord pre a mid b=J)(K:canRun P call ops ord dq H0=A (T,br,c_))(G:y6 ops a b br=J)(bl:sj P (cQ ops) (kv ops (cQ ops) ord) T H0 T=J)
  (aV:Rel ρ0 H0 w) (aB:jL E ρ0 H0.next c_.next) (au:e1 ρ0 dq act) (aT:∀ρ a U,e1 ρ br a->Step ρ0 H0 w ρ c_ U->Q .normal a U):(Code.region id ops J).wp P Q act w:=by
 unfold D4 at p;unfold y6 at G;cases N:ku ops a with
 |none=>rw[N]at p;cases p
 |some bq=>
 obtain⟨bO,aD,aE⟩:=bq;cases aa:ku ops b with
 |none=>rw[N,aa]at p;cases p
 |some bs=>
 obtain⟨bP,aU,bS⟩:=bs;rw[N,aa]at p G;simp only[Bool.and_eq_true,decide_eq_true_eq]at p G;obtain⟨ba,aX,a2,af,a3,a4⟩:=p;subst ba;have am:=K;rw[u6]at K;obtain⟨⟨zA,z,H1⟩,aP,K⟩:=e4.1 K;obtain⟨⟨bJ,bI,bF⟩,B,he⟩:=Option.map_eq_some_iff.1 K;simp only[dV]at he;obtain⟨rfl,rfl,rfl⟩:=he;simp only at B;obtain⟨r,a5,aj,aH⟩:=zH (P:=P) (call:=call) N (mid++[b]) z H1;rw[aH]at B;obtain⟨bC,O,B⟩:=e4.1 B;obtain⟨⟨b8,bG,bz⟩,V,he⟩:=Option.map_eq_some_iff.1 B;simp only[dV]at he;obtain⟨rfl,rfl,rfl⟩:=he;rw[u6]at V;obtain⟨⟨M,f,aF⟩,aS,V⟩:=e4.1 V;obtain⟨⟨ck,bH,bA⟩,x,he⟩:=Option.map_eq_some_iff.1 V;simp only[dV]at he;obtain⟨rfl,rfl,rfl⟩:=he
 simp only at x;obtain⟨rfl,ax,bn,aC⟩:=Lh a2 aS;obtain⟨s,a8,ak,aJ⟩:=zH (P:=P) (call:=call) aa [] f aF;rw[aJ]at x;obtain⟨bD,S,x⟩:=e4.1 x;simp only[canRun,Option.map_some,bE,dV]at x;obtain⟨rfl,rfl,rfl⟩:=x;obtain⟨bQ,bg,O⟩:=e4.1 O;obtain⟨an,bi,O⟩:=e4.1 O;obtain⟨bR,ap,S⟩:=e4.1 S;obtain⟨bh,bk,S⟩:=e4.1 S;obtain⟨cy,bm,aG,n,rfl,bL,rfl,aL⟩:=ES O;obtain⟨g,bM,bK,m,rfl,a1,rfl,aN⟩:=ES S;have ao:cx f aD=A (.ptr cy bm aG):=(aC aD aW).trans bg;have bj:cx f aE=A an:=(aC aE aW).trans bi;have ad:cy≠g:=by
  simp only[Ao,ao,ap]at G;intro e;subst e;simp at G
 simp only[ae.vC]at a1;have bx:=aN H1 (by rw[ae.b_ ad]);have bw:=aL (H1.set g m) (by rw[ae.b_ (Ne.symm ad)]);have a0:(H1.set g m).set cy n=(H1.set cy n).set g m:=(ae.set_comm ad).symm;have bc:canRun P call ops (pre++(mid++[b,a])) dq H0=A (zA++(M++[⟨b,s,f,.cV (.tuple []) (H1.set g m)⟩,⟨a,r,f,.cV (.tuple []) ((H1.set cy n).set g m)⟩]),f,(H1.set cy n).set g m):=by
  obtain⟨bo,a7,_,aI⟩:=zH (P:=P) (call:=call) N [] f (H1.set g m);obtain rfl:bo=r:=Option.some.inj (a7.symm.trans a5);obtain⟨bp,a9,_,aK⟩:=zH (P:=P) (call:=call) aa [a] f H1;obtain rfl:bp=s:=Option.some.inj (a9.symm.trans a8);rw[u6,aP];simp only[Option.bind_some];rw[u6,bn H1];simp only[Option.bind_some];rw[aK,ap,bk];simp only[Option.bind_some,bx];rw[aI,ao,bj];simp only[Option.bind_some,bw,canRun,Option.map_some,a0]
 have al:∀t∈zA++⟨a,r,z,.cV (.tuple []) (H1.set cy n)⟩::(M++[⟨b,s,f,.cV (.tuple []) ((H1.set cy n).set g m)⟩]),∀v,t.k= .read v->cI (cQ ops) a t.i=I/\cI (cQ ops) t.i b=J/\(kv ops (cQ ops) (pre++a::(mid++[b])) t.i=J\/g9 (cQ ops) (lE P t.o.op t.R v) t.i (zA++⟨a,r,z,.cV (.tuple []) (H1.set cy n)⟩::(M++[⟨b,s,f,.cV (.tuple []) ((H1.set cy n).set g m)⟩])) H0=J):=by
  intro t a_ v q;obtain⟨bt,bu,bv⟩:=aeb am a_ q;unfold QM at af;rw[List.all_eq_true]at af;have aM:=af _ bt;rw[bu]at aM;simp only at aM;refine⟨?_,?_,Uj q bl a_⟩<;>
  ·rcases bv with aA|aA<;>
   ·rw[aA]at aM;simp only[Bool.and_eq_true,Bool.not_eq_true']at aM
    first|exact aM.2.2|exact aM.2.1
 have a6:=LV a3 (show canRun P call (g0 ops b a) (pre++a::(mid++[b])) dq H0=A (_,_,_) by rw[E4,am];rfl) (λt a_ v q=>by
  obtain⟨u,hu,rfl⟩:=List.mem_map.1 a_;obtain⟨_,_,ab⟩:=al u hu v q;refine ab.imp (λh=>Tw h λj Y=>Y) λh=> ?_
  have:=Eg (b:=b) (a:=a) (ms':=cQ (g0 ops b a)) (zx b a) h;simpa only[kc,(pe b a u.i u.o).1]using this)
 have be:∀j∈pre++(mid++[b,a]),j∈pre++a::(mid++[b]):=λj Y=>by
  simp only[List.mem_append,List.mem_cons,List.not_mem_nil,or_false]at Y ⊢;rcases Y with h|h|h|h
  ·exact .inl h
  ·exact .inr (.inr (.inl h))
  ·exact .inr (.inr (.inr h))
  ·exact .inr (.inl h)
 have bd:=LV a4 (show canRun P call (g0 ops a b) (pre++(mid++[b,a])) dq H0=A (_,_,_) by rw[E4,bc];rfl) (λt a_ v q=>by
  obtain⟨u,hu,rfl⟩:=List.mem_map.1 a_;have bf:u∈zA++⟨a,r,z,.cV (.tuple []) (H1.set cy n)⟩::(M++[⟨b,s,f,.cV (.tuple []) ((H1.set cy n).set g m)⟩]):=by
   simp only[List.mem_append,List.mem_cons,List.not_mem_nil,or_false]at hu ⊢;rcases hu with h|h|rfl|rfl
   ·exact .inl h
   ·exact .inr (.inr (.inl h))
   ·cases q
   ·cases q
  obtain⟨ay,aM,ab⟩:=al u bf v q;refine ab.imp (λh=>Tw h be) λh=> ?_
  have aO:=JR (tb:=⟨b,s,f,.cV (.tuple []) (H1.set g m)⟩) (W:=[⟨a,r,f,.cV (.tuple []) ((H1.set cy n).set g m)⟩]) rfl rfl ax ay aM h;have:=Eg (b:=a) (a:=b) (ms':=cQ (g0 ops a b)) (zx a b) aO;simpa only[kc,(pe a b u.i u.o).1]using this)
 have y:∀j,c7 (Array.replicate ops.size I) j=false:=λj=>by
  unfold c7;rw[Array.getD_eq_getD_getElem?];by_cases h:j<ops.size<;>simp[h]
 refine wp_region_any hm (alg (ρ0:=ρ0) (w0:=w.drew) aX a6 bd aZ aB.le (λL c U aQ aR h=> ?_) rfl (λρ a U ah ai=>aT ρ a U ah ?_) _ _ _ _ ⟨by rw[mA];simp,λi o _ ar=>absurd ar (by rw[y];simp),ρ0,[],_,rfl,aW,λt _ _=>y _,?_,dq,au,rfl,λd=> ?_⟩ (y a) (y b) ?_)
 ·exact(lP.swap (ta:=⟨a,r,z,.cV (.tuple []) (H1.set cy n)⟩) (tb:=⟨b,s,f,.cV (.tuple []) ((H1.set cy n).set g m)⟩) (ta2:=⟨a,r,f,.cV (.tuple []) ((H1.set cy n).set g m)⟩) (tb2:=⟨b,s,f,.cV (.tuple []) (H1.set g m)⟩) ax ⟨_,_,rfl⟩ ⟨_,_,rfl⟩ ⟨_,_,rfl⟩ ⟨_,_,rfl⟩ rfl rfl aj ak aj ak aQ aR h.down).up
 ·exact⟨ai.le,ai.next,ai.keep,ai.rel,ai.os,ai.tape,ai.output,ai.size,ai.frame,ai.own,ai.ro,ai.olds⟩
 ·have bb:∀(T:List bN) (H:ae),eL (c7 (Array.replicate ops.size I)) T H=λ_=>none:=by
   intro T
   induction T with
   |nil=>intro H;rfl
   |cons t T av=>
    intro H
    funext l
    unfold eL;split
    ·rw[av,y];simp
    ·rw[av]
  rw[bb];exact gR.start aV.drew aB.new
 ·rw[vR λt _ _=>y _]
 ·refine Nat.le_trans List.countP_le_length ?_;simp
def qF(ops:Array Oper)(ord:List Nat):Option (Nat×Nat):=match ord.getLast? with
 |none=>Z
 |some b=>match ku ops b with
  |none=>Z
  |some _=>match ord.dropLast.find? (λa=>(ku ops a).isSome&& !cI (cQ ops) a b)with
   |none=>Z
   |some a=>match D4 ops ord (ord.dropLast.takeWhile λi=> !Nat.beq i a) a ((ord.dropLast.dropWhile λi=> !Nat.beq i a).drop 1) b with
    |true=>A (a,b)
    |false=>Z
theorem ajt{ops:Array Oper}{ord:List Nat}{a b:Nat}(h:qF ops ord=A (a,b)):∃pre mid,D4 ops ord pre a mid b=true:=by
 unfold qF at h;split at h
 ·cases h
 ·split at h
  ·cases h
  ·split at h
   ·cases h
   ·split at h
    ·rename_i c;simp only[bE,dV]at h;obtain⟨rfl,rfl⟩:=h;exact⟨_,_,c⟩
    ·cases h
end
def jI(P:Program)(call:ao)(ops:Array Oper):List Oper->bg->ae->Option (bg×ae)
 |[],R,H=>A (R,H)
 |o::os,R,H=>match gB P call ops o R H with
  |none=>Z
  |some k=>match R.put o.dst k.val with
   |none=>Z
   |some bk=>jI P call ops os bk (k.heap H)
def UL(o:Oper):Bool:=match cls o.op with
 | .write=>J
 | .call=>J
 |_=>I
def need(m:Nat)(done:Nat):List Nat->List Nat
 |[]=>[]
 |j::a=>if m.testBit j&& !done.testBit j then j::need m done a else need m done a
def SM(done:Nat):List Nat->Nat
 |[]=>done
 |j::a=>SM (done|||2^j) a
def GF(ms all:List Nat):List (Nat×Oper)->Nat->List Nat
 |[],done=>need (2^all.length-1) done all
 |(i,o)::is,done=>if UL o&& !done.testBit i then
   (let a:=need (ms[i]?.getD 0) done all
    a++i::GF ms all is (SM done a|||2^i))
  else GF ms all is done
def Us:Nat->List Oper->List (Nat×Oper)
 |_,[]=>[]
 |i,o::os=>(i,o)::Us (i+1) os
def order(ops:Array Oper):List Nat:=GF (cQ ops) (List.range ops.size) (Us 0 ops.toList) 0
def hP(P:Program)(call:ao)(ops:Array Oper)(draw:Bool)(R:bg)(H:ae):Option (bg×ae):=
 match draw with
 |false=>jI P call ops ops.toList R H
 |true=>match canRun P call ops (order ops) R H with
  |none=>Z
  |some (T,bk,H')=>match qF ops (order ops)with
   |some (a,b)=>(match y6 ops a b bk&&sj P (cQ ops) (kv ops (cQ ops) (order ops)) T H T with
    |false=>Z
    |true=>A (bk,H'))
   |none=>match kK (cQ ops) T []with
    |false=>Z
    |true=>match np P (cQ ops) (kv ops (cQ ops) (order ops)) T H T with
     |false=>Z
     |true=>A (bk,H')
def m4:Code->Bool
 | .region _ ops J=>rC ops (cQ ops) (order ops)
 | .seq a b=>m4 a&&m4 b
 | .cond _ a b=>m4 a&&m4 b
 | .block _ b=>m4 b
 | .loop b=>m4 b
 |_=>J
inductive g_ where
 |normal
 |exit (id:Nat)
 |ret
def g_.Fj:g_->Exit
 | .normal=> .normal
 | .exit id=> .exit id
 | .ret=> .ret
abbrev zf:=Array Oper->Bool->bg->ae->Option (bg×ae)
def iter(f:bg->ae->Option (g_×bg×ae)):Nat->bg->ae->Option (g_×bg×ae)
 |0,_,_=>Z
 |n+1,R,H=>match f R H with
  |some (.normal,bk,H')=>iter f n bk H'
  |r=>r
def dg(jF:zf)(N:Nat):Code->bg->ae->Option (g_×bg×ae)
 | .skip,R,H=>A (.normal,R,H)
 | .region _ ops d,R,H=>match jF ops d R H with
  |some (bk,H')=>A (.normal,bk,H')
  |none=>Z
 | .seq a b,R,H=>match dg jF N a R H with
  |some (.normal,bk,H')=>dg jF N b bk H'
  |r=>r
 | .cond c a b,R,H=>match cx R c with
  |some (.bool J)=>dg jF N a R H
  |some (.bool I)=>dg jF N b R H
  |_=>Z
 | .block id b,R,H=>match dg jF N b R H with
  |some (.exit e,bk,H')=>if e=id then A (.normal,bk,H')else A (.exit e,bk,H')
  |r=>r
 | .loop b,R,H=>iter (λR H=>dg jF N b R H) N R H
 | .exit id,R,H=>A (.exit id,R,H)
 | .ret,R,H=>A (.ret,R,H)
 | .label _,R,H=>A (.normal,R,H)
 |_,_,_=>Z
def bg.vE(t:bJ af):Nat->List af->bJ af
 |_,[]=>t
 |i,v::ak=>bg.vE (bJ.put v (i+1) t i) (i+1) ak
def bg.enter(n:Nat)(args:List af):bg:=⟨bg.vE .leaf 0 args,args.length+(n-args.length)⟩
def sK(P:Program)(R:bg)(H:ae):ResultVar->Option af
 | .tmp t=>A (R.get t)
 | .cell a t=>aJ P H t (R.get a)
def jt(P:Program)(R:bg)(H:ae):List ResultVar->Option (List af)
 |[]=>A []
 |r::rs=>match sK P R H r,jt P R H rs with
  |some v,A ak=>A (v::ak)
  |_,_=>Z
def lX:List af->af
 |[v]=>v
 |ak=> .tuple ak
def jx(P:Program)(aD:ao)(N:Nat):Nat->ao
 |0,_,_,_=>Z
 |n+1,f,args,H=>match aD f args H with
 |some r=>A r
 |none=>match P.funcs[f]? with
  |none=>Z
  |some fn=>match fn.body with
   |none=>Z
   |some c=>match dg (hP P (jx P aD N n)) N c (bg.enter fn.ntmps args) H with
    |none=>Z
    |some (ex,R,H')=>match ex with
     | .exit _=>Z
     |_=>match jt P R H' fn.results.toList with
      |none=>Z
      |some ak=>A (lX ak,H')
section
variable {E:Env}{P:Program}{aD:ao}{call:ao}{jF:zf}{N:Nat}
theorem Jm{ops:Array Oper}:∀{os:List Oper} {R bk:bg} {H H':ae},jI P call ops os R H=A (bk,H')->H.next<=H'.next
 |[],R,bk,H,H',h=>by
  grind[jI]
 |o::os,R,bk,H,H',h=>by
  simp only[jI]at h;split at h
  ·cases h
  ·rename_i k a;split at h
   ·cases h
   ·exact Nat.le_trans (FI a) (Jm h)
def Et(jF:zf):Prop:=∀ops d R H bk H',jF ops d R H=A (bk,H')->H.next<=H'.next
def QQ:Et (hP P call):=by
 intro ops d R H bk H' h;unfold hP at h;split at h
 ·exact Jm h
 ·split at h
  ·cases h
  ·rename_i T a H1 aA;split at h
   ·split at h
    ·cases h
    ·simp only[bE,dV]at h;obtain⟨rfl,rfl⟩:=h;rw[(l3 aA).2.1];exact(sR aA).le
   ·split at h
    ·cases h
    ·split at h
     ·cases h
     ·simp only[bE,dV]at h;obtain⟨rfl,rfl⟩:=h;rw[(l3 aA).2.1];exact(sR aA).le
theorem Aa{f:bg->ae->Option (g_×bg×ae)}(aB:∀R H ex bk H',f R H=A (ex,bk,H')->H.next<=H'.next):∀{n:Nat} {R:bg} {H:ae} {ex:g_} {bk:bg} {H':ae},
  iter f n R H=A (ex,bk,H')->H.next<=H'.next
 |0,_,_,_,_,_,h=>by cases h
 |n+1,R,H,ex,bk,H',h=>by
  simp only[iter]at h;split at h
  ·rename_i a H1 ah;exact Nat.le_trans (aB _ _ _ _ _ ah) (Aa aB h)
  grind
theorem Ms(j:Et jF):∀(c:Code) {R:bg} {H:ae} {ex:g_} {bk:bg} {H':ae},dg jF N c R H=A (ex,bk,H')->H.next<=H'.next:=by
 intro c
 induction c with
 |skip=>grind[dg]
 |region id ops d=>
  intro R H ex bk H' h;simp only[dg]at h;split at h
  ·rename_i k H1 ah;simp only[bE,dV]at h;obtain⟨_,_,rfl⟩:=h;exact j _ _ _ _ _ _ ah
  grind
 |seq a b g i=>
  grind[dg]
 |cond c a b g i=>
  intro R H ex bk H' h;simp only[dg]at h;split at h
  ·grind
  ·grind
  grind
 |block id b e=>
  grind[dg]
 |loop b e=>
  intro R H ex bk H' h;simp only[dg]at h;exact Aa aa h
 |exit id=>grind[dg]
 |ret=>grind[dg]
 |label l=>grind[dg]
 |goto l=>intro R H ex bk H' h;cases h
 |scope b e=>intro R H ex bk H' h;cases h
 |rangeFunc f dt a b g i=>intro R H ex bk H' h;cases h
 |refuse y=>intro R H ex bk H' h;cases h
theorem SL(j:e_ E P call){ops:Array Oper}{Q:Exit->Act->World->Prop}:∀{os:List Oper} {R bk:bg} {H H':ae} {ρ:Env} {w:World} {a:Act},jI P call ops os R H=A (bk,H')->
  Rel ρ H w->jL E ρ H.next H'.next->e1 ρ R a->(∀d bY c,e1 d bk bY->Step ρ H w d H' c->Q .normal bY c)->wpList P ops Q os a w
 |[],R,bk,H,H',ρ,w,a,h,e,_,au,i=>by
  simp only[jI,bE,dV]at h;obtain⟨rfl,rfl⟩:=h;exact i ρ a w au (.refl e)
 |o::os,R,bk,H,H',ρ,w,a,h,e,aB,au,i=>by
  simp only[jI]at h;split at h
  ·cases h
  ·rename_i k m;split at h
   ·cases h
   ·rename_i ab p;have r:=Jm h;have ad:=FI m;have go:∀x c d,bC d k.val x->Step ρ H w d (k.heap H) c->wpList P ops Q os (a.put o.dst x) c:=λx c d aF g=>
     SL j h g.rel (aB.after g) ((au.mono g.le).put p aF) λW n V ah ai=>i W n V ah (g.trans ai)
    unfold wpList;rw[KP au o];rcases tf m with⟨hw,f⟩|⟨hw,rfl⟩
    ·rw[hw];simp only[if_true];refine .inl ?_;cases k with
     |skip=>exact f.elim
     |pure v=>exact Qy f au λx aF=>go x w ρ aF (.refl e)
     |read v=>exact QO e f au λx aF=>go x w ρ aF (.refl e)
     |new v b=>
      have q:ρ H.next=none:=aB.new _ aa (by grind[K.heap,ae.fW])
      refine PD f au q λx c d loc u G L M N O S T U y z B=>go x c d u ?_
      have s:gR ρ H w (H.next+1) (λ_=>Z) ρ H w:=gR.start e λl ah ai=>by
       grind
      have t:=s.early aa aa rfl G L M N O S T U y z B;exact(t.uH (b:=b) aW).done rfl
     |cV v Y=>
      exact Mj j e (aB.left r) f au λx c d ah ai=>go x c d ah ai
    ·rw[hw];simp only[Bool.false_eq_true,if_false];exact go undef w ρ (.tuple [] [] .nil) (.refl e)
def Ke(E:Env)(P:Program)(jF:zf):Prop:=∀(id:Nat) (ops:Array Oper) (d:Bool) (R:bg) (H:ae) (bk:bg) (H':ae),jF ops d R H=A (bk,H')->(d=J->rC ops (cQ ops) (order ops)=J)->∀(ρ:Env) (w:World) (a:Act) (Q:Exit->Act->World->Prop),Rel ρ H w->jL E ρ H.next H'.next->e1 ρ R a->(∀c bY b,e1 c bk bY->Step ρ H w c H' b->Q .normal bY b)->(Code.region id ops d).wp P Q a w
theorem QS(hm:P.follows .mixedOrders=J)(e:e_ E P call):Ke E P (hP P call):=by
 intro id ops d R H bk H' h f ρ w a Q c aB au b;unfold hP at h;split at h
 ·grind[wp_region_list,SL]
 ·split at h
  ·cases h
  ·rename_i T j H1 aA;split at h
   ·grind[ajt,aju]
   ·split at h
    ·cases h
    ·rename_i g;split at h
     ·cases h
     ·rename_i i;simp only[bE,dV]at h;obtain⟨rfl,rfl⟩:=h;exact alh hm e ⟨aA,f rfl,g,i⟩ c aB au b
theorem ali{c:Code}{Q:Exit->Act->World->Prop}(j:Nat->Act->World->Prop)(round:∀n a w,j n a w->∃m,n=m+1/\c.wp P (Exit.then (j m) Q) a w){n:Nat}{a:Act}{w:World}(s:j n a w):(Code.loop c).wp P Q a w:=by
 intro b k cs;have key:∀n a w,j n a w->∃e bY i,Q e bY i/\Arrives P (lone (b.at a (.code c:: .inLoop c::k)) cs w) b k cs e bY i:=by
  intro n
  induction n with
  |zero=>grind
  |succ n t=>
   intro a w h;obtain⟨m,hm,hw⟩:=round _ a w h;obtain rfl:m=n:=aa;obtain⟨e,f,g,aH,d⟩:=hw b (.inLoop c::k) cs;cases e with
   |normal=>
    obtain⟨p,o,u,r,q⟩:=t f g aH;exact⟨p,o,u,r,.of_steps (Steps.trans d (.one step_inLoop)) q⟩
   |exit id=>exact⟨_,f,g,aH,.pass (x:= .inLoop c) rfl (λ_ _=> .inl aW) d⟩
   |goto l=>exact⟨_,f,g,aH,.pass (x:= .inLoop c) rfl (λ_ _=> .inl aW) d⟩
   |ret=>exact⟨_,f,g,aH,.pass (x:= .inLoop c) rfl (λ_ _=> .inl aW) d⟩
   |panic v=>exact⟨_,f,g,aH,.pass (x:= .inLoop c) rfl (λ_ _=> .inl aW) d⟩
   |outgrown=>exact⟨_,f,g,aH,.pass (x:= .inLoop c) rfl (λ_ _=> .inl aW) d⟩
 obtain⟨e,bY,i,aH,d⟩:=key _ a w s;exact⟨e,bY,i,aH,.of_steps (.one step_loop) d⟩
def El(E:Env)(P:Program)(c:Code)(f:bg->ae->Option (g_×bg×ae)):Prop:=∀(R:bg) (H:ae) (ex:g_) (bk:bg) (H':ae),f R H=A (ex,bk,H')->∀(ρ:Env) (w:World) (a:Act) (Q:Exit->Act->World->Prop),Rel ρ H w->jL E ρ H.next H'.next->e1 ρ R a->(∀d bY b,e1 d bk bY->Step ρ H w d H' b->Q ex.Fj bY b)->c.wp P Q a w
theorem aa6{c:Code}{f:bg->ae->Option (g_×bg×ae)}(aB:El E P c f)(p:∀R H ex bk H',f R H=A (ex,bk,H')->H.next<=H'.next)(n:Nat):El E P (.loop c) (iter f n):=by
 intro R H ex bk H' h ρ w a Q v o au u;refine ali (n:=n) (λn e g=>∃i H1 d,iter f n i H1=A (ex,bk,H')/\Step ρ H w d H1 g/\e1 d i e) ?_ ⟨R,H,ρ,h,.refl v,au⟩;rintro n e g ⟨i,H1,d,ah,b,q⟩;cases n with
 |zero=>cases ah
 |succ n=>
  refine⟨n,rfl,?_⟩;have hle:=Aa p ah;simp only[iter]at ah;split at ah
  ·rename_i t s ai;have x:=Aa p ah;refine aB _ _ _ _ _ ai d g e _ b.rel (jL.left (jL.after o b) x) q λl m r j k=> ?_
   exact⟨t,s,l,ah,b.trans k,j⟩
  ·rename_i y;refine aB _ _ _ _ _ ah d g e _ b.rel (jL.after o b) q λl m r j k=> ?_
   have:=u l m r j (b.trans k);cases ex with
   |normal=>grind
   |exit id=>exact this
   |ret=>exact this
theorem Mu(t:Et jF)(M:Ke E P jF):∀(c:Code),m4 c=J->El E P c (dg jF N c):=by
 intro c
 induction c with
 |skip=>
  intro _ R H ex bk H' h ρ w a Q e aB au g;simp only[dg,bE,dV]at h;obtain⟨rfl,rfl,rfl⟩:=h;exact wp_skip (g ρ a w au (.refl e))
 |region id ops d=>
  intro i R H ex bk H' h ρ w a Q e aB au g;simp only[dg]at h;split at h
  ·rename_i s H1 ah;simp only[bE,dV]at h;obtain⟨rfl,rfl,rfl⟩:=h;exact M id ops d R H _ _ ah (λG=>by subst G;exact i) ρ w a Q e aB au g
  grind
 |seq x y q r=>
  intro i R H ex bk H' h ρ w a Q e aB au g;simp only[m4,Bool.and_eq_true]at i;simp only[dg]at h;refine wp_seq ?_;split at h
  ·rename_i s H1 ah;have hle:=Ms t y h;refine q i.1 _ _ _ _ _ ah ρ w a _ e (aB.left hle) au λo k n m j=> ?_
   exact r i.2 _ _ _ _ _ h o n k Q j.rel (aB.after j) m λT u S v B=>g T u S v (j.trans B)
  ·rename_i L;refine q i.1 _ _ _ _ _ h ρ w a _ e aB au λo k n m j=> ?_
   have:=g o k n m j;cases ex with
   |normal=>grind
   |exit id=>exact this
   |ret=>exact this
 |cond c x y q r=>
  intro i R H ex bk H' h ρ w a Q e aB au g;simp only[m4,Bool.and_eq_true]at i;simp only[dg]at h;split at h
  ·rename_i aA;have ah:=eE au aA;refine wp_cond_true (by generalize a.eval c=z at ah;cases ah;rfl) ?_;exact q i.1 _ _ _ _ _ h ρ w a Q e aB au g
  ·rename_i aA;have ah:=eE au aA;refine wp_cond_false (by generalize a.eval c=z at ah;cases ah;rfl) ?_;exact r i.2 _ _ _ _ _ h ρ w a Q e aB au g
  grind
 |block id b p=>
  intro i R H ex bk H' h ρ w a Q e aB au g;simp only[dg]at h;refine wp_block ?_;split at h
  ·rename_i O s H1 ah;split at h
   ·rename_i K;simp only[bE,dV]at h;obtain⟨rfl,rfl,rfl⟩:=h;refine p i _ _ _ _ _ ah ρ w a _ e aB au λo k n m j=> ?_
    grind[g_.Fj,Exit.inBlock]
   ·rename_i K;simp only[bE,dV]at h;obtain⟨rfl,rfl,rfl⟩:=h;refine p i _ _ _ _ _ ah ρ w a _ e aB au λo k n m j=> ?_
    grind[g_.Fj,Exit.inBlock]
  ·rename_i L;refine p i _ _ _ _ _ h ρ w a _ e aB au λo k n m j=> ?_
   have:=g o k n m j;cases ex with
   |normal=>exact this
   |exit O=>grind
   |ret=>exact this
 |loop b p=>
  intro i R H ex bk H' h ρ w a Q e aB au g;simp only[dg]at h;exact aa6 (p i) (λ_ _ _ _ _ h=>Ms t b h) N R H ex bk H' h ρ w a Q e aB au g
 |exit id=>
  intro _ R H ex bk H' h ρ w a Q e aB au g;simp only[dg,bE,dV]at h;obtain⟨rfl,rfl,rfl⟩:=h;exact wp_exit (g ρ a w au (.refl e))
 |ret=>
  intro _ R H ex bk H' h ρ w a Q e aB au g;simp only[dg,bE,dV]at h;obtain⟨rfl,rfl,rfl⟩:=h;exact wp_ret (g ρ a w au (.refl e))
 |label l=>
  intro _ R H ex bk H' h ρ w a Q e aB au g;simp only[dg,bE,dV]at h;obtain⟨rfl,rfl,rfl⟩:=h;exact wp_label (g ρ a w au (.refl e))
 |goto l=>intro _ R H ex bk H' h;cases h
 |scope b p=>intro _ R H ex bk H' h;cases h
 |rangeFunc f dt a b q r=>intro _ R H ex bk H' h;cases h
 |refuse y=>intro _ R H ex bk H' h;cases h
theorem Gx:∀(args:List af) (t:bJ af) (i d:Nat),(bg.vE t i args).get d=if i<=d/\d<i+args.length then args[d-i]? else t.get d
 |[],t,i,d=>by grind[bg.vE]
 |v::ak,t,i,d=>by
  simp only[bg.vE];rw[Gx ak];grind[bJ.vk,bJ.s_]
theorem Mp{ρ:Env}{args:List af}{xs:List Value}(h:bZ ρ args xs)(n:Nat):e1 ρ (bg.enter n args) {tmps:=xs.toArray++Array.replicate (n-xs.toArray.size) undef,defers:=[]}:=by
 have ar:=h.length;refine⟨by grind[bg.enter],λd=> ?_,rfl⟩;unfold bg.get bg.enter;simp only
 rw[Gx];rw[Array.getD_eq_getD_getElem?];by_cases b:d<args.length
 ·rw[if_pos aa];obtain⟨v,a⟩:∃v,args[d]? =A v:=⟨args[d],al⟩;obtain⟨x,aF,c⟩:=h.get d v a;grind
 ·rw[if_neg aa];have ah:((xs.toArray++Array.replicate (n-xs.toArray.size) undef)[d]?).getD undef=undef:=by
   grind
  rw[ah,bJ.s8];exact .tuple [] [] .nil
def vU(tmps:Array Value):ResultVar->Sem Value
 | .tmp t=>pure (tmps.getD t undef)
 | .cell b t=>do loadVar t (<-asAddr (tmps.getD b undef))
theorem Vy{ρ:Env}{H:ae}{w:World}{R:bg}{a:Act}(g:Rel ρ H w)(au:e1 ρ R a){r:ResultVar}{v:af}(h:sK P R H r=A v):
  ∃x,(vU a.tmps r).run P w= .ok x w/\bC ρ v x:=by
 cases r with
 |tmp t=>
  simp only[sK,bE]at h;subst h;exact⟨_,rfl,au.get t⟩
 |cell b t=>
  simp only[sK]at h;obtain⟨x,e,f⟩:=EE g h (au.get b);refine⟨x,?_,f⟩;have ai:=au.get b;simp only[vU];generalize a.tmps.getD b undef=z at ai e ⊢;have d:∃l i c,R.get b= .ptr l i c:=by
   generalize R.get b=u at h;unfold aJ at h;grind
  obtain⟨l,i,c,d⟩:=d;rw[d]at ai;cases ai;grind[Instr.loadAt,Instr.sureAddr,asAddr]
theorem KE{ρ:Env}{H:ae}{w:World}{R:bg}{a:Act}(b:Rel ρ H w)(au:e1 ρ R a):∀{rs:List ResultVar} {ak:List af},jt P R H rs=A ak->
  ∃xs:List Value,(rs.mapM (vU a.tmps)).run P w= .ok xs w/\bZ ρ ak xs
 |[],ak,h=>by simp only[jt,bE]at h;subst h;exact⟨[],by simp[Sem.run_pure],.nil⟩
 |r::rs,ak,h=>by
  simp only[jt]at h;split at h
  ·rename_i v j e f;simp only[bE]at h;subst h;obtain⟨x,g,c⟩:=Vy b au e;obtain⟨xs,i,d⟩:=KE b au f;refine⟨x::xs,?_,.cons _ _ _ _ c d⟩;rw[List.mapM_cons];grind[Sem.run_bind,Result.andThen_ok,Sem.run_pure]
  grind
theorem aeq(fn:Func)(tmps:Array Value):results fn tmps=(do
  let ak<-fn.results.mapM (vU tmps)
  pure (if h:ak.size=1 then ak[0]else .tuple ak)):=by
 unfold results
 congr 1
theorem QW{ρ:Env}{H:ae}{w:World}{R:bg}{a:Act}(c:Rel ρ H w)(au:e1 ρ R a){fn:Func}{ak:List af}(h:jt P R H fn.results.toList=A ak):
  ∃x,(results fn a.tmps).run P w= .ok x w/\bC ρ (lX ak) x:=by
 obtain⟨xs,d,b⟩:=KE c au h;have hm:(fn.results.mapM (vU a.tmps)).run P w= .ok xs.toArray w:=by
  grind[Array.mapM_eq_mapM_toList,Sem.run_map,Result.andThen_ok]
 refine⟨if h:xs.toArray.size=1 then xs.toArray[0]else .tuple xs.toArray,?_,?_⟩
 ·grind[aeq,Sem.run_bind,Result.andThen_ok,Sem.run_pure]
 ·cases b with
  |nil=>exact .tuple [] [] .nil
  |cons v x f j ah ai=>
   cases ai with
   |nil=>exact ah
   |cons e i g k ay aM=>
    simp only[lX];rw[dif_neg aW];exact .tuple _ _ (.cons _ _ _ _ ah (.cons _ _ _ _ ay aM))
structure kD(P:Program):Prop where
 mixed:P.follows .mixedOrders=true
 names:∀fn∈P.funcs,(fn.name== "runtime.NumGoroutine")=false
 Qo:∀(f:Nat) (fn:Func) (c:Code),P.funcs[f]? =some fn->fn.body=some c->m4 c=true
theorem vh(a:kD P)(e:e_ E P aD):∀n,e_ E P (jx P aD N n)
 |0=>λg args H v H' h=>by cases h
 |n+1=>by
  intro g args H v H' h ρ w xs f aB i aL next j
  simp only[jx]at h;split at h
  ·rename_i r au;cases h;exact e g args H v H' au ρ w xs f aB i aL next j
  split at h
  ·cases h
  ·rename_i fn b;split at h
   ·cases h
   ·rename_i c aA;split at h
    ·cases h
    ·rename_i ex R H1 o;have s:=vh a e n;have m:=Mu (N:=N) QQ (QS a.mixed s) c (a.Qo _ _ _ b aA);have y:(fn.name== "runtime.NumGoroutine")=false:=a.names fn (Array.mem_of_getElem? b);have p:(callFunc g xs.toArray).run P w= .ok (.enter g xs.toArray) w:=by
      unfold callFunc;simp[b,aA];grind
     unfold pt;rw[p];simp only
     split at h
     ·cases h
     ·rename_i z;split at h
      ·cases h
      ·rename_i ak q;simp only[bE,dV]at h;obtain⟨rfl,rfl⟩:=h;refine calls_of_wp b aA (m _ _ _ _ _ o ρ w _ _ f aB (Mp i fn.ntmps) λu bY t ah ai=> ?_);obtain⟨x,d,l⟩:=QW ai.rel ah q;have k:=j x t u l ai;cases ex with
       |normal=>exact⟨ah.none,x,d,k⟩
       |ret=>exact⟨ah.none,x,d,k⟩
       |exit id=>grind
end
section
variable {E:Env}{P:Program}{aD:ao}
def qQ(P:Program)(aD:ao)(f:Nat)(args:List af)(H:ae)(r:af×ae):Prop:=∃k,∀N,k<=N->∀n,k<=n->jx P aD N n f args H=A r
def qQ.uniq{f:Nat}{args:List af}{H:ae}{r s:af×ae}(h:qQ P aD f args H r)(cD:qQ P aD f args H s):r=s:=by
 obtain⟨k,b⟩:=h;obtain⟨j,a⟩:=cD;have ah:=b (max k j) (Nat.le_max_left ..) (max k j) (Nat.le_max_left ..);rw[a (max k j) (Nat.le_max_right ..) (max k j) (Nat.le_max_right ..)]at ah;exact(Option.some.inj ah).symm
open Classical in
noncomputable def aK(P:Program)(aD:ao):ao:=λf args H=>if h:∃r,qQ P aD f args H r then A h.choose else Z
theorem Mx{f:Nat}{args:List af}{H:ae}{r:af×ae}(h:aK P aD f args H=A r):qQ P aD f args H r:=by
 unfold aK at h;split at h
 ·grind
 grind
def OE{f:Nat}{args:List af}{H:ae}{r:af×ae}(h:qQ P aD f args H r):aK P aD f args H=A r:=by
 unfold aK;have aF:∃r,qQ P aD f args H r:=⟨r,h⟩;rw[dif_pos aF];exact congrArg A (aF.choose_spec.uniq h)
def XJ(b:kD P)(a:e_ E P aD):e_ E P (aK P aD):=by
 intro g args H v H' h;obtain⟨k,c⟩:=Mx h;exact vh b a k g args H v H' (c k (ds _) k (ds _))
theorem aje{o:Op}{R:bg}{H:ae}{x:K}(h:h9 P (aK P aD) o R H=A x):∃k,∀N,k<=N->∀n,k<=n->h9 P (jx P aD N n) o R H=A x:=by
 unfold h9 at h;unfold h9;split at h
 ·exact⟨0,λ_ _ _ _=>h⟩
 ·exact⟨0,λ_ _ _ _=>h⟩
 ·exact⟨0,λ_ _ _ _=>h⟩
 ·exact⟨0,λ_ _ _ _=>h⟩
 ·exact⟨0,λ_ _ _ _=>h⟩
 ·split at h
  ·split at h
   ·rename_i g ak aA;cases a:aK P aD g ak H with
    |none=>rw[a]at h;cases h
    |some r=>
     obtain⟨k,c⟩:=Mx a;refine⟨k,λN b n aL=> ?_⟩;grind
   grind
  grind
def N0{ops:Array Oper}{o:Oper}{R:bg}{H:ae}{x:K}(h:gB P (aK P aD) ops o R H=A x):∃k,∀N,k<=N->∀n,k<=n->gB P (jx P aD N n) ops o R H=A x:=by
 unfold gB at h;unfold gB;split at h
 ·rename_i hw;obtain⟨k,a⟩:=aje h;exact⟨k,aa⟩
 ·exact⟨0,λ_ _ _ _=>h⟩
theorem SK{ops:Array Oper}:∀{os:List Oper} {R:bg} {H:ae} {x:bg×ae},jI P (aK P aD) ops os R H=A x->∃k,∀N,k<=N->∀n,k<=n->jI P (jx P aD N n) ops os R H=A x
 |[],R,H,x,h=>⟨0,λ_ _ _ _=>h⟩
 |o::os,R,H,x,h=>by
  simp only[jI]at h;split at h
  ·cases h
  ·rename_i y a;split at h
   ·cases h
   ·rename_i bk c;obtain⟨k,e⟩:=N0 a;obtain⟨j,d⟩:=SK h;refine⟨max k j,λN b n aL=> ?_⟩;grind[jI]
theorem Lg{ops:Array Oper}:∀{is:List Nat} {R:bg} {H:ae} {x:List bN×bg×ae},canRun P (aK P aD) ops is R H=A x->∃k,∀N,k<=N->∀n,k<=n->canRun P (jx P aD N n) ops is R H=A x
 |[],R,H,x,h=>⟨0,λ_ _ _ _=>h⟩
 |i::is,R,H,x,h=>by
  simp only[canRun]at h;split at h
  ·cases h
  ·rename_i o aX;split at h
   ·cases h
   ·rename_i y a;split at h
    ·cases h
    ·rename_i bk c;split at h
     ·cases h
     ·rename_i T br c_ aA;obtain⟨k,e⟩:=N0 a;obtain⟨j,d⟩:=Lg aA;refine⟨max k j,λN b n aL=> ?_⟩;grind[canRun]
theorem aej{ops:Array Oper}{d:Bool}{R:bg}{H:ae}{x:bg×ae}(h:hP P (aK P aD) ops d R H=A x):∃k,∀N,k<=N->∀n,k<=n->hP P (jx P aD N n) ops d R H=A x:=by
 unfold hP at h;unfold hP;split at h
 ·obtain⟨k,a⟩:=SK h;exact⟨k,aa⟩
 ·split at h
  ·cases h
  ·rename_i T bk H' aA;obtain⟨k,a⟩:=Lg aA;refine⟨k,λN b n aL=> ?_⟩;grind
theorem NN{f:bg->ae->Option (g_×bg×ae)}:∀{n m:Nat} {R:bg} {H:ae} {x:g_×bg×ae},iter f n R H=A x->n<=m->iter f m R H=A x
 |0,_,_,_,_,h,_=>by cases h
 |n+1,0,_,_,_,_,hm=>aa
 |n+1,m+1,R,H,x,h,hm=>by
  simp only[iter]at h ⊢;split at h
  ·rename_i bk H' he;exact NN h aa
  omega
theorem NM{f:bg->ae->Option (g_×bg×ae)}{g:Nat->Nat->bg->ae->Option (g_×bg×ae)}(aB:∀R H x,f R H=A x->∃k,∀N,k<=N->∀n,k<=n->g N n R H=A x):
  ∀{M:Nat} {R:bg} {H:ae} {x:g_×bg×ae},iter f M R H=A x->∃k,∀N,k<=N->∀n,k<=n->iter (g N n) M R H=A x
 |0,_,_,_,h=>by cases h
 |M+1,R,H,x,h=>by
  simp only[iter]at h;split at h
  ·rename_i bk H' he;obtain⟨k,b⟩:=aB _ _ _ he;obtain⟨j,c⟩:=NM aB h;refine⟨max k j,λN a n aL=> ?_⟩;grind[iter]
  ·rename_i d;obtain⟨k,b⟩:=aB _ _ _ h;refine⟨k,λN a n aL=> ?_⟩;simp only[iter,b N a n aL];split
   ·grind
   ·rfl
theorem XF{M:Nat}:∀(c:Code) {R:bg} {H:ae} {x:g_×bg×ae},dg (hP P (aK P aD)) M c R H=A x->∃k,∀N,k<=N->∀n,k<=n->dg (hP P (jx P aD N n)) N c R H=A x:=by
 intro c
 induction c with
 |skip=>intro R H x h;exact⟨0,λ_ _ _ _=>h⟩
 |region id ops d=>
  intro R H x h;simp only[dg]at h;split at h
  ·rename_i q H1 ah;obtain⟨k,i⟩:=aej ah;refine⟨k,λN e n aL=> ?_⟩;grind[dg]
  grind
 |seq a b m p=>
  intro R H x h;simp only[dg]at h;split at h
  ·rename_i q H1 ah;obtain⟨k,i⟩:=m ah;obtain⟨j,s⟩:=p h;refine⟨max k j,λN e n aL=> ?_⟩;grind[dg]
  ·rename_i r;obtain⟨k,i⟩:=m h;refine⟨k,λN e n aL=> ?_⟩;simp only[dg,i N e n aL];split
   ·grind
   ·rfl
 |cond c a b m p=>
  intro R H x h;simp only[dg]at h;split at h
  ·rename_i aA;obtain⟨k,i⟩:=m h;refine⟨k,λN e n aL=> ?_⟩;grind[dg]
  ·rename_i aA;obtain⟨k,i⟩:=p h;refine⟨k,λN e n aL=> ?_⟩;grind[dg]
  grind
 |block id b o=>
  intro R H x h;simp only[dg]at h;split at h
  ·rename_i t q H1 ah;obtain⟨k,i⟩:=o ah;refine⟨k,λN e n aL=> ?_⟩;grind[dg]
  ·rename_i r;obtain⟨k,i⟩:=o h;refine⟨k,λN e n aL=> ?_⟩;simp only[dg,i N e n aL];split
   ·grind
   ·rfl
 |loop b o=>
  intro R H x h;simp only[dg]at h;obtain⟨k,i⟩:=NM (g:=λN n=>dg (hP P (jx P aD N n)) N b) aa h;refine⟨max k M,λN e n aL=> ?_⟩;grind[dg,NN]
 |exit id=>intro R H x h;exact⟨0,λ_ _ _ _=>h⟩
 |ret=>intro R H x h;exact⟨0,λ_ _ _ _=>h⟩
 |label l=>intro R H x h;exact⟨0,λ_ _ _ _=>h⟩
 |goto l=>intro R H x h;cases h
 |scope b o=>intro R H x h;cases h
 |rangeFunc f dt a b m p=>intro R H x h;cases h
 |refuse y=>intro R H x h;cases h
theorem Mw{f:Nat}{args:List af}{H H':ae}{fn:Func}{c:Code}{M:Nat}{ex:g_}{R:bg}{ak:List af}(b:aD f args H=Z)(aB:P.funcs[f]? =A fn)(d:fn.body=A c)
  (h:dg (hP P (aK P aD)) M c (bg.enter fn.ntmps args) H=A (ex,R,H')) (hex:∀id,ex≠ .exit id) (au:jt P R H' fn.results.toList=A ak):aK P aD f args H=A (lX ak,H'):=by
 obtain⟨k,e⟩:=XF c h;refine OE ⟨k+1,λN a n aL=> ?_⟩;cases n with
 |zero=>omega
 |succ n=>
  grind[jx]
def XK{f:Nat}{args:List af}{H:ae}{r:af×ae}(h:aD f args H=A r):aK P aD f args H=A r:=by
 refine OE ⟨1,λN a n aL=> ?_⟩;cases n with
 |zero=>omega
 |succ n=>simp only[jx,h]
end
abbrev O:=Option (af×ae)
abbrev br:=Nat->af
def dF(R:br)(dst:Option Nat)(v:af):br:=match dst with
 |none=>R
 |some d=>λe=>bif Nat.beq e d then v else R e
def bn(R:br):Operand->Option af
 | .tmp t=>A (R t)
 | .const v=>vF v
 | .global _=>Z
 | .func f=>A (.func (.func f) [] [])
def fu(R:br):List Operand->Option (List af)
 |[]=>A []
 |x::xs=>(bn R x).bind λv=>(fu R xs).bind λak=>A (v::ak)
def jg(R:br):List (Nat×Operand)->Option (List (Nat×af))
 |[]=>A []
 |(i,x)::xs=>(bn R x).bind λv=>(jg R xs).bind λak=>A ((i,v)::ak)
def j1(R:br):Option Operand->Option (Option af)
 |none=>A Z
 |some x=>(bn R x).bind λv=>A (A v)
def dA(c:af)(a b:Option af):Option af:=match c with
 | .bool t=>bif t then a else b
 |_=>Z
def pH(P:Program)(t:TypeId)(c:Bool)(a b:af):Bool:=
 match a,b with
 | .nilIface,.nilIface=>c
 | .agg _,.agg _=> !P.eqGuardType P.depth t
 |_,_=>J
def bx(P:Program)(op:BinOp)(t:TypeId)(c:Bool)(x y:af):Option af:=
 match x,y with
 | .int k a,.int d b=>
  (match op with
  | .shl=>tc .shl k a b
  | .shr=>tc .shr k a b
  |op=>if k=d then l9 op k a b else Z)
 | .str a,.str b=>D3 op a b
 |x,y=>
  (match op with
  | .eql=>if pH P t c x y then(js P 10000 t x y).map .bool else Z
  | .neq=>if pH P t c x y then(js P 10000 t x y).map λb=> .bool (!b)else Z
  |_=>Z)
theorem XB(P:Program)(t:TypeId)(x y:Operand)(u v:af):pH P t (isConst x||isConst y) u v=q8 P t x y u v:=by
 unfold pH q8;grind
def Zf(P:Program)(op:BinOp)(t:TypeId)(x y:Operand)(u v:af):bx P op t (isConst x||isConst y) u v=uU P op t x y u v:=by
 unfold bx uU;grind[XB]
def hK(P:Program)(o:Op)(R:br):Option af:=
 match o with
 | .move x=>bn R x
 | .assign x=>bn R x
 | .pick c a b=>(bn R c).bind λu=>dA u (bn R a) (bn R b)
 | .build t dt=>(jg R dt.toList).bind (ey P t)
 | .nilCheck x=>(bn R x).bind dS
 | .binOp op t x y _=>(bn R x).bind λu=>(bn R y).bind λv=>bx P op t (isConst x||isConst y) u v
 | .unOp op _ x=>(bn R x).bind (jX op)
 | .convert s d x=>(bn R x).bind (sF P s d)
 | .makeInterface t x=>(bn R x).bind (ox P t)
 | .makeFunc fn f c=>(fu R f.toList).bind λfs=>(fu R c.toList).bind λcs=>A (.func fn fs cs)
 | .slice t x gr aP e=>(bn R x).bind λv=>(j1 R gr).bind λl=>(j1 R aP).bind λh=>(j1 R e).bind λm=>gI P t v l h m
 | .fieldAddr t x f=>(bn R x).bind λv=>bP P t v f
 | .field t x f=>(bn R x).bind λv=>pw P t v f
 | .indexAddr t x i=>(bn R x).bind λu=>(bn R i).bind λv=>ct P t u v
 | .index t x i=>(bn R x).bind λu=>(bn R i).bind λv=>qS P t u v
 | .extract x i=>(bn R x).bind λv=>jd v i
 | .typeAssert x _ t ok=>(bn R x).bind (sD P t ok)
 | .call c=>match c.callee with
  | .builtin b=>(fu R c.args.toList).bind (bD P .empty b c.argTypes.toList)
  |_=>Z
 |_=>Z
def hL(P:Program)(o:Op)(R:br)(H:ae):Option af:=
 match o with
 | .load t x=>(bn R x).bind (aJ P H t)
 | .lookup t x k ok=>(bn R x).bind λu=>(bn R k).bind λv=>mC P H t u v ok
 | .convert s d x=>(bn R x).bind (uW P H s d)
 | .call c=>match c.callee with
  | .builtin b=>(fu R c.args.toList).bind (bD P H b c.argTypes.toList)
  |_=>Z
 |_=>Z
def fl(l:Nat)(v:af):Option (af×bA):=bif v.cells.all af.one then A (.ptr l 0 0,.row I v.cells.length [v.cells])else Z
def mG(ot:Option TypeId)(l:Nat)(v:af):Option (af×bA):=bif v.cells.all af.one then A (.ptr l 0 0,eT ot v.cells.length [v.cells])else Z
def gu(P:Program)(l:Nat)(t:TypeId)(len:Nat)(parts:List (Nat×af)):Option (af×bA):=
 match P.underlying t with
 |some (.slice e)=>
  (match cM P e,gb P e with
  |some a,A z=>
   bif decide (len*a<=16777216/\z.cells.length=a/\z.cells.all af.one=J)then
    (lZ a (List.replicate len z.cells) parts).bind λels=>A (.az l 0 len a (A len),.row I a els)
   else Z
  |_,_=>Z)
 |_=>Z
def iQ(P:Program)(o:Op)(R:br)(l:Nat):Option (af×bA):=
 match o with
 | .alloc t=>(gb P t).bind (mG (lz P t) l)
 | .box t x=>(bn R x).bind (mG (lz P t) l)
 | .buildSlice t n dt=>(jg R dt.toList).bind (gu P l t n)
 | .makeMap _ Z=>A (.map l,.map [])
 | .makeSlice t x c=>(bn R x).bind λu=>(bn R c).bind λv=>g5 (h0 P ⟨.leaf,l⟩ t u v) l
 |_=>Z
def lo(P:Program)(o:Op)(R:br)(H:ae):Option (af×ae):=
 match o with
 | .store t x y=>(bn R x).bind λu=>(bn R y).bind λv=>(cz P H t u v).bind λH'=>A (.tuple [],H')
 | .mapUpdate t m k x=>(bn R m).bind λu=>(bn R k).bind λv=>(bn R x).bind λz=>(jU P H t u v z).bind λH'=>A (.tuple [],H')
 | .insert t m k x=>(bn R m).bind λu=>(bn R k).bind λv=>(bn R x).bind λz=>(jU P H t u v z).bind λH'=>A (.tuple [],H')
 | .call c=>match c.callee,c.args.toList with
  | .builtin .append,[s,x]=>(bn R s).bind λu=>(bn R x).bind λv=>ej P H c.argTypes.toList u v
  | .builtin .clear,[x]=>(bn R x).bind λu=>(zl P H c.argTypes.toList u).bind λH'=>A (.tuple [],H')
  |_,_=>Z
 |_=>Z
def pB(f:af)(ak:List af):Option (Nat×List af):=match f with
 | .func (.func g) first captured=>A (g,first++ak++captured)
 |_=>Z
def jB(P:Program)(H:ae)(r:af)(name:String)(ak:List af):Option (Nat×List af):=(nD P H r name).bind λp=>A (p.1,p.2::ak)
def q9(P:Program)(H:ae)(R:br)(c:Call):Option (Nat×List af):=
 match c.callee with
 | .value f=>(bn R f).bind λu=>(fu R c.args.toList).bind λak=>pB u ak
 | .invoke r name=>(bn R r).bind λu=>(fu R c.args.toList).bind λak=>jB P H u name ak
 |_=>Z
def iZ(a b:Option af)(k:K->O):O:=match a with
 |some v=>k (.pure v)
 |none=>b.bind λv=>k (.read v)
def jK(r:Option (af×bA))(k:K->O):O:=match r with
 |some (v,b)=>k (.new v b)
 |none=>Z
def eh(H:ae)(r:O)(k:K->O):O:=match r with
 |some (v,H')=>bif decide (H.next<=H'.next)then k (.cV v H')else Z
 |none=>Z
def dH(P:Program)(call:ao)(o:Op)(R:br)(H:ae)(k:K->O):O:=
 match cls o with
 | .pure=>(hK P o R).bind λv=>k (.pure v)
 | .read=>(hL P o R H).bind λv=>k (.read v)
 | .both=>iZ (hK P o R) (hL P o R H) k
 | .new=>jK (iQ P o R H.next) k
 | .write=>eh H (lo P o R H) k
 | .call=>match o with
  | .call c=>(q9 P H R c).bind λp=>eh H (call p.1 p.2 H) k
  |_=>Z
def cb(b:af)(want:Bool)(m:(K->O)->O)(k:K->O):O:=match b with
 | .bool t=>bif t==want then m k else k .skip
 |_=>k .skip
def mJ(P:Program)(call:ao)(ops:Array Oper)(o:Oper)(R:br)(H:ae)(k:K->O):O:=
 match o.guard with
 |none=>dH P call o.op R H k
 |some (j,want)=>match ops[j]? with
  |some q=>(match q.dst with
   |some d=>cb (R d) want (dH P call o.op R H) k
   |none=>k .skip)
  |none=>k .skip
def ks(P:Program)(call:ao)(ops:Array Oper):List Oper->br->ae->(br->ae->O)->O
 |[],R,H,k=>k R H
 |o::os,R,H,k=>mJ P call ops o R H λx=>ks P call ops os (dF R o.dst x.val) (x.heap H) k
structure fD where
 i:Nat
 k:K
 rd:ae->Option af
def hJ(ms:List Nat):List fD->List Nat->Bool
 |[],_=>J
 |t::ts,ids=>match t.k with
  | .cV _ _=>ids.all (λj=>cI ms j t.i)&&hJ ms ts (t.i::ids)
  | .new _ _=>hJ ms ts (t.i::ids)
  |_=>hJ ms ts ids
def bG(r:Option af)(v:af):Bool:=match r with
 |some u=>af.beq u v
 |none=>I
def iJ(ms:List Nat)(rd:ae->Bool)(i:Nat):List fD->ae->Bool
 |[],H=>rd H
 |t::ts,H=>bif t.k.fS then(cI ms t.i i||rd H)&&(cI ms i t.i||iJ ms rd i ts (t.k.heap H))else iJ ms rd i ts H
def jZ(ms:List Nat)(i:Nat):List fD->Bool->Bool
 |[],_=>I
 |t::ts,s=>match t.k with
  | .new _ _=>(s&&cI ms t.i i&&ts.all λu=>kR u.k)||jZ ms i ts (s|| !cI ms t.i i)
  | .cV _ _=>jZ ms i ts (s|| !cI ms t.i i)
  |_=>jZ ms i ts s
def jj(ms:List Nat)(rd:ae->Bool)(i:Nat):List fD->ae->Bool->Bool
 |[],_,_=>I
 |t::ts,H,s=>match t.k with
  | .new _ b=>bif s&&cI ms t.i i&&ts.all (λu=>kR u.k)then rd (H.push b).only||jj ms rd i ts (H.push b) (s|| !cI ms t.i i)else jj ms rd i ts (H.push b) (s|| !cI ms t.i i)
  | .cV _ H'=>jj ms rd i ts H' (s|| !cI ms t.i i)
  |_=>jj ms rd i ts H s
def r_(ms:List Nat)(rd:ae->Bool)(i:Nat)(T:List fD)(H:ae):Bool:=bif jZ ms i T I then iJ ms rd i T H||jj ms rd i T H I else iJ ms rd i T H
def jm(ms:List Nat)(cT:List Nat)(T:List fD)(H:ae):List fD->Bool
 |[]=>J
 |t::ts=>(match t.k with
  | .read v=>cT.contains t.i||r_ ms (λH=>bG (t.rd H) v) t.i T H
  |_=>J)&&jm ms cT T H ts
def jv(ms:List Nat)(cT:List Nat)(T:List fD)(H:ae):Bool:=hJ ms T []&&jm ms cT T H T
def jY(P:Program)(call:ao)(ops:Array Oper):List Nat->br->ae->(List fD->br->ae->O)->O
 |[],R,H,k=>k [] R H
 |i::is,R,H,k=>match ops[i]? with
  |none=>Z
  |some o=>mJ P call ops o R H λx=>jY P call ops is (dF R o.dst x.val) (x.heap H) λT bk H'=>k (⟨i,x,hL P o.op R⟩::T) bk H'
def h_(ops:Array Oper):List Nat:=(order ops).filter (kv ops (cQ ops) (order ops))
def quiet(ops:Array Oper):Bool:=ops.toList.all λo=> !re o.op
def Eh(ms:List Nat)(cT:List Nat)(T:List fD)(H:ae):List fD->Bool
 |[]=>J
 |t::ts=>(match t.k with
  | .read v=>cT.contains t.i||iJ ms (λH=>bG (t.rd H) v) t.i T H
  |_=>J)&&Eh ms cT T H ts
def FZ(u v:af):Bool:=match u,v with
 | .ptr l _ _,.ptr m _ _=> !Nat.beq l m
 |_,_=>I
def JA(ops:Array Oper)(a b:Nat)(R:br):Bool:=match ku ops a,ku ops b with
 |some (_,c,_),A (_,aU,_)=>(match bn R c,bn R aU with
  |some u,A v=>FZ u v
  |_,_=>I)
 |_,_=>I
def ajs(ops:Array Oper)(a b:Nat)(R:bg):JA ops a b R.get=y6 ops a b R:=by
 have c:∀x,bn R.get x=cx R x:=λx=>by cases x<;>rfl
 unfold JA y6;cases ku ops a with
 |none=>rfl
 |some d=>
  obtain⟨ta,f,g⟩:=d;cases ku ops b with
  |none=>rfl
  |some e=>
   obtain⟨tb,aU,h⟩:=e;simp only[c,Ao];cases cx R f with
   |none=>rfl
   |some u=>
    cases cx R aU with
    |none=>grind
    |some v=>cases u<;>cases v<;>rfl
def m6(P:Program)(call:ao)(ops:Array Oper)(draw:Bool)(R:br)(H:ae)(k:br->ae->O):O:=
 match draw with
 |false=>ks P call ops ops.toList R H k
 |true=>match qF ops (order ops)with
  |some (a,b)=>jY P call ops (order ops) R H λT bk H'=>bif JA ops a b bk&&Eh (cQ ops) (h_ ops) T H T then k bk H' else Z
  |none=>bif quiet ops then jY P call ops (order ops) R H λ_ bk H'=>k bk H' else
   jY P call ops (order ops) R H λT bk H'=>bif jv (cQ ops) (h_ ops) T H then k bk H' else Z
def eB(c:Option af)(a b:O):O:=match c with
 |some (.bool t)=>bif t then a else b
 |_=>Z
abbrev bU:=br->ae->O
def look(i:Nat):List (Nat×bU)->bU
 |[],_,_=>Z
 |(j,k)::a,R,H=>bif Nat.beq i j then k R H else look i a R H
def rj(b:bU->bU):Nat->bU
 |0,_,_=>Z
 |n+1,R,H=>b (λR H=>rj b n R H) R H
def bX(P:Program)(call:ao)(N:Nat):Code->bU->List (Nat×bU)->bU->bU
 | .skip,aV,_,_,R,H=>aV R H
 | .region _ ops d,aV,_,_,R,H=>m6 P call ops d R H aV
 | .seq a b,aV,f,e,R,H=>bX P call N a (λR H=>bX P call N b aV f e R H) f e R H
 | .cond c a b,aV,f,e,R,H=>eB (bn R c) (bX P call N a aV f e R H) (bX P call N b aV f e R H)
 | .block id b,aV,f,e,R,H=>bX P call N b aV ((id,aV)::f) e R H
 | .loop b,_,f,e,R,H=>rj (λaV R H=>bX P call N b aV f e R H) N R H
 | .exit id,_,f,_,R,H=>look id f R H
 | .ret,_,_,e,R,H=>e R H
 | .label _,aV,_,_,R,H=>aV R H
 |_,_,_,_,_,_=>Z
def mc(P:Program)(H:ae)(R:br):List ResultVar->(List af->O)->O
 |[],k=>k []
 | .tmp t::rs,k=>mc P H R rs λak=>k (R t::ak)
 | .cell a t::rs,k=>(aJ P H t (R a)).bind λv=>mc P H R rs λak=>k (v::ak)
def lF(P:Program)(rs:List ResultVar):bU:=λR H=>mc P H R rs λak=>A (lX ak,H)
def c4:List af->br
 |[],_=> .tuple []
 |v::_,0=>v
 |_::ak,n+1=>c4 ak n
section
variable {P:Program}{aD:ao}{call:ao}{R bk:bg}{H:ae}
theorem nH(x:Operand):bn R.get x=cx R x:=by cases x<;>rfl
def vi:∀xs:List Operand,fu R.get xs=jf R xs
 |[]=>rfl
 |x::xs=>by
  simp only[fu,jf,nH,vi xs];cases cx R x<;>cases jf R xs<;>rfl
def Fs:∀xs:List (Nat×Operand),jg R.get xs=lf R xs
 |[]=>rfl
 |(i,x)::xs=>by
  simp only[jg,lf,nH,Fs xs];cases cx R x<;>cases lf R xs<;>rfl
theorem ZU(x:Option Operand):j1 R.get x=mE R x:=by
 cases x with
 |none=>rfl
 |some x=>grind[j1,mE,nH]
theorem M4(o:Op):hK P o R.get=jV P o R:=by
 cases o<;>simp only[hK,jV,nH,vi,Fs,ZU,Zf]
 ·rename_i c a b;cases aA:cx R c with
  |none=>rfl
  |some v=>cases v<;>first|rfl|(rename_i t;cases t<;>rfl)
 grind
theorem zT(o:Op):hL P o R.get H=iN P o R H:=by
 cases o<;>simp only[hL,iN,nH,vi];grind
theorem Gr(v:af)(l:Nat)(b:bA)(a:b.iR=J):g5 (A (v,ae.push ⟨.leaf,l⟩ b)) l=A (v,b):=by
 grind[g5,ae.push,ae.a1]
theorem acP(ot:Option TypeId)(esz:Nat)(els:List (List af)):(eT ot esz els).iR=true:=by cases ot<;>rfl
theorem K_(ot:Option TypeId)(l:Nat)(v:af):mG ot l v=g5 (sE ot ⟨.leaf,l⟩ v) l:=by
 unfold mG sE;by_cases h:v.cells.all af.one=J
 ·grind[Gr,acP]
 ·rw[if_neg h];simp only[Bool.not_eq_true]at h;rw[h];rfl
theorem aie(l:Nat)(t:TypeId)(n:Nat)(dt:List (Nat×af)):gu P l t n dt=g5 (uV P ⟨.leaf,l⟩ t n dt) l:=by
 unfold gu uV;cases hu:P.underlying t with
 |none=>rfl
 |some d=>
  cases d<;>try rfl
  rename_i e;simp only
  cases b:cM P e with
  |none=>rfl
  |some a=>
  cases c:gb P e with
  |none=>rfl
  |some z=>
   simp only
   by_cases h:n*a<=16777216/\z.cells.length=a/\z.cells.all af.one=J
   ·rw[if_pos h,decide_eq_true h];simp only[hk];cases lZ a (List.replicate n z.cells) dt with
    |none=>rfl
    |some els=>exact(Gr _ _ _ rfl).symm
   ·rw[if_neg h,decide_eq_false h];rfl
theorem ZF(o:Op)(l:Nat):iQ P o R.get l=lV P o R l:=by
 unfold lV;cases o<;>simp only[iQ,qT,nH,Fs]<;>try rfl
 ·rename_i t;unfold zk;cases gb P t with
  |none=>rfl
  |some v=>exact K_ _ l v
 ·rename_i t x;cases cx R x with
  |none=>rfl
  |some v=>exact K_ _ l v
 ·rename_i t n dt;cases lf R dt.toList with
  |none=>rfl
  |some v=>grind[aie]
 ·rename_i t r;cases r with
  |none=>exact(Gr _ _ _ rfl).symm
  |some r=>rfl
 ·rename_i t x c;cases cx R x with
  |none=>rfl
  |some u=>cases cx R c<;>rfl
def map_bind{α β:Type}(x:Option α)(f:α->β):x.bind (λa=>A (f a))=x.map f:=by cases x<;>rfl
theorem Z8(o:Op):lo P o R.get H=mF P o R H:=by
 cases o<;>simp only[lo,mF,nH,map_bind];grind
theorem Zo(c:Call):q9 P H R.get c=ou P H R c:=by
 unfold q9 ou;cases aA:c.callee with
 |value f=>
  simp only[nH,vi];cases cx R f with
  |none=>rfl
  |some v=>
   cases a:jf R c.args.toList with
   |none=>
    grind
   |some ak=>
    simp only[Option.bind_some];unfold pB;grind
 |invoke r m=>
  simp only[nH,vi];cases cx R r with
  |none=>rfl
  |some v=>
   simp only[Option.bind_some];cases a:jf R c.args.toList with
   |none=>grind
   |some ak=>
    simp only[Option.bind_some,jB];cases nD P H v m<;>rfl
 |builtin b=>rfl
theorem MO(o:Op)(k:K->O):dH P call o R.get H k=(h9 P call o R H).bind k:=by
 unfold dH h9;cases a:cls o with
 |pure=>simp only[M4];cases jV P o R<;>rfl
 |read=>simp only[zT];cases iN P o R H<;>rfl
 |both=>
  simp only[M4,zT];unfold iZ;cases jV P o R with
  |some v=>rfl
  |none=>cases iN P o R H<;>rfl
 |new=>
  simp only[ZF];unfold jK;cases lV P o R H.next<;>rfl
 |write=>
  simp only[Z8];unfold eh;grind[kQ]
 |call=>
  cases o<;>try rfl
  rename_i c;simp only[Zo];cases ou P H R c with
  |none=>rfl
  |some p=>
   obtain⟨g,ak⟩:=p;simp only[Option.bind_some];unfold eh;grind[kQ]
theorem MP(ops:Array Oper)(o:Oper)(k:K->O):mJ P call ops o R.get H k=(gB P call ops o R H).bind k:=by
 unfold mJ gB kj;cases aR:o.guard with
 |none=>exact MO o.op k
 |some p=>
  grind[cb,MO]
theorem TZ{dst:Option Nat}{v:af}(h:R.put dst v=A bk):dF R.get dst v=bk.get:=by
 funext e
 rw[bg.s9 h];cases dst with
 |none=>simp[dF]
 |some d=>
  grind[dF,Nat.beq_eq]
def q2(n:Nat)(o:Oper):Bool:=match o.dst with
 |none=>J
 |some d=>decide (d<n)
theorem QE{o:Oper}(h:q2 R.size o=J)(v:af):∃bk,R.put o.dst v=A bk/\bk.size=R.size:=by
 grind[q2,bg.put]
theorem SJ(ops:Array Oper)(k:br->ae->O):∀(os:List Oper) (R:bg) (H:ae),os.all (q2 R.size)=J->
  ks P call ops os R.get H k=(jI P call ops os R H).bind λp=>k p.1.get p.2
 |[],R,H,_=>rfl
 |o::os,R,H,h=>by
  simp only[List.all_cons,Bool.and_eq_true]at h;simp only[ks,jI,MP];cases a:gB P call ops o R H with
  |none=>rfl
  |some x=>
   obtain⟨bk,ah,ai⟩:=QE h.1 x.val;simp only[Option.bind_some,ah,TZ ah];exact SJ ops k os bk _ al
def bN.c(P:Program)(t:bN):fD:=⟨t.i,t.k,hL P t.o.op t.R.get⟩
theorem Mi(ms:List Nat):∀(T:List bN) (ids:List Nat),hJ ms (T.map (bN.c P)) ids=kK ms T ids
 |[],_=>rfl
 |t::T,ids=>by
  simp only[List.map_cons,hJ,kK,bN.c];cases t.k<;>simp only[Mi ms T]
theorem Ef(ms:List Nat)(rd:ae->Bool)(i:Nat):∀(T:List bN) (H:ae),iJ ms rd i (T.map (bN.c P)) H=g9 ms rd i T H
 |[],_=>rfl
 |t::T,H=>by
  simp only[List.map_cons,iJ,g9,bN.c];cases t.k.fS
  ·simp only[pC];exact Ef ms rd i T H
  ·simp only[hk,if_true];rw[Ef ms rd i T]
theorem Li(ms:List Nat)(i:Nat):∀(T:List bN) (s:Bool),jZ ms i (T.map (bN.c P)) s=qZ ms i T s
 |[],_=>rfl
 |t::T,s=>by
  simp only[List.map_cons,jZ,qZ,bN.c];cases t.k<;>simp only[Li ms i T,List.all_map]<;>rfl
theorem PA(ms:List Nat)(rd:ae->Bool)(i:Nat):∀(T:List bN) (H:ae) (s:Bool),jj ms rd i (T.map (bN.c P)) H s=m2 ms rd i T H s
 |[],_,_=>rfl
 |t::T,H,s=>by
  simp only[List.map_cons,jj,m2,bN.c];cases t.k<;>simp only[PA ms rd i T,List.all_map]<;>rfl
theorem ahz(ms:List Nat)(rd:ae->Bool)(i:Nat)(T:List bN)(H:ae):r_ ms rd i (T.map (bN.c P)) H=sa ms rd i T H:=by
 grind[r_,sa,Li,PA,Ef]
theorem Ue(ms:List Nat)(tl:List Nat)(cT:Nat->Bool)(T:List bN)(H:ae):∀(S:List bN),(∀t∈S,tl.contains t.i=cT t.i)->jm ms tl (T.map (bN.c P)) H (S.map (bN.c P))=np P ms cT T H S
 |[],_=>rfl
 |t::S,h=>by
  simp only[List.map_cons,jm,np,Ue ms tl cT T H S λt a_=>h t al]
  congr 1
  simp only[bN.c,h t aW];cases t.k<;>try rfl
  simp only[ahz]
  congr 2
  grind[bG,lE,zT]
theorem Ui(ms:List Nat)(tl:List Nat)(cT:Nat->Bool)(T:List bN)(H:ae):∀(S:List bN),(∀t∈S,tl.contains t.i=cT t.i)->Eh ms tl (T.map (bN.c P)) H (S.map (bN.c P))=sj P ms cT T H S
 |[],_=>rfl
 |t::S,h=>by
  simp only[List.map_cons,Eh,sj,Ui ms tl cT T H S λt a_=>h t al]
  congr 1
  simp only[bN.c,h t aW];cases t.k<;>try rfl
  simp only[Ef]
  congr 2
  grind[bG,lE,zT]
theorem QI(ms:List Nat):∀(T:List bN) (ids:List Nat),(∀t∈T,t.k.fS=I)->kK ms T ids=J
 |[],_,_=>rfl
 |t::T,ids,h=>by
  have a_:=h t aW;simp only[kK];have b:=QI ms T ids λu hu=>h u al
  cases a:t.k<;>rw[a]at a_<;>first|exact b|(cases a_;done)
theorem QJ(ms:List Nat)(cT:Nat->Bool)(T:List bN)(H:ae):∀(S:List bN),(∀t∈S,cT t.i=J)->np P ms cT T H S=J
 |[],_=>rfl
 |t::S,h=>by
  simp only[np,h t aW,QJ ms cT T H S λt a_=>h t al,Bool.true_or,Bool.and_true];grind
theorem u5(ops:Array Oper):∀(is:List Nat) (R:bg) (H:ae) (k:List fD->br->ae->O),ops.toList.all (q2 R.size)=J->
  jY P call ops is R.get H k=(canRun P call ops is R H).bind λp=>k (p.1.map (bN.c P)) p.2.1.get p.2.2
 |[],R,H,k,_=>rfl
 |i::is,R,H,k,h=>by
  simp only[jY,canRun];cases aX:ops[i]? with
  |none=>rfl
  |some o=>
   simp only[MP];cases b:gB P call ops o R H with
   |none=>rfl
   |some x=>
    have hm:q2 R.size o=true:=by
     grind
    obtain⟨bk,ah,ai⟩:=QE hm x.val;simp only[Option.bind_some,ah,TZ ah];rw[u5 ops is bk _ _ al];cases canRun P call ops is bk (x.heap H)with
    |none=>rfl
    |some p=>obtain⟨T,a,H1⟩:=p;rfl
theorem aee(ops:Array Oper)(d:Bool)(k:br->ae->O)(h:ops.toList.all (q2 R.size)=J):m6 P call ops d R.get H k=(hP P call ops d R H).bind λp=>k p.1.get p.2:=by
 unfold m6 hP;cases d with
 |false=>grind[SJ]
 |true=>
  simp only
  rw[u5 ops _ R H _ h,u5 ops _ R H _ h];cases aA:canRun P call ops (order ops) R H with
  |none=>
   grind[u5]
  |some p=>
   obtain⟨T,l,H1⟩:=p;have aP:=(l3 aA).1;have n:∀t∈T,t.i∈order ops:=al;have j:∀t∈T,(h_ ops).contains t.i=kv ops (cQ ops) (order ops) t.i:=(by grind[h_]);cases r:qF ops (order ops)with
   |some q=>
    obtain⟨a,b⟩:=q;refine(u5 ops _ R H _ h).trans ?_;rw[aA];simp only[Option.bind_some,ajs,Ui _ _ _ T H T j];grind
   |none=>
   simp only
   simp only[Option.bind_some];cases aH:quiet ops with
   |true=>
    have g:∀o∈ops.toList,re o.op=false:=(by grind[quiet]);have dU:∀t∈T,t.k.fS=false:=λt a_=>by
     obtain⟨zA,B,e⟩:=List.append_of_mem a_;have c:=zG (P:=P) (call:=call) (by rw[<-e];omega);cases f:t.k.fS with
     |false=>rfl
     |true=>
      have:=N1 c.2.2.1 f;rw[g t.o (by have:=Array.mem_of_getElem? c.1;simpa using this)]at this;cases this
    have m:∀t∈T,kv ops (cQ ops) (order ops) t.i=true:=(by grind[kv]);grind[QI,QJ]
   |false=>
    grind[jv,Mi,Ue]
def ha(n:Nat):Code->Bool
 | .region _ ops _=>ops.toList.all (q2 n)
 | .seq a b=>ha n a&&ha n b
 | .cond _ a b=>ha n a&&ha n b
 | .block _ b=>ha n b
 | .loop b=>ha n b
 |_=>J
def s0(r:Option (g_×bg×ae))(aV:bU)(b:List (Nat×bU))(a:bU):O:=match r with
 |some (.normal,R,H)=>aV R.get H
 |some (.exit id,R,H)=>look id b R.get H
 |some (.ret,R,H)=>a R.get H
 |none=>Z
theorem S0{ops:Array Oper}:∀{os:List Oper} {R bk:bg} {H H':ae},jI P call ops os R H=A (bk,H')->bk.size=R.size
 |[],R,bk,H,H',h=>by
  grind[jI]
 |o::os,R,bk,H,H',h=>by
  simp only[jI]at h;split at h
  ·cases h
  ·split at h
   ·cases h
   ·rename_i a ah;rw[S0 h,bg.size_put ah]
theorem SX{ops:Array Oper}:∀{is:List Nat} {R bk:bg} {H H':ae} {T:List bN},canRun P call ops is R H=A (T,bk,H')->bk.size=R.size
 |[],R,bk,H,H',T,h=>by
  grind[canRun]
 |i::is,R,bk,H,H',T,h=>by
  simp only[canRun]at h;split at h
  ·cases h
  ·split at h
   ·cases h
   ·split at h
    ·cases h
    ·rename_i a ah;split at h
     ·cases h
     ·rename_i ai;simp only[bE,dV]at h;obtain⟨_,rfl,_⟩:=h;rw[SX ai,bg.size_put ah]
theorem ahQ{ops:Array Oper}{d:Bool}{R bk:bg}{H H':ae}(h:hP P call ops d R H=A (bk,H')):bk.size=R.size:=by
 unfold hP at h;grind[S0,SX]
theorem SZ{f:bg->ae->Option (g_×bg×ae)}(aB:∀R H ex bk H',f R H=A (ex,bk,H')->bk.size=R.size):
  ∀{n:Nat} {R:bg} {H:ae} {ex:g_} {bk:bg} {H':ae},iter f n R H=A (ex,bk,H')->bk.size=R.size
 |0,_,_,_,_,_,h=>by cases h
 |n+1,R,H,ex,bk,H',h=>by
  simp only[iter]at h;split at h
  ·rename_i a H1 ah;rw[SZ aB h,aB _ _ _ _ _ ah]
  grind
theorem SY{N:Nat}:∀(c:Code) {R:bg} {H:ae} {ex:g_} {bk:bg} {H':ae},dg (hP P call) N c R H=A (ex,bk,H')->bk.size=R.size:=by
 intro c
 induction c with
 |skip=>grind[dg]
 |region id ops d=>
  grind[dg,ahQ]
 |seq a b g i=>
  grind[dg]
 |cond c a b g i=>
  intro R H ex bk H' h;simp only[dg]at h;split at h
  ·grind
  ·grind
  grind
 |block id b e=>
  grind[dg]
 |loop b e=>
  grind[dg,SZ]
 |exit id=>grind[dg]
 |ret=>grind[dg]
 |label l=>grind[dg]
 |goto l=>intro R H ex bk H' h;cases h
 |scope b e=>intro R H ex bk H' h;cases h
 |rangeFunc f dt a b g i=>intro R H ex bk H' h;cases h
 |refuse y=>intro R H ex bk H' h;cases h
theorem NL{f:bg->ae->Option (g_×bg×ae)}{b:bU->bU}{d:List (Nat×bU)}{c:bU}(m:Nat)(i:∀R H ex bk H',f R H=A (ex,bk,H')->bk.size=R.size)
  (a:∀(R:bg) (H:ae) (aV:bU),R.size=m->b aV R.get H=s0 (f R H) aV d c) (aV:bU):∀(n:Nat) (R:bg) (H:ae),R.size=m->rj b n R.get H=s0 (iter f n R H) aV d c
 |0,R,H,_=>rfl
 |n+1,R,H,g=>by
  simp only[rj,iter];rw[a R H _ g];cases h:f R H with
  |none=>rfl
  |some x=>
   obtain⟨ex,e,H1⟩:=x;cases ex with
   |normal=>exact NL m i a aV n e H1 al
   |exit id=>rfl
   |ret=>rfl
theorem LH{N:Nat}:∀(c:Code) (R:bg) (H:ae) (aV:bU) (g:List (Nat×bU)) (e:bU),ha R.size c=J->bX P call N c aV g e R.get H=s0 (dg (hP P call) N c R H) aV g e:=by
 intro c
 induction c with
 |skip=>intro R H aV g e _;rfl
 |region id ops d=>
  intro R H aV g e h;simp only[bX,dg];rw[aee ops d aV h];cases hP P call ops d R H<;>rfl
 |seq a b k m=>
  intro R H aV g e h;simp only[ha,Bool.and_eq_true]at h;simp only[bX,dg];rw[k R H _ g e h.1];cases he:dg (hP P call) N a R H with
  |none=>rfl
  |some x=>
   obtain⟨ex,i,H1⟩:=x;cases ex with
   |normal=>exact m i H1 aV g e (by grind[SY])
   |exit id=>rfl
   |ret=>rfl
 |cond c a b k m=>
  intro R H aV g e h;simp only[ha,Bool.and_eq_true]at h;simp only[bX,dg,nH];unfold eB;cases cx R c with
  |none=>rfl
  |some v=>
   cases v<;>try rfl
   grind
 |block id b j=>
  intro R H aV g e h;simp only[bX,dg];rw[j R H aV _ e h];cases he:dg (hP P call) N b R H with
  |none=>rfl
  |some x=>
   obtain⟨ex,i,H1⟩:=x;cases ex with
   |normal=>rfl
   |ret=>rfl
   |exit o=>
    grind[s0,look,Nat.beq_eq]
 |loop b j=>
  intro R H aV g e h;simp only[bX,dg];exact NL R.size (by grind[SY]) (λi H1 aV n=>j i H1 aV g e (by rw[n];exact h)) aV N R H rfl
 |exit id=>intro R H aV g e _;rfl
 |ret=>intro R H aV g e _;rfl
 |label l=>intro R H aV g e _;rfl
 |goto l=>intro R H aV g e _;rfl
 |scope b j=>intro R H aV g e _;rfl
 |rangeFunc f dt a b k m=>intro R H aV g e _;rfl
 |refuse y=>intro R H aV g e _;rfl
def AZ{R:bg}{H:ae}:∀(rs:List ResultVar) (k:List af->O),mc P H R.get rs k=(jt P R H rs).bind k
 |[],k=>rfl
 | .tmp t::rs,k=>by
  simp only[mc,jt,sK];rw[AZ rs];cases jt P R H rs<;>rfl
 | .cell a t::rs,k=>by
  simp only[mc,jt,sK];cases aJ P H t (R.get a)with
  |none=>rfl
  |some v=>
   simp only[Option.bind_some];rw[AZ rs];cases jt P R H rs<;>rfl
theorem KG(n:Nat)(args:List af):(bg.enter n args).get=c4 args:=by
 have h:∀(args:List af) (d:Nat),c4 args d=(args[d]?).getD (.tuple []):=by
  intro args
  induction args with
  |nil=>intro d;cases d<;>rfl
  |cons v ak a=>
   intro d;cases d with
   |zero=>rfl
   |succ d=>grind[c4]
 grind[bg.get,bg.enter,Gx,bJ.s8]
theorem XI{f:Nat}{args:List af}{H:ae}{fn:Func}{c:Code}{M:Nat}{r:af×ae}(b:aD f args H=Z)(aB:P.funcs[f]? =A fn)(e:fn.body=A c)(g:ha fn.ntmps c=J)(aL:Nat.ble args.length fn.ntmps=J)
  (h:bX P (aK P aD) M c (lF P fn.results.toList) [] (lF P fn.results.toList) (c4 args) H=A r):aK P aD f args H=A r:=by
 have i:(bg.enter fn.ntmps args).size=fn.ntmps:=by have:=Nat.le_of_ble_eq_true aL;grind[bg.enter]
 rw[<-KG fn.ntmps,LH c _ _ _ _ _ al]at h;unfold s0 at h;have fin:∀(R:bg) (H':ae),lF P fn.results.toList R.get H'=A r->∃ak,jt P R H' fn.results.toList=A ak/\r=(lX ak,H'):=by
  intro R H' a;unfold lF at a;rw[AZ]at a;cases d:jt P R H' fn.results.toList with
  |none=>grind
  |some ak=>grind
 split at h
 ·grind[Mw]
 ·cases h
 ·grind[Mw]
 grind
