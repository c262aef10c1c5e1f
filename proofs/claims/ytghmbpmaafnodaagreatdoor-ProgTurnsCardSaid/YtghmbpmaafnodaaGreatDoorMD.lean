/- Part. -/
import Derived.Test.YtghmbpmaafnodaaGreatDoorMC
import Derived.Test.YtghmbpmaafnodaaGreatDoorProg
import Derived.KernelRfl
import Derived.Lib.Fields
import Derived.Lib.AtoiAll
import Derived.Lib.Bytealg
import Derived.Lib.Space
set_option linter.defProp false
open Option renaming some→I,none→u,bind_some→bc
open Bool renaming true→Y,false→X,and_eq_true→de,not_eq_true→hi,and_true→tu,true_or→xy
open Array renaming mem_of_getElem?→cd,replicate→ij,mem_toList_iff→kl
open List renaming all_eq_true→ef,map_cons→fg,replicate→rs,all_map→wx
open Nat renaming le_trans→gh,le_of_ble_eq_true→jk,lt_of_lt_of_le→lm,le_max_right→mn,le_max_left→pq,beq→uv,beq_refl→vw,ble→yz,beq_eq→zA
namespace Go.bk
def h5(P:Program)(call:e)(a:Array Oper):List Oper->bi->ad->Option (bi×ad)
 |[],V,H=>I (V,H)
 |o::os,V,H=>match hX P call a o V H with
  |none=>u
  |some k=>match V.put o.dst k.val with
   |none=>u
   |some bh=>h5 P call a os bh (k.heap H)
def Pm(o:Oper):Bool:=match cls o.op with
 | .write=>Y
 | .call=>Y
 |_=>X
def vY(m:Nat)(done:Nat):List Nat->List Nat
 |[]=>[]
 |j::a=>if m.testBit j&& !done.testBit j then j::vY m done a else vY m done a
def MG(done:Nat):List Nat->Nat
 |[]=>done
 |j::a=>MG (done|||2^j) a
def BN(ms all:List Nat):List (Nat×Oper)->Nat->List Nat
 |[],done=>vY (2^all.length-1) done all
 |(i,o)::a,done=>if Pm o&& !done.testBit i then
   (let c:=vY (ms[i]?.getD 0) done all
    c++i::BN ms all a (MG done c|||2^i))
  else BN ms all a done
def OU:Nat->List Oper->List (Nat×Oper)
 |_,[]=>[]
 |i,o::os=>(i,o)::OU (i+1) os
def order(a:Array Oper):List Nat:=BN (dR a) (List.range a.size) (OU 0 a.toList) 0
def gj(P:Program)(call:e)(a:Array Oper)(c:Bool)(V:bi)(H:ad):Option (bi×ad):=
 match c with
 |false=>h5 P call a a.toList V H
 |true=>match canRun P call a (order a) V H with
  |none=>u
  |some (T,bh,H')=>match jm (dR a) T []with
   |false=>u
   |true=>match lE P (dR a) (tied a (dR a) (order a)) T H T with
    |false=>u
    |true=>I (bh,H')
def kr:Code->Bool
 | .region _ c Y=>rh c (dR c) (order c)
 | .seq a b=>kr a&&kr b
 | .cond _ a b=>kr a&&kr b
 | .block _ b=>kr b
 | .loop b=>kr b
 |_=>Y
inductive az where
 |normal
 |exit (id:Nat)
 |ret
def az.Aw:az->Exit
 | .normal=> .normal
 | .exit id=> .exit id
 | .ret=> .ret
abbrev u6:=Array Oper->Bool->bi->ad->Option (bi×ad)
def iter(f:bi->ad->Option (az×bi×ad)):Nat->bi->ad->Option (az×bi×ad)
 |0,_,_=>u
 |n+1,V,H=>match f V H with
  |some (.normal,bh,H')=>iter f n bh H'
  |r=>r
def T(h3:u6)(N:Nat):Code->bi->ad->Option (az×bi×ad)
 | .skip,V,H=>I (.normal,V,H)
 | .region _ h d,V,H=>match h3 h d V H with
  |some (bh,H')=>I (.normal,bh,H')
  |none=>u
 | .seq a b,V,H=>match T h3 N a V H with
  |some (.normal,bh,H')=>T h3 N b bh H'
  |r=>r
 | .cond c a b,V,H=>match ck V c with
  |some (.bool Y)=>T h3 N a V H
  |some (.bool X)=>T h3 N b V H
  |_=>u
 | .block id b,V,H=>match T h3 N b V H with
  |some (.exit e,bh,H')=>if e=id then I (.normal,bh,H')else I (.exit e,bh,H')
  |r=>r
 | .loop b,V,H=>iter (λV H=>T h3 N b V H) N V H
 | .exit id,V,H=>I (.exit id,V,H)
 | .ret,V,H=>I (.ret,V,H)
 | .label _,V,H=>I (.normal,V,H)
 |_,_,_=>u
def bi.tx(t:bG aa):Nat->List aa->bG aa
 |_,[]=>t
 |i,v::a=>bi.tx (bG.put v (i+1) t i) (i+1) a
def bi.enter(n:Nat)(args:List aa):bi:=⟨bi.tx .leaf 0 args,args.length+(n-args.length)⟩
def qq(P:Program)(V:bi)(H:ad):ResultVar->Option aa
 | .tmp t=>I (V.get t)
 | .cell a t=>A P H t (V.get a)
def hQ(P:Program)(V:bi)(H:ad):List ResultVar->Option (List aa)
 |[]=>I []
 |r::a=>match qq P V H r,hQ P V H a with
  |some v,I c=>I (v::c)
  |_,_=>u
def mW:List aa->aa
 |[v]=>v
 |a=> .tuple a
def ev(P:Program)(aj:e)(N:Nat):Nat->e
 |0,_,_,_=>u
 |n+1,f,args,H=>match aj f args H with
 |some r=>I r
 |none=>match P.funcs[f]? with
  |none=>u
  |some fn=>match fn.body with
   |none=>u
   |some c=>match T (gj P (ev P aj N n)) N c (bi.enter fn.ntmps args) H with
    |none=>u
    |some (a,V,H')=>match a with
     | .exit _=>u
     |_=>match hQ P V H' fn.results.toList with
      |none=>u
      |some d=>I (mW d,H')
section
variable {E:Env}{P:Program}{aj:e}{call:e}{h3:u6}{N:Nat}
def C6{c:Array Oper}:∀{os:List Oper} {V bh:bi} {H H':ad},h5 P call c os V H=I (bh,H')->H.next<=H'.next
 |[],V,bh,H,H',h=>by
  simp only[h5,aT,bS]at h;obtain⟨rfl,rfl⟩:=h;exact aV _
 |o::os,V,bh,H,H',h=>by
  simp only[h5]at h;split at h
  ·cases h
  ·rename_i k a;split at h
   ·cases h
   ·exact gh (Ba a) (C6 h)
def zK(h3:u6):Prop:=∀a d V H bh H',h3 a d V H=I (bh,H')->H.next<=H'.next
def L7:zK (gj P call):=by
 intro e d V H bh H' h;unfold gj at h;split at h
 ·exact C6 h
 ·split at h
  ·cases h
  ·rename_i T c H1 a;split at h
   ·cases h
   ·split at h
    ·cases h
    ·simp only[aT,bS]at h;obtain⟨rfl,rfl⟩:=h;rw[(k0 a).2.1];exact(sW a).le
def vH{f:bi->ad->Option (az×bi×ad)}(c:∀V H a bh H',f V H=I (a,bh,H')->H.next<=H'.next):∀{n:Nat} {V:bi} {H:ad} {a:az} {bh:bi} {H':ad},
  iter f n V H=I (a,bh,H')->H.next<=H'.next
 |0,_,_,_,_,_,h=>by cases h
 |n+1,V,H,a,bh,H',h=>by
  simp only[iter]at h;split at h
  ·rename_i e H1 d;exact gh (c _ _ _ _ _ d) (vH c h)
  ·exact c _ _ _ _ _ h
def Gc(o:zK h3):∀(c:Code) {V:bi} {H:ad} {e:az} {bh:bi} {H':ad},T h3 N c V H=I (e,bh,H')->H.next<=H'.next:=by
 intro c
 induction c with
 |skip=>intro V H e bh H' h;simp only[T,aT,bS]at h;obtain⟨_,_,rfl⟩:=h;exact aV _
 |region id q d=>
  intro V H e bh H' h;simp only[T]at h;split at h
  ·rename_i n H1 i;simp only[aT,bS]at h;obtain⟨_,_,rfl⟩:=h;exact o _ _ _ _ _ _ i
  ·cases h
 |seq a b k m=>
  intro V H e bh H' h;simp only[T]at h;split at h
  ·rename_i n H1 i;exact gh (k i) (m h)
  ·exact k h
 |cond c a b k m=>
  intro V H e bh H' h;simp only[T]at h;split at h
  ·exact k h
  ·exact m h
  ·cases h
 |block id b j=>
  intro V H e bh H' h;simp only[T]at h;split at h
  ·rename_i p n H1 i;have:=j i;split at h<;>(simp only[aT,bS]at h;obtain⟨_,_,rfl⟩:=h;exact this)
  ·exact j h
 |loop b j=>
  intro V H e bh H' h;simp only[T]at h;exact vH (λ_ _ _ _ _ h=>j h) h
 |exit id=>intro V H e bh H' h;simp only[T,aT,bS]at h;obtain⟨_,_,rfl⟩:=h;exact aV _
 |ret=>intro V H e bh H' h;simp only[T,aT,bS]at h;obtain⟨_,_,rfl⟩:=h;exact aV _
 |label l=>intro V H e bh H' h;simp only[T,aT,bS]at h;obtain⟨_,_,rfl⟩:=h;exact aV _
 |goto l=>intro V H e bh H' h;cases h
 |scope b j=>intro V H e bh H' h;cases h
 |rangeFunc f s a b k m=>intro V H e bh H' h;cases h
 |refuse y=>intro V H e bh H' h;cases h
def MF(A:jH E P call){z:Array Oper}{Q:Exit->Act->World->Prop}:∀{os:List Oper} {V bh:bi} {H H':ad} {ρ:Env} {w:World} {a:Act},h5 P call z os V H=I (bh,H')->
  Rel ρ H w->h8 E ρ H.next H'.next->eg ρ V a->(∀d bj c,eg d bh bj->Step ρ H w d H' c->Q .normal bj c)->wpList P z Q os a w
 |[],V,bh,H,H',ρ,w,a,h,e,_,i,q=>by
  simp only[h5,aT,bS]at h;obtain⟨rfl,rfl⟩:=h;exact q ρ a w i (.refl e)
 |o::os,V,bh,H,H',ρ,w,a,h,e,s,i,q=>by
  simp only[h5]at h;split at h
  ·cases h
  ·rename_i k C;split at h
   ·cases h
   ·rename_i al G;have F:=C6 h;have am:=Ba C;have go:∀x c d,bz d k.val x->Step ρ H w d (k.heap H) c->wpList P z Q os (a.put o.dst x) c:=λx c d m au=>
     MF A h au.rel (s.after au) ((i.mono au.le).put G m) λaj a2 ai n p=>q aj a2 ai n (au.trans p)
    unfold wpList;rw[EE i o];rcases qQ C with⟨y,j⟩|⟨y,rfl⟩
    ·rw[y];simp only[if_true];refine .inl ?_;cases k with
     |skip=>exact j.elim
     |pure v=>exact LK j i λx m=>go x w ρ m (.refl e)
     |read v=>exact L4 e j i λx m=>go x w ρ m (.refl e)
     |new v b=>
      have B:ρ H.next=none:=s.new _ (aV _) (by simp only[K.heap,ad.bb]at F;omega)
      refine KM j i B λx c d an aX S T W aa ab hH af ah N O R=>go x c d aX ?_
      have L:fC ρ H w (H.next+1) (λ_=>u) ρ H w:=fC.start e λl n p=>by
       have:l=H.next:=ae
       rw[this];exact B
      have M:=L.early (aV _) ae rfl S T W aa ab hH af ah N O R;exact(M.Oj (b:=b) (by simp)).done rfl
     |ea v ak=>
      exact F4 A e (s.left F) j i λx c d n p=>go x c d n p
    ·rw[y];simp only[Bool.false_eq_true,if_false];exact go undef w ρ (.tuple [] [] .nil) (.refl e)
def D8(E:Env)(P:Program)(h3:u6):Prop:=∀(id:Nat) (c:Array Oper) (d:Bool) (V:bi) (H:ad) (bh:bi) (H':ad),h3 c d V H=I (bh,H')->(d=Y->rh c (dR c) (order c)=Y)->∀(ρ:Env) (w:World) (a:Act) (Q:Exit->Act->World->Prop),Rel ρ H w->h8 E ρ H.next H'.next->eg ρ V a->(∀h bj e,eg h bh bj->Step ρ H w h H' e->Q .normal bj e)->(Code.region id c d).wp P Q a w
def L8(o:P.follows .mixedOrders=Y)(i:jH E P call):D8 E P (gj P call):=by
 intro id s d V H bh H' h m ρ w a Q e j k c;unfold gj at h;split at h
 ·exact wp_region_list (MF i h e j k c)
 ·split at h
  ·cases h
  ·rename_i T q H1 l;split at h
   ·cases h
   ·rename_i n;split at h
    ·cases h
    ·rename_i p;simp only[aT,bS]at h;obtain⟨rfl,rfl⟩:=h;exact ab0 o i ⟨l,m rfl,n,p⟩ e j k c
def ab1{c:Code}{Q:Exit->Act->World->Prop}(p:Nat->Act->World->Prop)(s:∀n a w,p n a w->∃m,n=m+1/\c.wp P (Exit.then (p m) Q) a w){n:Nat}{a:Act}{w:World}(E:p n a w):(Code.loop c).wp P Q a w:=by
 intro b k cs;have key:∀n a w,p n a w->∃e bj q,Q e bj q/\Arrives P (lone (b.at a (.code c:: .inLoop c::k)) cs w) b k cs e bj q:=by
  intro n
  induction n with
  |zero=>intro a w h;obtain⟨m,A,_⟩:=s 0 a w h;omega
  |succ n F=>
   intro a w h;obtain⟨m,A,C⟩:=s _ a w h;obtain rfl:m=n:=ae;obtain⟨e,j,o,i,d⟩:=C b (.inLoop c::k) cs;cases e with
   |normal=>
    obtain⟨y,v,G,B,z⟩:=F j o i;exact⟨y,v,G,B,.of_steps (Steps.trans d (.one step_inLoop)) z⟩
   |exit id=>exact⟨_,j,o,i,.pass (x:= .inLoop c) rfl (λ_ _=> .inl (by simp)) d⟩
   |goto l=>exact⟨_,j,o,i,.pass (x:= .inLoop c) rfl (λ_ _=> .inl (by simp)) d⟩
   |ret=>exact⟨_,j,o,i,.pass (x:= .inLoop c) rfl (λ_ _=> .inl (by simp)) d⟩
   |panic H=>exact⟨_,j,o,i,.pass (x:= .inLoop c) rfl (λ_ _=> .inl (by simp)) d⟩
   |outgrown=>exact⟨_,j,o,i,.pass (x:= .inLoop c) rfl (λ_ _=> .inl (by simp)) d⟩
 obtain⟨e,bj,q,i,d⟩:=key _ a w E;exact⟨e,bj,q,i,.of_steps (.one step_loop) d⟩
def zu(E:Env)(P:Program)(c:Code)(f:bi->ad->Option (az×bi×ad)):Prop:=∀(V:bi) (H:ad) (d:az) (bh:bi) (H':ad),f V H=I (d,bh,H')->∀(ρ:Env) (w:World) (a:Act) (Q:Exit->Act->World->Prop),Rel ρ H w->h8 E ρ H.next H'.next->eg ρ V a->(∀h bj e,eg h bh bj->Step ρ H w h H' e->Q d.Aw bj e)->c.wp P Q a w
def SF{c:Code}{f:bi->ad->Option (az×bi×ad)}(p:zu E P c f)(s:∀V H i bh H',f V H=I (i,bh,H')->H.next<=H'.next)(n:Nat):zu E P (.loop c) (iter f n):=by
 intro V H i bh H' h ρ w a Q C q K B;refine ab1 (n:=n) (λn aI j=>∃k H1 e,iter f n k H1=I (i,bh,H')/\Step ρ H w e H1 j/\eg e k aI) ?_ ⟨V,H,ρ,h,.refl C,K⟩;rintro n aI j ⟨k,H1,e,d,au,v⟩;cases n with
 |zero=>cases d
 |succ n=>
  refine⟨n,rfl,?_⟩;have L:=vH s d;simp only[iter]at d;split at d
  ·rename_i z y A;have F:=vH s d;refine p _ _ _ _ _ A e j aI _ au.rel (h8.left (h8.after q au) F) v λo a2 x l m=> ?_
   exact⟨z,y,o,d,au.trans m,l⟩
  ·rename_i G;refine p _ _ _ _ _ d e j aI _ au.rel (h8.after q au) v λo a2 x l m=> ?_
   have:=B o a2 x l (au.trans m);cases i with
   |normal=>exact absurd d (G _ _)
   |exit id=>exact this
   |ret=>exact this
def Ge(L:zK h3)(W:D8 E P h3):∀(c:Code),kr c=Y->zu E P c (T h3 N c):=by
 intro c
 induction c with
 |skip=>
  intro _ V H n bh H' h ρ w a Q j k e i;simp only[T,aT,bS]at h;obtain⟨rfl,rfl,rfl⟩:=h;exact wp_skip (i ρ a w e (.refl j))
 |region id ab d=>
  intro m V H n bh H' h ρ w a Q j k e i;simp only[T]at h;split at h
  ·rename_i K H1 o;simp only[aT,bS]at h;obtain⟨rfl,rfl,rfl⟩:=h;exact W id ab d V H _ _ o (λR=>by subst R;exact m) ρ w a Q j k e i
  ·cases h
 |seq x y B C=>
  intro m V H n bh H' h ρ w a Q j k e i;simp only[kr,de]at m;simp only[T]at h;refine wp_seq ?_;split at h
  ·rename_i K H1 o;have S:=Gc L y h;refine B m.1 _ _ _ _ _ o ρ w a _ j (k.left S) e λv aI s q p=> ?_
   exact C m.2 _ _ _ _ _ h v s aI Q p.rel (k.after p) q λae a2 ad M O=>i ae a2 ad M (p.trans O)
  ·rename_i G;refine B m.1 _ _ _ _ _ h ρ w a _ j k e λv aI s q p=> ?_
   have:=i v aI s q p;cases n with
   |normal=>exact absurd h (G _ _)
   |exit id=>exact this
   |ret=>exact this
 |cond c x y B C=>
  intro m V H n bh H' h ρ w a Q j k e i;simp only[kr,de]at m;simp only[T]at h;split at h
  ·rename_i F;have o:=dK e F;refine wp_cond_true (by generalize a.eval c=z at o;cases o;rfl) ?_;exact B m.1 _ _ _ _ _ h ρ w a Q j k e i
  ·rename_i F;have o:=dK e F;refine wp_cond_false (by generalize a.eval c=z at o;cases o;rfl) ?_;exact C m.2 _ _ _ _ _ h ρ w a Q j k e i
  ·cases h
 |block id b A=>
  intro m V H n bh H' h ρ w a Q j k e i;simp only[T]at h;refine wp_block ?_;split at h
  ·rename_i aa K H1 o;split at h
   ·rename_i hid;simp only[aT,bS]at h;obtain⟨rfl,rfl,rfl⟩:=h;refine A m _ _ _ _ _ o ρ w a _ j k e λv aI s q p=> ?_
    have:=i v aI s q p;simp only[az.Aw,Exit.inBlock,hid,if_true];exact this
   ·rename_i hid;simp only[aT,bS]at h;obtain⟨rfl,rfl,rfl⟩:=h;refine A m _ _ _ _ _ o ρ w a _ j k e λv aI s q p=> ?_
    have:=i v aI s q p;simp only[az.Aw,Exit.inBlock,hid,if_false];exact this
  ·rename_i G;refine A m _ _ _ _ _ h ρ w a _ j k e λv aI s q p=> ?_
   have:=i v aI s q p;cases n with
   |normal=>exact this
   |exit aa=>exact absurd h (G _ _ _)
   |ret=>exact this
 |loop b A=>
  intro m V H n bh H' h ρ w a Q j k e i;simp only[T]at h;exact SF (A m) (λ_ _ _ _ _ h=>Gc L b h) N V H n bh H' h ρ w a Q j k e i
 |exit id=>
  intro _ V H n bh H' h ρ w a Q j k e i;simp only[T,aT,bS]at h;obtain⟨rfl,rfl,rfl⟩:=h;exact wp_exit (i ρ a w e (.refl j))
 |ret=>
  intro _ V H n bh H' h ρ w a Q j k e i;simp only[T,aT,bS]at h;obtain⟨rfl,rfl,rfl⟩:=h;exact wp_ret (i ρ a w e (.refl j))
 |label l=>
  intro _ V H n bh H' h ρ w a Q j k e i;simp only[T,aT,bS]at h;obtain⟨rfl,rfl,rfl⟩:=h;exact wp_label (i ρ a w e (.refl j))
 |goto l=>intro _ V H n bh H' h;cases h
 |scope b A=>intro _ V H n bh H' h;cases h
 |rangeFunc f af a b B C=>intro _ V H n bh H' h;cases h
 |refuse y=>intro _ V H n bh H' h;cases h
def BE:∀(args:List aa) (t:bG aa) (i d:Nat),(bi.tx t i args).get d=if i<=d/\d<i+args.length then args[d-i]? else t.get d
 |[],t,i,d=>by simp only[bi.tx,List.length_nil];rw[if_neg ae]
 |v::e,t,i,d=>by
  simp only[bi.tx];rw[BE e];by_cases a:i+1<=d/\d<i+1+e.length
  ·rw[if_pos a,if_pos (by simp;omega),show d-i=(d-(i+1))+1 by omega];simp
  ·rw[if_neg a];by_cases c:d=i
   ·subst c;rw[bG.tc _ _ _ _ ae,if_pos (by simp)];simp
   ·rw[bG.tb _ _ _ _ _ (Ne.symm c),if_neg (by simp;omega)]
def F8{ρ:Env}{args:List aa}{xs:List Value}(h:b1 ρ args xs)(n:Nat):eg ρ (bi.enter n args) {tmps:=xs.toArray++ij (n-xs.toArray.size) undef,defers:=[]}:=by
 have ak:=h.length;refine⟨by simp[bi.enter,ak],λd=> ?_,rfl⟩;unfold bi.get bi.enter;simp only
 rw[BE];rw[Array.getD_eq_getD_getElem?];by_cases e:d<args.length
 ·rw[if_pos ae];obtain⟨v,c⟩:∃v,args[d]? =I v:=⟨args[d],by simp[e]⟩;obtain⟨x,j,i⟩:=h.get d v c;have a:(xs.toArray++ij (n-xs.toArray.size) undef)[d]? =I x:=by
   rw[Array.getElem?_append_left (by simp;omega)];simpa using j
  rw[a];simp only[Nat.sub_zero,c,Option.getD_some];exact i
 ·rw[if_neg ae];have a:((xs.toArray++ij (n-xs.toArray.size) undef)[d]?).getD undef=undef:=by
   rw[Array.getElem?_append_right (by simp;omega)];simp only[Array.getElem?_replicate];split<;>rfl
  rw[a,bG.s_];exact .tuple [] [] .nil
def tN(tmps:Array Value):ResultVar->Sem Value
 | .tmp t=>pure (tmps.getD t undef)
 | .cell b t=>do loadVar t (<-asAddr (tmps.getD b undef))
def P0{ρ:Env}{H:ad}{w:World}{V:bi}{a:Act}(k:Rel ρ H w)(j:eg ρ V a){r:ResultVar}{v:aa}(h:qq P V H r=I v):
  ∃x,(tN a.tmps r).run P w= .ok x w/\bz ρ v x:=by
 cases r with
 |tmp t=>
  simp only[qq,aT]at h;subst h;exact⟨_,rfl,j.get t⟩
 |cell b t=>
  simp only[qq]at h;obtain⟨x,ap,aE⟩:=Em k h (j.get b);refine⟨x,?_,aE⟩;have d:=j.get b;simp only[tN];generalize a.tmps.getD b undef=z at d ap ⊢;have e:∃l i c,V.get b= .ptr l i c:=by
   generalize V.get b=m at h;unfold A at h;cases m<;>first|exact⟨_,_,_,rfl⟩|(exfalso;simp at h)
  obtain⟨l,i,c,e⟩:=e;rw[e]at d;cases d;simpa [Instr.loadAt,Instr.sureAddr,asAddr]using ap
def Ev{ρ:Env}{H:ad}{w:World}{V:bi}{a:Act}(e:Rel ρ H w)(i:eg ρ V a):∀{d:List ResultVar} {c:List aa},hQ P V H d=I c->
  ∃xs:List Value,(d.mapM (tN a.tmps)).run P w= .ok xs w/\b1 ρ c xs
 |[],c,h=>by simp only[hQ,aT]at h;subst h;exact⟨[],by simp[Sem.run_pure],.nil⟩
 |r::d,c,h=>by
  simp only[hQ]at h;split at h
  ·rename_i v l j k;simp only[aT]at h;subst h;obtain⟨x,ap,aE⟩:=P0 e i j;obtain⟨xs,bB,cc⟩:=Ev e i k;refine⟨x::xs,?_,.cons _ _ _ _ aE cc⟩;rw[List.mapM_cons];simp only[Sem.run_bind,Result.andThen_ok,Sem.run_pure,ap,bB]
  ·cases h
def UZ(fn:Func)(tmps:Array Value):results fn tmps=(do
  let a<-fn.results.mapM (tN tmps)
  pure (if h:a.size=1 then a[0]else .tuple a)):=by
 unfold results
 congr 1
def Mc{ρ:Env}{H:ad}{w:World}{V:bi}{a:Act}(k:Rel ρ H w)(m:eg ρ V a){fn:Func}{d:List aa}(h:hQ P V H fn.results.toList=I d):
  ∃x,(results fn a.tmps).run P w= .ok x w/\bz ρ (mW d) x:=by
 obtain⟨xs,ap,aE⟩:=Ev k m h;have l:(fn.results.mapM (tN a.tmps)).run P w= .ok xs.toArray w:=by
  rw[Array.mapM_eq_mapM_toList];simp only[Sem.run_map,ap,Result.andThen_ok]
 refine⟨if h:xs.toArray.size=1 then xs.toArray[0]else .tuple xs.toArray,?_,?_⟩
 ·rw[UZ];simp only[Sem.run_bind,l,Result.andThen_ok,Sem.run_pure]
 ·cases aE with
  |nil=>exact .tuple [] [] .nil
  |cons v x o s c e=>
   cases e with
   |nil=>exact c
   |cons n q p y i j=>
    simp only[mW];rw[dif_neg (by simp)];exact .tuple _ _ (.cons _ _ _ _ c (.cons _ _ _ _ i j))
structure og(P:Program):Prop where
 mixed:P.follows .mixedOrders=true
 names:∀fn∈P.funcs,(fn.name== "runtime.NumGoroutine")=false
 Lw:∀(f:Nat) (fn:Func) (c:Code),P.funcs[f]? =some fn->fn.body=some c->kr c=true
def Gf(a:og P)(k:jH E P aj):∀n,jH E P (ev P aj N n)
 |0=>λg args H v H' h=>by cases h
 |n+1=>by
  intro g args H v H' h ρ w xs l o m B next p
  simp only[ev]at h;split at h
  ·rename_i r G;cases h;exact k g args H v H' G ρ w xs l o m B next p
  split at h
  ·cases h
  ·rename_i fn d;split at h
   ·cases h
   ·rename_i c i;split at h
    ·cases h
    ·rename_i s V H1 z;have M:=Gf a k n;have y:=Ge (N:=N) L7 (L8 a.mixed M) c (a.Lw _ _ _ d i);have C:(fn.name== "runtime.NumGoroutine")=false:=a.names fn (cd d);have K:(callFunc g xs.toArray).run P w= .ok (.enter g xs.toArray) w:=by
      unfold callFunc;simp[d,i];intro A;simp[A]at C
     unfold oi;rw[K];simp only
     split at h
     ·cases h
     ·rename_i F;split at h
      ·cases h
      ·rename_i R L;simp only[aT,bS]at h;obtain⟨rfl,rfl⟩:=h;refine calls_of_wp d i (y _ _ _ _ _ z ρ w _ _ l o (F8 m fn.ntmps) λQ bj O e j=> ?_);obtain⟨x,ap,aE⟩:=Mc j.rel e L;have q:=p x O Q aE j;cases s with
       |normal=>exact⟨e.none,x,ap,q⟩
       |ret=>exact⟨e.none,x,ap,q⟩
       |exit id=>exact absurd rfl (F id)
end
section
variable {E:Env}{P:Program}{aj:e}
def od(P:Program)(aj:e)(f:Nat)(args:List aa)(H:ad)(r:aa×ad):Prop:=∃k,∀N,k<=N->∀n,k<=n->ev P aj N n f args H=I r
def od.uniq{f:Nat}{args:List aa}{H:ad}{r s:aa×ad}(h:od P aj f args H r)(aU:od P aj f args H s):r=s:=by
 obtain⟨k,d⟩:=h;obtain⟨j,c⟩:=aU;have a:=d (max k j) (pq ..) (max k j) (pq ..);rw[c (max k j) (mn ..) (max k j) (mn ..)]at a;exact(Option.some.inj a).symm
open Classical in
noncomputable def al(P:Program)(aj:e):e:=λf args H=>if h:∃r,od P aj f args H r then I h.choose else u
def Gh{f:Nat}{args:List aa}{H:ad}{r:aa×ad}(h:al P aj f args H=I r):od P aj f args H r:=by
 unfold al at h;split at h
 ·rename_i a;rw[<-Option.some.inj h];exact a.choose_spec
 ·cases h
def JP{f:Nat}{args:List aa}{H:ad}{r:aa×ad}(h:od P aj f args H r):al P aj f args H=I r:=by
 unfold al;have a:∃r,od P aj f args H r:=⟨r,h⟩;rw[dif_pos a];exact congrArg I (a.choose_spec.uniq h)
def Q_(c:og P)(a:jH E P aj):jH E P (al P aj):=by
 intro g args H v H' h;obtain⟨k,d⟩:=Gh h;exact Gf c a k g args H v H' (d k (aV _) k (aV _))
def aa9{o:Op}{V:bi}{H:ad}{x:K}(h:step1 P (al P aj) o V H=I x):∃k,∀N,k<=N->∀n,k<=n->step1 P (ev P aj N n) o V H=I x:=by
 unfold step1 at h;unfold step1;split at h
 ·exact⟨0,λ_ _ _ _=>h⟩
 ·exact⟨0,λ_ _ _ _=>h⟩
 ·exact⟨0,λ_ _ _ _=>h⟩
 ·exact⟨0,λ_ _ _ _=>h⟩
 ·exact⟨0,λ_ _ _ _=>h⟩
 ·split at h
  ·split at h
   ·rename_i g i j;cases a:al P aj g i H with
    |none=>rw[a]at h;cases h
    |some r=>
     obtain⟨k,d⟩:=Gh a;refine⟨k,λN c n e=> ?_⟩;rw[a]at h;simp only[d N c n e];exact h
   ·cases h
  ·cases h
def Jg{a:Array Oper}{o:Oper}{V:bi}{H:ad}{x:K}(h:hX P (al P aj) a o V H=I x):∃k,∀N,k<=N->∀n,k<=n->hX P (ev P aj N n) a o V H=I x:=by
 unfold hX at h;unfold hX;split at h
 ·rename_i i;obtain⟨k,d⟩:=aa9 h;exact⟨k,λN c n e=>d N c n e⟩
 ·exact⟨0,λ_ _ _ _=>h⟩
def ME{a:Array Oper}:∀{os:List Oper} {V:bi} {H:ad} {x:bi×ad},h5 P (al P aj) a os V H=I x->∃k,∀N,k<=N->∀n,k<=n->h5 P (ev P aj N n) a os V H=I x
 |[],V,H,x,h=>⟨0,λ_ _ _ _=>h⟩
 |o::os,V,H,x,h=>by
  simp only[h5]at h;split at h
  ·cases h
  ·rename_i y i;split at h
   ·cases h
   ·rename_i bh c;obtain⟨k,e⟩:=Jg i;obtain⟨j,d⟩:=ME h;refine⟨max k j,λN l n m=> ?_⟩;simp only[h5,e N ae n ae,c,d N ae n ae]
def FQ{c:Array Oper}:∀{a:List Nat} {V:bi} {H:ad} {x:List b4×bi×ad},canRun P (al P aj) c a V H=I x->∃k,∀N,k<=N->∀n,k<=n->canRun P (ev P aj N n) c a V H=I x
 |[],V,H,x,h=>⟨0,λ_ _ _ _=>h⟩
 |i::a,V,H,x,h=>by
  simp only[canRun]at h;split at h
  ·cases h
  ·rename_i o p;split at h
   ·cases h
   ·rename_i y q;split at h
    ·cases h
    ·rename_i bh d;split at h
     ·cases h
     ·rename_i T cF b6 e;obtain⟨k,m⟩:=Jg q;obtain⟨j,l⟩:=FQ e;refine⟨max k j,λN s n v=> ?_⟩;simp only[canRun,p,m N ae n ae,d,l N ae n ae];exact h
def UT{i:Array Oper}{d:Bool}{V:bi}{H:ad}{x:bi×ad}(h:gj P (al P aj) i d V H=I x):∃k,∀N,k<=N->∀n,k<=n->gj P (ev P aj N n) i d V H=I x:=by
 unfold gj at h;unfold gj;split at h
 ·obtain⟨k,c⟩:=ME h;exact⟨k,λN a n e=>c N a n e⟩
 ·split at h
  ·cases h
  ·rename_i T bh H' j;obtain⟨k,c⟩:=FQ j;refine⟨k,λN a n e=> ?_⟩;simp only[c N a n e];exact h
def Ja{f:bi->ad->Option (az×bi×ad)}:∀{n m:Nat} {V:bi} {H:ad} {x:az×bi×ad},iter f n V H=I x->n<=m->iter f m V H=I x
 |0,_,_,_,_,h,_=>by cases h
 |n+1,0,_,_,_,_,a=>ae
 |n+1,m+1,V,H,x,h,a=>by
  simp only[iter]at h ⊢;split at h
  ·rename_i bh H' c;exact Ja h ae
  ·exact h
def I_{f:bi->ad->Option (az×bi×ad)}{g:Nat->Nat->bi->ad->Option (az×bi×ad)}(c:∀V H x,f V H=I x->∃k,∀N,k<=N->∀n,k<=n->g N n V H=I x):
  ∀{M:Nat} {V:bi} {H:ad} {x:az×bi×ad},iter f M V H=I x->∃k,∀N,k<=N->∀n,k<=n->iter (g N n) M V H=I x
 |0,_,_,_,h=>by cases h
 |M+1,V,H,x,h=>by
  simp only[iter]at h;split at h
  ·rename_i bh H' a;obtain⟨k,d⟩:=c _ _ _ a;obtain⟨j,l⟩:=I_ c h;refine⟨max k j,λN e n i=> ?_⟩;simp only[iter,d N ae n ae];exact l N ae n ae
  ·rename_i m;obtain⟨k,d⟩:=c _ _ _ h;refine⟨k,λN e n i=> ?_⟩;simp only[iter,d N e n i];split
   ·rename_i bh H' a;cases a;exact absurd h (m _ _)
   ·rfl
def Q8{M:Nat}:∀(c:Code) {V:bi} {H:ad} {x:az×bi×ad},T (gj P (al P aj)) M c V H=I x->∃k,∀N,k<=N->∀n,k<=n->T (gj P (ev P aj N n)) N c V H=I x:=by
 intro c
 induction c with
 |skip=>intro V H x h;exact⟨0,λ_ _ _ _=>h⟩
 |region id F d=>
  intro V H x h;simp only[T]at h;split at h
  ·rename_i A H1 o;obtain⟨k,e⟩:=UT o;refine⟨k,λN i n m=> ?_⟩;simp only[T,e N i n m];exact h
  ·cases h
 |seq a b q s=>
  intro V H x h;simp only[T]at h;split at h
  ·rename_i A H1 o;obtain⟨k,e⟩:=q o;obtain⟨j,B⟩:=s h;refine⟨max k j,λN i n m=> ?_⟩;simp only[T,e N ae n ae,B N ae n ae]
  ·rename_i z;obtain⟨k,e⟩:=q h;refine⟨k,λN i n m=> ?_⟩;simp only[T,e N i n m];split
   ·rename_i bh H' w;cases w;exact absurd h (z _ _)
   ·rfl
 |cond c a b q s=>
  intro V H x h;simp only[T]at h;split at h
  ·rename_i v;obtain⟨k,e⟩:=q h;refine⟨k,λN i n m=> ?_⟩;simp only[T,v,e N i n m]
  ·rename_i v;obtain⟨k,e⟩:=s h;refine⟨k,λN i n m=> ?_⟩;simp only[T,v,e N i n m]
  ·cases h
 |block id b p=>
  intro V H x h;simp only[T]at h;split at h
  ·rename_i E A H1 o;obtain⟨k,e⟩:=p o;refine⟨k,λN i n m=> ?_⟩;simp only[T,e N i n m];exact h
  ·rename_i z;obtain⟨k,e⟩:=p h;refine⟨k,λN i n m=> ?_⟩;simp only[T,e N i n m];split
   ·rename_i E bh H' w;cases w;exact absurd h (z _ _ _)
   ·rfl
 |loop b p=>
  intro V H x h;simp only[T]at h;obtain⟨k,e⟩:=I_ (g:=λN n=>T (gj P (ev P aj N n)) N b) (λV H x C=>p C) h;refine⟨max k M,λN i n m=> ?_⟩;simp only[T];exact Ja (e N ae n ae) ae
 |exit id=>intro V H x h;exact⟨0,λ_ _ _ _=>h⟩
 |ret=>intro V H x h;exact⟨0,λ_ _ _ _=>h⟩
 |label l=>intro V H x h;exact⟨0,λ_ _ _ _=>h⟩
 |goto l=>intro V H x h;cases h
 |scope b p=>intro V H x h;cases h
 |rangeFunc f G a b q s=>intro V H x h;cases h
 |refuse y=>intro V H x h;cases h
def Gg{f:Nat}{args:List aa}{H H':ad}{fn:Func}{c:Code}{M:Nat}{a:az}{V:bi}{e:List aa}(i:aj f args H=u)(m:P.funcs[f]? =I fn)(j:fn.body=I c)
  (h:T (gj P (al P aj)) M c (bi.enter fn.ntmps args) H=I (a,V,H')) (l:∀id,a≠ .exit id) (d:hQ P V H' fn.results.toList=I e):al P aj f args H=I (mW e,H'):=by
 obtain⟨k,o⟩:=Q8 c h;refine JP ⟨k+1,λN p n q=> ?_⟩;cases n with
 |zero=>omega
 |succ n=>
  simp only[ev,i,m,j,o N ae n ae];cases a with
  |exit id=>exact absurd rfl (l id)
  |normal=>simp only[d]
  |ret=>simp only[d]
def vq{f:Nat}{args:List aa}{H:ad}{r:aa×ad}(h:aj f args H=I r):al P aj f args H=I r:=by
 refine JP ⟨1,λN a n c=> ?_⟩;cases n with
 |zero=>omega
 |succ n=>simp only[ev,h]
end
abbrev O:=Option (aa×ad)
abbrev cF:=Nat->aa
def eM(V:cF)(a:Option Nat)(v:aa):cF:=match a with
 |none=>V
 |some d=>λe=>bif uv e d then v else V e
def dH(V:cF):Operand->Option aa
 | .tmp t=>I (V t)
 | .const v=>tz v
 | .global _=>u
 | .func f=>I (.func (.func f) [] [])
def m6(V:cF):List Operand->Option (List aa)
 |[]=>I []
 |x::xs=>(dH V x).bind λv=>(m6 V xs).bind λa=>I (v::a)
def s8(V:cF):List (Nat×Operand)->Option (List (Nat×aa))
 |[]=>I []
 |(i,x)::xs=>(dH V x).bind λv=>(s8 V xs).bind λa=>I ((i,v)::a)
def s9(V:cF):Option Operand->Option (Option aa)
 |none=>I u
 |some x=>(dH V x).bind λv=>I (I v)
def bC(c:aa)(a b:Option aa):Option aa:=match c with
 | .bool t=>bif t then a else b
 |_=>u
def vo(P:Program)(t:TypeId)(c:Bool)(a b:aa):Bool:=
 match a,b with
 | .nilIface,.nilIface=>c
 | .agg _,.agg _=> !P.eqGuardType P.depth t
 |_,_=>Y
def w(P:Program)(op:BinOp)(t:TypeId)(c:Bool)(x y:aa):Option aa:=
 match x,y with
 | .int k a,.int d b=>
  (match op with
  | .shl=>qK .shl k a b
  | .shr=>qK .shr k a b
  |op=>if k=d then hC op k a b else u)
 | .str a,.str b=>uU op a b
 |x,y=>
  (match op with
  | .eql=>if vo P t c x y then(kW P 10000 t x y).map .bool else u
  | .neq=>if vo P t c x y then(kW P 10000 t x y).map λb=> .bool (!b)else u
  |_=>u)
def Q0(P:Program)(t:TypeId)(x y:Operand)(a v:aa):vo P t (isConst x||isConst y) a v=ov P t x y a v:=by
 unfold vo ov;cases a<;>cases v<;>rfl
def Rf(P:Program)(op:BinOp)(t:TypeId)(x y:Operand)(a v:aa):w P op t (isConst x||isConst y) a v=sO P op t x y a v:=by
 unfold w sO;simp only[Q0];cases a<;>cases v<;>cases op<;>rfl
def vx(P:Program)(o:Op)(V:cF):Option aa:=
 match o with
 | .move x=>dH V x
 | .assign x=>dH V x
 | .pick c a b=>(dH V c).bind λe=>bC e (dH V a) (dH V b)
 | .build t q=>(s8 V q.toList).bind (bA P t)
 | .nilCheck x=>(dH V x).bind bd
 | .binOp op t x y _=>(dH V x).bind λe=>(dH V y).bind λv=>w P op t (isConst x||isConst y) e v
 | .unOp op _ x=>(dH V x).bind (cI op)
 | .convert s d x=>(dH V x).bind (mU P s d)
 | .makeInterface t x=>(dH V x).bind (zS P t)
 | .makeFunc fn f c=>(m6 V f.toList).bind λk=>(m6 V c.toList).bind λcs=>I (.func fn k cs)
 | .slice t x lo n p=>(dH V x).bind λv=>(s9 V lo).bind λl=>(s9 V n).bind λh=>(s9 V p).bind λm=>ff P t v l h m
 | .fieldAddr t x f=>(dH V x).bind λv=>j P t v f
 | .field t x f=>(dH V x).bind λv=>ca P t v f
 | .indexAddr t x i=>(dH V x).bind λe=>(dH V i).bind λv=>bX P t e v
 | .index t x i=>(dH V x).bind λe=>(dH V i).bind λv=>eF P t e v
 | .extract x i=>(dH V x).bind λv=>dG v i
 | .call c=>match c.callee with
  | .builtin b=>(m6 V c.args.toList).bind (bK P .empty b c.argTypes.toList)
  |_=>u
 |_=>u
def qH(P:Program)(o:Op)(V:cF)(H:ad):Option aa:=
 match o with
 | .load t x=>(dH V x).bind (A P H t)
 | .lookup t x k ok=>(dH V x).bind λa=>(dH V k).bind λv=>h_ P H t a v ok
 | .convert s d x=>(dH V x).bind (oj P H s d)
 | .call c=>match c.callee with
  | .builtin b=>(m6 V c.args.toList).bind (bK P H b c.argTypes.toList)
  |_=>u
 |_=>u
def cg(l:Nat)(v:aa):Option (aa×b_):=bif v.cells.all aa.one then I (.ptr l 0 0,.row X v.cells.length [v.cells])else u
def b0(P:Program)(l:Nat)(t:TypeId)(len:Nat)(parts:List (Nat×aa)):Option (aa×b_):=
 match P.underlying t with
 |some (.slice e)=>
  (match cS P e,fV P e with
  |some a,I z=>
   bif decide (len*a<=16777216/\z.cells.length=a/\z.cells.all aa.one=Y)then
    (jg a (rs len z.cells) parts).bind λels=>I (.ax l 0 len a (I len),.row X a els)
   else u
  |_,_=>u)
 |_=>u
def AJ(P:Program)(o:Op)(V:cF)(l:Nat):Option (aa×b_):=
 match o with
 | .alloc t=>(fV P t).bind (cg l)
 | .box _ x=>(dH V x).bind (cg l)
 | .buildSlice t n a=>(s8 V a.toList).bind (b0 P l t n)
 | .makeMap _ u=>I (.map l,.map [])
 | .makeSlice t x c=>(dH V x).bind λd=>(dH V c).bind λv=>oS (vf P ⟨.leaf,l⟩ t d v) l
 |_=>u
def AN(P:Program)(o:Op)(V:cF)(H:ad):Option (aa×ad):=
 match o with
 | .store t x y=>(dH V x).bind λa=>(dH V y).bind λv=>(aB P H t a v).bind λH'=>I (.tuple [],H')
 | .mapUpdate t m k x=>(dH V m).bind λa=>(dH V k).bind λv=>(dH V x).bind λz=>(fr P H t a v z).bind λH'=>I (.tuple [],H')
 | .insert t m k x=>(dH V m).bind λa=>(dH V k).bind λv=>(dH V x).bind λz=>(fr P H t a v z).bind λH'=>I (.tuple [],H')
 | .call c=>match c.callee,c.args.toList with
  | .builtin .append,[s,x]=>(dH V s).bind λa=>(dH V x).bind λv=>c_ P H c.argTypes.toList a v
  |_,_=>u
 |_=>u
def qv(f:aa)(c:List aa):Option (Nat×List aa):=match f with
 | .func (.func g) first a=>I (g,first++c++a)
 |_=>u
def Az(V:cF)(c:Call):Option (Nat×List aa):=
 match c.callee with
 | .value f=>(dH V f).bind λa=>(m6 V c.args.toList).bind λd=>qv a d
 |_=>u
def et(a b:Option aa)(k:K->O):O:=match a with
 |some v=>k (.pure v)
 |none=>b.bind λv=>k (.read v)
def zp(r:Option (aa×b_))(k:K->O):O:=match r with
 |some (v,b)=>k (.new v b)
 |none=>u
def cZ(H:ad)(r:O)(k:K->O):O:=match r with
 |some (v,H')=>bif decide (H.next<=H'.next)then k (.ea v H')else u
 |none=>u
def vu(P:Program)(call:e)(o:Op)(V:cF)(H:ad)(k:K->O):O:=
 match cls o with
 | .pure=>(vx P o V).bind λv=>k (.pure v)
 | .read=>(qH P o V H).bind λv=>k (.read v)
 | .both=>et (vx P o V) (qH P o V H) k
 | .new=>zp (AJ P o V H.next) k
 | .write=>cZ H (AN P o V H) k
 | .call=>match o with
  | .call c=>(Az V c).bind λp=>cZ H (call p.1 p.2 H) k
  |_=>u
def gN(b:aa)(a:Bool)(m:(K->O)->O)(k:K->O):O:=match b with
 | .bool t=>bif t==a then m k else k .skip
 |_=>k .skip
def vv(P:Program)(call:e)(a:Array Oper)(o:Oper)(V:cF)(H:ad)(k:K->O):O:=
 match o.guard with
 |none=>vu P call o.op V H k
 |some (j,c)=>match a[j]? with
  |some q=>(match q.dst with
   |some d=>gN (V d) c (vu P call o.op V H) k
   |none=>k .skip)
  |none=>k .skip
def y5(P:Program)(call:e)(a:Array Oper):List Oper->cF->ad->(cF->ad->O)->O
 |[],V,H,k=>k V H
 |o::os,V,H,k=>vv P call a o V H λx=>y5 P call a os (eM V o.dst x.val) (x.heap H) k
structure ge where
 i:Nat
 k:K
 rd:ad->Option aa
def m0(ms:List Nat):List ge->List Nat->Bool
 |[],_=>Y
 |t::ts,a=>match t.k with
  | .ea _ _=>a.all (λj=>dp ms j t.i)&&m0 ms ts (t.i::a)
  | .new _ _=>m0 ms ts (t.i::a)
  |_=>m0 ms ts a
def aZ(r:Option aa)(v:aa):Bool:=match r with
 |some a=>aa.beq a v
 |none=>X
def n_(ms:List Nat)(rd:ad->Bool)(i:Nat):List ge->ad->Bool
 |[],H=>rd H
 |t::ts,H=>bif t.k.fu then(dp ms t.i i||rd H)&&(dp ms i t.i||n_ ms rd i ts (t.k.heap H))else n_ ms rd i ts H
def oo(ms:List Nat)(i:Nat):List ge->Bool->Bool
 |[],_=>X
 |t::ts,s=>match t.k with
  | .new _ _=>(s&&dp ms t.i i&&ts.all λa=>nb a.k)||oo ms i ts (s|| !dp ms t.i i)
  | .ea _ _=>oo ms i ts (s|| !dp ms t.i i)
  |_=>oo ms i ts s
def oR(ms:List Nat)(rd:ad->Bool)(i:Nat):List ge->ad->Bool->Bool
 |[],_,_=>X
 |t::ts,H,s=>match t.k with
  | .new _ b=>bif s&&dp ms t.i i&&ts.all (λa=>nb a.k)then rd (H.push b).only||oR ms rd i ts (H.push b) (s|| !dp ms t.i i)else oR ms rd i ts (H.push b) (s|| !dp ms t.i i)
  | .ea _ H'=>oR ms rd i ts H' (s|| !dp ms t.i i)
  |_=>oR ms rd i ts H s
def uP(ms:List Nat)(rd:ad->Bool)(i:Nat)(T:List ge)(H:ad):Bool:=bif oo ms i T X then n_ ms rd i T H||oR ms rd i T H X else n_ ms rd i T H
def oa(ms:List Nat)(a:List Nat)(T:List ge)(H:ad):List ge->Bool
 |[]=>Y
 |t::ts=>(match t.k with
  | .read v=>a.contains t.i||uP ms (λH=>aZ (t.rd H) v) t.i T H
  |_=>Y)&&oa ms a T H ts
def jN(ms:List Nat)(a:List Nat)(T:List ge)(H:ad):Bool:=m0 ms T []&&oa ms a T H T
def sV(P:Program)(call:e)(a:Array Oper):List Nat->cF->ad->(List ge->cF->ad->O)->O
 |[],V,H,k=>k [] V H
 |i::c,V,H,k=>match a[i]? with
  |none=>u
  |some o=>vv P call a o V H λx=>sV P call a c (eM V o.dst x.val) (x.heap H) λT bh H'=>k (⟨i,x,qH P o.op V⟩::T) bh H'
def Ds(a:Array Oper):List Nat:=(order a).filter (tied a (dR a) (order a))
def quiet(a:Array Oper):Bool:=a.toList.all λo=> !oF o.op
def Cb(P:Program)(call:e)(a:Array Oper)(c:Bool)(V:cF)(H:ad)(k:cF->ad->O):O:=
 match c with
 |false=>y5 P call a a.toList V H k
 |true=>bif quiet a then sV P call a (order a) V H λ_ bh H'=>k bh H' else
  sV P call a (order a) V H λT bh H'=>bif jN (dR a) (Ds a) T H then k bh H' else u
def aO(c:Option aa)(a b:O):O:=match c with
 |some (.bool t)=>bif t then a else b
 |_=>u
abbrev eQ:=cF->ad->O
def look(i:Nat):List (Nat×eQ)->eQ
 |[],_,_=>u
 |(j,k)::ks,V,H=>bif uv i j then k V H else look i ks V H
def oG(b:eQ->eQ):Nat->eQ
 |0,_,_=>u
 |n+1,V,H=>b (λV H=>oG b n V H) V H
def a7(P:Program)(call:e)(N:Nat):Code->eQ->List (Nat×eQ)->eQ->eQ
 | .skip,h,_,_,V,H=>h V H
 | .region _ j d,h,_,_,V,H=>Cb P call j d V H h
 | .seq a b,h,ks,i,V,H=>a7 P call N a (λV H=>a7 P call N b h ks i V H) ks i V H
 | .cond c a b,h,ks,i,V,H=>aO (dH V c) (a7 P call N a h ks i V H) (a7 P call N b h ks i V H)
 | .block id b,h,ks,i,V,H=>a7 P call N b h ((id,h)::ks) i V H
 | .loop b,_,ks,i,V,H=>oG (λh V H=>a7 P call N b h ks i V H) N V H
 | .exit id,_,ks,_,V,H=>look id ks V H
 | .ret,_,_,i,V,H=>i V H
 | .label _,h,_,_,V,H=>h V H
 |_,_,_,_,_,_=>u
def rp(P:Program)(H:ad)(V:cF):List ResultVar->(List aa->O)->O
 |[],k=>k []
 | .tmp t::c,k=>rp P H V c λd=>k (V t::d)
 | .cell a t::c,k=>(A P H t (V a)).bind λv=>rp P H V c λd=>k (v::d)
def l4(P:Program)(a:List ResultVar):eQ:=λV H=>rp P H V a λc=>I (mW c,H)
def lN:List aa->cF
 |[],_=> .tuple []
 |v::_,0=>v
 |_::a,n+1=>lN a n
section
variable {P:Program}{aj:e}{call:e}{V bh:bi}{H:ad}
def lR(x:Operand):dH V.get x=ck V x:=by cases x<;>rfl
def vy:∀xs:List Operand,m6 V.get xs=ia V xs
 |[]=>rfl
 |x::xs=>by
  simp only[m6,ia,lR,vy xs];cases ck V x<;>cases ia V xs<;>rfl
def AL:∀xs:List (Nat×Operand),s8 V.get xs=je V xs
 |[]=>rfl
 |(i,x)::xs=>by
  simp only[s8,je,lR,AL xs];cases ck V x<;>cases je V xs<;>rfl
def R0(x:Option Operand):s9 V.get x=kd V x:=by
 cases x with
 |none=>rfl
 |some x=>simp only[s9,kd,lR];cases ck V x<;>rfl
def IV(o:Op):vx P o V.get=jf P o V:=by
 cases o<;>simp only[vx,jf,lR,vy,AL,R0,Rf]
 ·rename_i c a b;cases d:ck V c with
  |none=>rfl
  |some v=>cases v<;>first|rfl|(rename_i t;cases t<;>rfl)
 ·rename_i c;cases c.callee<;>rfl
def AM(o:Op):qH P o V.get H=hy P o V H:=by
 cases o<;>simp only[qH,hy,lR,vy]
 ·rename_i c;cases c.callee<;>rfl
def BD(v:aa)(l:Nat)(b:b_)(a:b.k6=Y):oS (I (v,ad.push ⟨.leaf,l⟩ b)) l=I (v,b):=by
 unfold oS;simp only[ad.bb,if_true];have:(ad.push ⟨.leaf,l⟩ b).get l=I b:=ad.a_ ⟨.leaf,l⟩ b;rw[this];simp[a]
def FL(l:Nat)(v:aa):cg l v=oS (qm ⟨.leaf,l⟩ v) l:=by
 unfold cg qm;by_cases h:v.cells.all aa.one=Y
 ·rw[h,if_pos rfl];exact(BD _ _ _ rfl).symm
 ·rw[if_neg h];simp only[hi]at h;rw[h];rfl
def aaZ(l:Nat)(t:TypeId)(n:Nat)(a:List (Nat×aa)):b0 P l t n a=oS (sP P ⟨.leaf,l⟩ t n a) l:=by
 unfold b0 sP;cases i:P.underlying t with
 |none=>rfl
 |some d=>
  cases d<;>try rfl
  rename_i e;simp only
  cases au:cS P e with
  |none=>rfl
  |some c=>
  cases j:fV P e with
  |none=>rfl
  |some z=>
   simp only
   by_cases h:n*c<=16777216/\z.cells.length=c/\z.cells.all aa.one=Y
   ·rw[if_pos h,decide_eq_true h];simp only[aK];cases jg c (rs n z.cells) a with
    |none=>rfl
    |some els=>exact(BD _ _ _ rfl).symm
   ·rw[if_neg h,decide_eq_false h];rfl
def RN(o:Op)(l:Nat):AJ P o V.get l=jK P o V l:=by
 unfold jK;cases o<;>simp only[AJ,om,lR,AL]<;>try rfl
 ·rename_i t;unfold va;cases fV P t with
  |none=>rfl
  |some v=>exact FL l v
 ·rename_i t x;cases ck V x with
  |none=>rfl
  |some v=>exact FL l v
 ·rename_i t n a;cases je V a.toList with
  |none=>rfl
  |some v=>exact aaZ l t n v
 ·rename_i t r;cases r with
  |none=>exact(BD _ _ _ rfl).symm
  |some r=>rfl
 ·rename_i t x c;cases ck V x with
  |none=>rfl
  |some d=>cases ck V c<;>rfl
def map_bind{c d:Type}(x:Option c)(f:c->d):x.bind (λa=>I (f a))=x.map f:=by cases x<;>rfl
def R1(o:Op):AN P o V.get H=kY P o V H:=by
 cases o<;>simp only[AN,kY,lR,map_bind]
 ·rename_i c;cases d:c.callee with
  |builtin b=>
   cases a:c.args.toList with
   |nil=>cases b<;>rfl
   |cons s r=>
    cases r with
    |nil=>cases b<;>rfl
    |cons x r=>cases r<;>cases b<;>rfl
  |value f=>rfl
  |invoke r m=>rfl
def Rh(c:Call):Az V.get c=lM V c:=by
 unfold Az lM;cases h:c.callee with
 |value f=>
  simp only[lR,vy];cases ck V f with
  |none=>rfl
  |some v=>
   cases i:ia V c.args.toList with
   |none=>
    simp only[bc,Option.bind_none];split<;>first|rfl|(simp_all;done)
   |some j=>
    simp only[bc];unfold qv;split
    ·rename_i g first d;rfl
    ·rename_i e;split
     ·rename_i g first d a
      simp only[aT]at a;exact absurd a (e _ _ _)
     ·rfl
 |invoke r m=>rfl
 |builtin b=>rfl
def HG(o:Op)(k:K->O):vu P call o V.get H k=(step1 P call o V H).bind k:=by
 unfold vu step1;cases e:cls o with
 |pure=>simp only[IV];cases jf P o V<;>rfl
 |read=>simp only[AM];cases hy P o V H<;>rfl
 |both=>
  simp only[IV,AM];unfold et;cases jf P o V with
  |some v=>rfl
  |none=>cases hy P o V H<;>rfl
 |new=>
  simp only[RN];unfold zp;cases jK P o V H.next<;>rfl
 |write=>
  simp only[R1];unfold cZ;cases h:kY P o V H with
  |none=>rfl
  |some r=>
   obtain⟨v,H'⟩:=r;simp only[qN];by_cases a:H.next<=H'.next
   ·rw[if_pos a,decide_eq_true a];rfl
   ·rw[if_neg a,decide_eq_false a];rfl
 |call=>
  cases o<;>try rfl
  rename_i c;simp only[Rh];cases lM V c with
  |none=>rfl
  |some p=>
   obtain⟨g,d⟩:=p;simp only[bc];unfold cZ;cases h:call g d H with
   |none=>rfl
   |some r=>
    obtain⟨v,H'⟩:=r;simp only[qN];by_cases a:H.next<=H'.next
    ·rw[if_pos a,decide_eq_true a];rfl
    ·rw[if_neg a,decide_eq_false a];rfl
def HH(a:Array Oper)(o:Oper)(k:K->O):vv P call a o V.get H k=(hX P call a o V H).bind k:=by
 unfold vv hX kX;cases h:o.guard with
 |none=>exact HG o.op k
 |some p=>
  obtain⟨j,c⟩:=p;simp only
  cases l:a[j]? with
  |none=>rfl
  |some q=>
   simp only
   cases e:q.dst with
   |none=>rfl
   |some d=>
    simp only
    cases m:V.get d<;>try rfl
    rename_i t;simp only[gN];cases i:(t==c)with
    |true=>simp only[aK];exact HG o.op k
    |false=>rfl
def Ou{a:Option Nat}{v:aa}(h:V.put a v=I bh):eM V.get a v=bh.get:=by
 funext e
 rw[bi.ta h];cases a with
 |none=>simp[eM]
 |some d=>
  simp only[eM];by_cases c:e=d
  ·subst c;simp[vw]
  ·have i:uv e d=false:=by rw[<-hi,zA];exact c
   rw[i];simp[Ne.symm c]
def ot(n:Nat)(o:Oper):Bool:=match o.dst with
 |none=>Y
 |some d=>decide (d<n)
def LO{o:Oper}(h:ot V.size o=Y)(v:aa):∃bh,V.put o.dst v=I bh/\bh.size=V.size:=by
 unfold ot at h;cases a:o.dst with
 |none=>exact⟨V,rfl,rfl⟩
 |some d=>
  rw[a]at h;exact⟨{V with t:=bG.put v (d+1) V.t d},by simp only[bi.put];rw[if_pos (of_decide_eq_true h)],rfl⟩
def MD(a:Array Oper)(k:cF->ad->O):∀(os:List Oper) (V:bi) (H:ad),os.all (ot V.size)=Y->
  y5 P call a os V.get H k=(h5 P call a os V H).bind λp=>k p.1.get p.2
 |[],V,H,_=>rfl
 |o::os,V,H,h=>by
  simp only[List.all_cons,de]at h;simp only[y5,h5,HH];cases e:hX P call a o V H with
  |none=>rfl
  |some x=>
   obtain⟨bh,c,d⟩:=LO h.1 x.val;simp only[bc,c,Ou c];exact MD a k os bh _ (by rw[d];exact h.2)
def b4.c(P:Program)(t:b4):ge:=⟨t.i,t.k,qH P t.o.op t.V.get⟩
def F3(ms:List Nat):∀(T:List b4) (a:List Nat),m0 ms (T.map (b4.c P)) a=jm ms T a
 |[],_=>rfl
 |t::T,a=>by
  simp only[fg,m0,jm,b4.c];cases t.k<;>simp only[F3 ms T]
def DP(ms:List Nat)(rd:ad->Bool)(i:Nat):∀(T:List b4) (H:ad),n_ ms rd i (T.map (b4.c P)) H=j7 ms rd i T H
 |[],_=>rfl
 |t::T,H=>by
  simp only[fg,n_,j7,b4.c];cases t.k.fu
  ·simp only[aH];exact DP ms rd i T H
  ·simp only[aK,if_true];rw[DP ms rd i T]
def FR(ms:List Nat)(i:Nat):∀(T:List b4) (s:Bool),oo ms i (T.map (b4.c P)) s=oq ms i T s
 |[],_=>rfl
 |t::T,s=>by
  simp only[fg,oo,oq,b4.c];cases t.k<;>simp only[FR ms i T,wx]<;>rfl
def KJ(ms:List Nat)(rd:ad->Bool)(i:Nat):∀(T:List b4) (H:ad) (s:Bool),oR ms rd i (T.map (b4.c P)) H s=kp ms rd i T H s
 |[],_,_=>rfl
 |t::T,H,s=>by
  simp only[fg,oR,kp,b4.c];cases t.k<;>simp only[KJ ms rd i T,wx]<;>rfl
def aaE(ms:List Nat)(rd:ad->Bool)(i:Nat)(T:List b4)(H:ad):uP ms rd i (T.map (b4.c P)) H=sp ms rd i T H:=by
 simp only[uP,sp,FR,KJ,DP]
def OF(ms:List Nat)(d:List Nat)(a:Nat->Bool)(T:List b4)(H:ad):∀(S:List b4),(∀t∈S,d.contains t.i=a t.i)->oa ms d (T.map (b4.c P)) H (S.map (b4.c P))=lE P ms a T H S
 |[],_=>rfl
 |t::S,h=>by
  simp only[fg,oa,lE,OF ms d a T H S λt aq=>h t (by simp[aq])]
  congr 1
  simp only[b4.c,h t (by simp)];cases t.k<;>try rfl
  simp only[aaE]
  congr 2
  funext H
  simp only[aZ,o5,AM];cases hy P t.o.op t.V H<;>rfl
def LR(ms:List Nat):∀(T:List b4) (a:List Nat),(∀t∈T,t.k.fu=X)->jm ms T a=Y
 |[],_,_=>rfl
 |t::T,a,h=>by
  have aq:=h t (by simp);simp only[jm];have e:=LR ms T a λi d=>h i (by simp[d])
  cases c:t.k<;>rw[c]at aq<;>first|exact e|(cases aq;done)
def LS(ms:List Nat)(a:Nat->Bool)(T:List b4)(H:ad):∀(S:List b4),(∀t∈S,a t.i=Y)->lE P ms a T H S=Y
 |[],_=>rfl
 |t::S,h=>by
  simp only[lE,h t (by simp),LS ms a T H S λt aq=>h t (by simp[aq]),xy,tu];cases t.k<;>rfl
def Af(a:Array Oper):∀(d:List Nat) (V:bi) (H:ad) (k:List ge->cF->ad->O),a.toList.all (ot V.size)=Y->
  sV P call a d V.get H k=(canRun P call a d V H).bind λp=>k (p.1.map (b4.c P)) p.2.1.get p.2.2
 |[],V,H,k,_=>rfl
 |i::d,V,H,k,h=>by
  simp only[sV,canRun];cases m:a[i]? with
  |none=>rfl
  |some o=>
   simp only[HH];cases q:hX P call a o V H with
   |none=>rfl
   |some x=>
    have l:ot V.size o=true:=by
     rw[ef]at h;exact h o (by have:=cd m;simpa using this)
    obtain⟨bh,e,j⟩:=LO l x.val;simp only[bc,e,Ou e];rw[Af a d bh _ _ (by rw[j];exact h)];cases canRun P call a d bh (x.heap H)with
    |none=>rfl
    |some p=>obtain⟨T,n,H1⟩:=p;rfl
def US(a:Array Oper)(d:Bool)(k:cF->ad->O)(h:a.toList.all (ot V.size)=Y):Cb P call a d V.get H k=(gj P call a d V H).bind λp=>k p.1.get p.2:=by
 unfold Cb gj;cases d with
 |false=>exact MD a k _ V H h
 |true=>
  simp only
  rw[Af a _ V H _ h,Af a _ V H _ h];cases l:canRun P call a (order a) V H with
  |none=>cases quiet a<;>rfl
  |some p=>
   obtain⟨T,C,H1⟩:=p;have v:=(k0 l).1;have x:∀t∈T,t.i∈order a:=λt aq=>by rw[<-v];exact List.mem_map.2 ⟨t,aq,rfl⟩
   have z:∀t∈T,(Ds a).contains t.i=tied a (dR a) (order a) t.i:=λt aq=>by
    unfold Ds;rw[Bool.eq_iff_iff,List.contains_iff_mem,List.mem_filter];exact⟨λh=>h.2,λh=>⟨x t aq,h⟩⟩
   simp only[bc];cases c:quiet a with
   |true=>
    have m:∀o∈a.toList,oF o.op=false:=λo y=>by
     unfold quiet at c;rw[ef]at c;simpa using c o y
    have ar:∀t∈T,t.k.fu=false:=λt aq=>by
     obtain⟨A,B,n⟩:=List.append_of_mem aq;have e:=Ag (P:=P) (call:=call) (by rw[<-n];exact l);cases s:t.k.fu with
     |false=>rfl
     |true=>
      have:=Jh e.2.2.1 s;rw[m t.o (by have:=cd e.1;simpa using this)]at this;cases this
    have q:∀t∈T,tied a (dR a) (order a) t.i=true:=λt _=>by
     unfold tied;rw[ef];intro j _;cases w:a[j]? with
     |none=>simp
     |some o=>simp[m o (by have:=cd w;simpa using this)]
    simp only[aK,LR (dR a) T [] ar,LS (dR a) _ T H T q];rfl
   |false=>
    simp only[aH,jN,F3,OF _ _ _ T H T z];cases jm (dR a) T []with
    |false=>rfl
    |true=>
     cases lE P (dR a) (tied a (dR a) (order a)) T H T<;>rfl
def jj(n:Nat):Code->Bool
 | .region _ c _=>c.toList.all (ot n)
 | .seq a b=>jj n a&&jj n b
 | .cond _ a b=>jj n a&&jj n b
 | .block _ b=>jj n b
 | .loop b=>jj n b
 |_=>Y
def qz(r:Option (az×bi×ad))(a:eQ)(ks:List (Nat×eQ))(c:eQ):O:=match r with
 |some (.normal,V,H)=>a V.get H
 |some (.exit id,V,H)=>look id ks V.get H
 |some (.ret,V,H)=>c V.get H
 |none=>u
def MV{c:Array Oper}:∀{os:List Oper} {V bh:bi} {H H':ad},h5 P call c os V H=I (bh,H')->bh.size=V.size
 |[],V,bh,H,H',h=>by
  simp only[h5,aT,bS]at h;rw[h.1]
 |o::os,V,bh,H,H',h=>by
  simp only[h5]at h;split at h
  ·cases h
  ·split at h
   ·cases h
   ·rename_i d a;rw[MV h,bi.su a]
def MS{e:Array Oper}:∀{a:List Nat} {V bh:bi} {H H':ad} {T:List b4},canRun P call e a V H=I (T,bh,H')->bh.size=V.size
 |[],V,bh,H,H',T,h=>by
  simp only[canRun,aT,bS]at h;rw[h.2.1]
 |i::a,V,bh,H,H',T,h=>by
  simp only[canRun]at h;split at h
  ·cases h
  ·split at h
   ·cases h
   ·split at h
    ·cases h
    ·rename_i j c;split at h
     ·cases h
     ·rename_i d;simp only[aT,bS]at h;obtain⟨_,rfl,_⟩:=h;rw[MS d,bi.su c]
def aaU{c:Array Oper}{d:Bool}{V bh:bi}{H H':ad}(h:gj P call c d V H=I (bh,H')):bh.size=V.size:=by
 unfold gj at h;split at h
 ·exact MV h
 ·split at h
  ·cases h
  ·rename_i a;split at h
   ·cases h
   ·split at h
    ·cases h
    ·simp only[aT,bS]at h;obtain⟨rfl,_⟩:=h;exact MS a
def MU{f:bi->ad->Option (az×bi×ad)}(c:∀V H a bh H',f V H=I (a,bh,H')->bh.size=V.size):
  ∀{n:Nat} {V:bi} {H:ad} {a:az} {bh:bi} {H':ad},iter f n V H=I (a,bh,H')->bh.size=V.size
 |0,_,_,_,_,_,h=>by cases h
 |n+1,V,H,a,bh,H',h=>by
  simp only[iter]at h;split at h
  ·rename_i e H1 d;rw[MU c h,c _ _ _ _ _ d]
  ·exact c _ _ _ _ _ h
def MT{N:Nat}:∀(c:Code) {V:bi} {H:ad} {e:az} {bh:bi} {H':ad},T (gj P call) N c V H=I (e,bh,H')->bh.size=V.size:=by
 intro c
 induction c with
 |skip=>intro V H e bh H' h;simp only[T,aT,bS]at h;rw[h.2.1]
 |region id p d=>
  intro V H e bh H' h;simp only[T]at h;split at h
  ·rename_i n H1 i;simp only[aT,bS]at h;obtain⟨_,rfl,_⟩:=h;exact aaU i
  ·cases h
 |seq a b k m=>
  intro V H e bh H' h;simp only[T]at h;split at h
  ·rename_i n H1 i;rw[m h,k i]
  ·exact k h
 |cond c a b k m=>
  intro V H e bh H' h;simp only[T]at h;split at h
  ·exact k h
  ·exact m h
  ·cases h
 |block id b j=>
  intro V H e bh H' h;simp only[T]at h;split at h
  ·rename_i o n H1 i;split at h<;>(simp only[aT,bS]at h;obtain⟨_,rfl,_⟩:=h;exact j i)
  ·exact j h
 |loop b j=>
  intro V H e bh H' h;simp only[T]at h;exact MU (λ_ _ _ _ _ h=>j h) h
 |exit id=>intro V H e bh H' h;simp only[T,aT,bS]at h;rw[h.2.1]
 |ret=>intro V H e bh H' h;simp only[T,aT,bS]at h;rw[h.2.1]
 |label l=>intro V H e bh H' h;simp only[T,aT,bS]at h;rw[h.2.1]
 |goto l=>intro V H e bh H' h;cases h
 |scope b j=>intro V H e bh H' h;cases h
 |rangeFunc f q a b k m=>intro V H e bh H' h;cases h
 |refuse y=>intro V H e bh H' h;cases h
def I9{f:bi->ad->Option (az×bi×ad)}{b:eQ->eQ}{ks:List (Nat×eQ)}{i:eQ}(m:Nat)(au:∀V H c bh H',f V H=I (c,bh,H')->bh.size=V.size)
  (e:∀(V:bi) (H:ad) (a:eQ),V.size=m->b a V.get H=qz (f V H) a ks i) (a:eQ):∀(n:Nat) (V:bi) (H:ad),V.size=m->oG b n V.get H=qz (iter f n V H) a ks i
 |0,V,H,_=>rfl
 |n+1,V,H,d=>by
  simp only[oG,iter];rw[e V H _ d];cases h:f V H with
  |none=>rfl
  |some x=>
   obtain⟨c,j,H1⟩:=x;cases c with
   |normal=>exact I9 m au e a n j H1 (by rw[au _ _ _ _ _ h];exact d)
   |exit id=>rfl
   |ret=>rfl
def FW{N:Nat}:∀(c:Code) (V:bi) (H:ad) (e:eQ) (ks:List (Nat×eQ)) (i:eQ),jj V.size c=Y->a7 P call N c e ks i V.get H=qz (T (gj P call) N c V H) e ks i:=by
 intro c
 induction c with
 |skip=>intro V H e ks i _;rfl
 |region id s d=>
  intro V H e ks i h;simp only[a7,T];rw[US s d e h];cases gj P call s d V H<;>rfl
 |seq a b m n=>
  intro V H e ks i h;simp only[jj,de]at h;simp only[a7,T];rw[m V H _ ks i h.1];cases p:T (gj P call) N a V H with
  |none=>rfl
  |some x=>
   obtain⟨o,j,H1⟩:=x;cases o with
   |normal=>exact n j H1 e ks i (by rw[MT a p];exact h.2)
   |exit id=>rfl
   |ret=>rfl
 |cond c a b m n=>
  intro V H e ks i h;simp only[jj,de]at h;simp only[a7,T,lR];unfold aO;cases ck V c with
  |none=>rfl
  |some v=>
   cases v<;>try rfl
   rename_i t;cases t
   ·exact n V H e ks i h.2
   ·exact m V H e ks i h.1
 |block id b k=>
  intro V H e ks i h;simp only[a7,T];rw[k V H e _ i h];cases p:T (gj P call) N b V H with
  |none=>rfl
  |some x=>
   obtain⟨o,j,H1⟩:=x;cases o with
   |normal=>rfl
   |ret=>rfl
   |exit q=>
    simp only[qz,look];by_cases hid:q=id
    ·subst hid;simp[vw]
    ·have w:uv q id=false:=by rw[<-hi,zA];exact hid
     rw[w,if_neg hid];rfl
 |loop b k=>
  intro V H e ks i h;simp only[a7,T];exact I9 V.size (λ_ _ _ _ _ h=>MT b h) (λj H1 e z=>k j H1 e ks i (by rw[z];exact h)) e N V H rfl
 |exit id=>intro V H e ks i _;rfl
 |ret=>intro V H e ks i _;rfl
 |label l=>intro V H e ks i _;rfl
 |goto l=>intro V H e ks i _;rfl
 |scope b k=>intro V H e ks i _;rfl
 |rangeFunc f A a b m n=>intro V H e ks i _;rfl
 |refuse y=>intro V H e ks i _;rfl
def wy{V:bi}{H:ad}:∀(c:List ResultVar) (k:List aa->O),rp P H V.get c k=(hQ P V H c).bind k
 |[],k=>rfl
 | .tmp t::c,k=>by
  simp only[rp,hQ,qq];rw[wy c];cases hQ P V H c<;>rfl
 | .cell a t::c,k=>by
  simp only[rp,hQ,qq];cases A P H t (V.get a)with
  |none=>rfl
  |some v=>
   simp only[bc];rw[wy c];cases hQ P V H c<;>rfl
def Ex(n:Nat)(args:List aa):(bi.enter n args).get=lN args:=by
 have h:∀(args:List aa) (d:Nat),lN args d=(args[d]?).getD (.tuple []):=by
  intro args
  induction args with
  |nil=>intro d;cases d<;>rfl
  |cons v e c=>
   intro d;cases d with
   |zero=>rfl
   |succ d=>simpa [lN]using c d
 funext d
 rw[h];unfold bi.get bi.enter;simp only[BE];by_cases a:d<args.length
 ·rw[if_pos ae];simp[a]
 ·rw[if_neg ae,bG.s_];simp[a]
def Q9{f:Nat}{args:List aa}{H:ad}{fn:Func}{c:Code}{M:Nat}{r:aa×ad}(j:aj f args H=u)(m:P.funcs[f]? =I fn)(l:fn.body=I c)(n:jj fn.ntmps c=Y)(o:yz args.length fn.ntmps=Y)
  (h:a7 P (al P aj) M c (l4 P fn.results.toList) [] (l4 P fn.results.toList) (lN args) H=I r):al P aj f args H=I r:=by
 have au:(bi.enter fn.ntmps args).size=fn.ntmps:=by have:=jk o;simp only[bi.enter];omega
 rw[<-Ex fn.ntmps,FW c _ _ _ _ _ (by rw[au];exact n)]at h;unfold qz at h;have fin:∀(V:bi) (H':ad),l4 P fn.results.toList V.get H'=I r->∃d,hQ P V H' fn.results.toList=I d/\r=(mW d,H'):=by
  intro V H' a;unfold l4 at a;rw[wy]at a;cases k:hQ P V H' fn.results.toList with
  |none=>rw[k]at a;cases a
  |some d=>rw[k]at a;exact⟨d,rfl,(Option.some.inj a).symm⟩
 split at h
 ·rename_i V H' i;obtain⟨d,e,rfl⟩:=fin V H' h;exact Gg j m l i (λid=>by intro a;cases a) e
 ·cases h
 ·rename_i V H' i;obtain⟨d,e,rfl⟩:=fin V H' h;exact Gg j m l i (λid=>by intro a;cases a) e
 ·cases h
end
end Go.bk
namespace Go
def d:Code->Code
 | .seq a _=>a
 | .cond _ a _=>a
 | .block _ b=>b
 | .loop b=>b
 |c=>c
def L:Code->Code
 | .seq _ b=>b
 | .cond _ _ b=>b
 |c=>c
def Code.test:Code->Operand
 | .cond c _ _=>c
 |_=> .tmp 0
def Code.num:Code->Nat
 | .block id _=>id
 | .exit id=>id
 |_=>0
def Code.SD:Code->Bool| .seq _ _=>Y|_=>X
def Code.Sw:Code->Bool| .cond _ _ _=>Y|_=>X
def Code.Sv:Code->Bool| .block _ _=>Y|_=>X
def Code.Sz:Code->Bool| .loop _=>Y|_=>X
end Go
namespace Go.bk
section
variable {P:Program}{call:e}{N:Nat}{i_ hw:eQ}{hx:List (Nat×eQ)}
def Q{c:Code}{k T:eQ}(e:c.SD=Y)(i:∀V H,a7 P call N (L c) i_ hx hw V H=k V H)(h:∀V H,a7 P call N (d c) k hx hw V H=T V H):
  ∀V H,a7 P call N c i_ hx hw V H=T V H:=by
 cases c<;>first|cases e|skip
 rename_i a b;intro V H;rw[<-h];show a7 P call N a (λV H=>a7 P call N b i_ hx hw V H) hx hw V H=_;rw[show(λV H=>a7 P call N b i_ hx hw V H)=k from funext λV=>funext λH=>i V H];rfl
def e6{c:Code}{A B:eQ}(h:c.Sw=Y)(a:∀V H,a7 P call N (d c) i_ hx hw V H=A V H)(e:∀V H,a7 P call N (L c) i_ hx hw V H=B V H):
  ∀V H,a7 P call N c i_ hx hw V H=aO (dH V c.test) (A V H) (B V H):=by
 cases c<;>first|cases h|skip
 intro V H;rw[<-a,<-e];rfl
def cn{c:Code}{T:eQ}(e:c.Sv=Y)(a:∀V H,a7 P call N (d c) i_ ((c.num,i_)::hx) hw V H=T V H):∀V H,a7 P call N c i_ hx hw V H=T V H:=by
 cases c<;>first|cases e|skip
 intro V H;rw[<-a];rfl
def cY{c:Code}{k:Nat->eQ}(h:c.Sz=Y)(e:∀V H,k 0 V H=u)(au:∀n V H,a7 P call N (d c) (k n) hx hw V H=k (n+1) V H):∀V H,a7 P call N c i_ hx hw V H=k N V H:=by
 cases c<;>first|cases h|skip
 rename_i b;have key:∀n V H,oG (λa V H=>a7 P call N b a hx hw V H) n V H=k n V H:=by
  intro n
  induction n with
  |zero=>intro V H;exact(e V H).symm
  |succ n i=>
   intro V H;rw[<-au n V H];show a7 P call N b (λV H=>oG _ n V H) hx hw V H=_;rw[show(λV H=>oG (λa V H=>a7 P call N b a hx hw V H) n V H)=k n from funext λV=>funext λH=>i V H];rfl
 intro V H;exact key N V H
def q(c:Code):∀V H,a7 P call N c i_ hx hw V H=a7 P call N c i_ hx hw V H:=λ_ _=>rfl
def C(r:Option aa)(k:aa->O):O:=match r with
 |some v=>k v
 |none=>u
def i(H:ad)(r:O)(k:aa->ad->O):O:=match r with
 |some (v,H')=>bif decide (H.next<=H'.next)then k v H' else u
 |none=>u
def aG(H:ad)(r:Option ad)(k:ad->O):O:=i H (r.bind λH'=>I (.tuple [],H')) λ_ H'=>k H'
def bO(H:ad)(r:Option (aa×b_))(k:aa->ad->O):O:=match r with
 |some (v,b)=>k v (H.push b)
 |none=>u
def bn(H:ad)(cs:List aa)(k:aa->ad->O):O:=k (.ptr H.next 0 0) (H.push (.row X cs.length [cs]))
def n(fn:Func):Code:=match fn.body with
 |some c=>c
 |none=> .skip
def bU(P:Program)(b:Builtin)(ts:List TypeId)(a:List aa)(H:ad)(k:aa->O):O:=match bK P .empty b ts a with
 |some v=>k v
 |none=>(bK P H b ts a).bind k
def sG(P:Program)(s d:TypeId)(v:aa)(H:ad)(k:aa->O):O:=match mU P s d v with
 |some v=>k v
 |none=>(oj P H s d v).bind k
def jG(call:e)(H:ad)(f:aa)(a:List aa)(k:aa->ad->O):O:=(qv f a).bind λp=>i H (call p.1 p.2 H) k
def bP(v:aa)(q:K->O):O:=q (.pure v)
def k(r:Option aa)(q:K->O):O:=r.bind λv=>q (.pure v)
def qr(r:Option aa)(q:K->O):O:=r.bind λv=>q (.read v)
def S(b:aa)(a:Bool)(H:ad)(m:(K->O)->O)(k:aa->ad->O):O:=gN b a m λx=>k x.val (x.heap H)
end
end Go.bk
namespace Go.bk
def W(m:O)(Q:aa->ad->Prop):Prop:=∃v H,m=I (v,H)/\Q v H
def aD{v:aa}{H:ad}{Q:aa->ad->Prop}:W (I (v,H)) Q↔Q v H:=by
 constructor
 ·rintro⟨a,H',h,q⟩;simp only[aT,bS]at h;obtain⟨rfl,rfl⟩:=h;exact q
 ·exactλq=>⟨v,H,rfl,q⟩
def W.mono{m:O}{Q a:aa->ad->Prop}(h:W m Q)(c:∀v H,Q v H->a v H):W m a:=by
 obtain⟨v,H,e,q⟩:=h;exact⟨v,H,e,c v H q⟩
def aA{r:O}{H:ad}{k:aa->ad->O}{Q a:aa->ad->Prop}(h:W r a)(j:∀v H',a v H'->H.next<=H'.next/\W (k v H') Q):W (i H r k) Q:=by
 obtain⟨v,H',e,q⟩:=h;obtain⟨c,d⟩:=j v H' q;rw[e];simp only[i,decide_eq_true c,aK];exact d
def Pc{call:e}{f:Nat}{a c d:List aa}{H:ad}{k:aa->ad->O}{Q:aa->ad->Prop}(h:W (i H (call f (a++d++c) H) k) Q):W (jG call H (.func (.func f) a c) d k) Q:=h
def dZ{r:O}{H:ad}{q:K->O}{Q a:aa->ad->Prop}(h:W r a)(i:∀v H',a v H'->H.next<=H'.next/\W (q (.ea v H')) Q):W (cZ H r q) Q:=by
 obtain⟨v,H',e,j⟩:=h;obtain⟨c,d⟩:=i v H' j;rw[e];simp only[cZ,decide_eq_true c,aK];exact d
def gP{r:O}{H:ad}{x:aa}{k:aa->ad->O}{Q:aa->ad->Prop}(h:W r λv H'=>v=x/\H'=H)(a:W (k x H) Q):W (i H r k) Q:=by
 refine aA h ?_;rintro _ H' ⟨rfl,e⟩;rw[e];exact⟨aV _,a⟩
def jJ{r:O}{H:ad}{x:aa}{q:K->O}{Q:aa->ad->Prop}(h:W r λv H'=>v=x/\H'=H)(a:W (q (.ea x H)) Q):W (cZ H r q) Q:=by
 refine dZ h ?_;rintro _ H' ⟨rfl,e⟩;rw[e];exact⟨aV _,a⟩
def bt{m m':O}{Q:aa->ad->Prop}(a:∀r,m=I r->m'=I r)(h:W m Q):W m' Q:=by
 obtain⟨v,H,e,q⟩:=h;exact⟨v,H,a _ e,q⟩
def hv:Nat:=0
def ab6:Nat:=0
def OV:hv=ab6:=rfl
def sH(v:aa)(H:ad)(k:aa->ad->O):O:=k v H
section
variable {r ds:Option aa}{o q3:O}{m m':Option (aa×b_)}{h aU:Option ad}{H H':ad}{a bj:aa}{b cN:Bool}{z:Nat}
 @[congr] theorem ack {k:aa->ad->O} (e:a=bj) (d:H=H') (y:hv=z):sH a H k=sH bj H' k:=by rw[e,d]
def OK(H:ad)(cs:List aa)(k:aa->ad->O):bn H cs k=sH (.ptr H.next 0 0) (H.push (.row X cs.length [cs])) k:=rfl
def OS(v:aa)(H:ad)(k:aa->ad->O):sH v H k=k v H:=rfl
 @[congr] theorem acd {k:aa->O} (e:r=ds) (y:hv=z):C r k=C ds k:=by rw[e]
 @[congr] theorem acf {k:aa->ad->O} (d:H=H') (e:o=q3) (y:hv=z):i H o k=i H' q3 k:=by rw[d,e]
 @[congr] theorem acg {k:K->O} (d:H=H') (e:o=q3) (y:hv=z):cZ H o k=cZ H' q3 k:=by rw[d,e]
 @[congr] theorem aco {k:ad->O} (d:H=H') (e:h=aU) (y:hv=z):aG H h k=aG H' aU k:=by rw[d,e]
 @[congr] theorem acl {k:aa->ad->O} (d:H=H') (e:m=m') (y:hv=z):bO H m k=bO H' m' k:=by rw[d,e]
 @[congr] theorem acm {k:K->O} (e:m=m') (y:hv=z):zp m k=zp m' k:=by rw[e]
 @[congr] theorem acj {p q:O} (e:r=ds) (y:hv=z):aO r p q=aO ds p q:=by rw[e]
 @[congr] theorem ab7 {p q:O} (e:b=cN) (y:hv=z):cond b p q=cond cN p q:=by rw[e]
 @[congr] theorem ach {w:Bool} {f:(K->O)->O} {k:aa->ad->O} (e:a=bj) (y:hv=z):S a w H f k=S bj w H f k:=by rw[e]
 @[congr] theorem aci {w:Bool} {f:(K->O)->O} {k:K->O} (e:a=bj) (y:hv=z):gN a w f k=gN bj w f k:=by rw[e]
 @[congr] theorem ace {s s':Option aa} {k:K->O} (e:r=ds) (d:s=s') (y:hv=z):et r s k=et ds s' k:=by rw[d,e]
 @[congr] theorem ab9 {q:K->O} (e:r=ds) (y:hv=z):k r q=k ds q:=by rw[e]
 @[congr] theorem ab_ {q:K->O} (e:r=ds) (y:hv=z):qr r q=qr ds q:=by rw[e]
 @[congr] theorem aca {q:K->O} (e:a=bj) (y:hv=z):bP a q=bP bj q:=by rw[e]
def LP(v:aa)(q:K->O):k (I v) q=q (.pure v):=rfl
def LQ(v:aa)(q:K->O):qr (I v) q=q (.read v):=rfl
def LV(v:aa)(q:K->O):bP v q=q (.pure v):=rfl
end
def LZ(k:IntKind)(n:Int):aZ (I (.int k n)) (.int k n)=true:=by simp[aZ,aa.beq]
def L1(x:List UInt8):aZ (I (.str x)) (.str x)=true:=by simp[aZ,aa.beq]
def LY(x:Bool):aZ (I (.bool x)) (.bool x)=true:=by simp[aZ,aa.beq]
def l3(l i n e:Nat)(c:Option Nat):aZ (I (.ax l i n e c)) (.ax l i n e c)=true:=by simp[aZ,aa.beq]
def B_:aZ (I .ag) .ag=true:=rfl
def L0(x:List UInt8)(k:IntKind)(n:Int):aZ (I (.agg [.str x,.int k n])) (.agg [.str x,.int k n])=true:=by simp[aZ,aa.beq,fK.beq]
def ad.k4(H:ad)(b:b_)(l:Nat):(H.push b).get l=if l=H.next then I b else H.get l:=by
 split
 ·rename_i h;subst h;exact ad.a_ H b
 ·rename_i h;exact ad.dv h
def bG.wu{a:Type}(x y:a):∀(p:List kQ) (t:bG a),bG.l y p (bG.l x p t)=bG.l y p t
 |[],.leaf=>rfl
 |[],.node .. =>rfl
 |d::p,.leaf=>by cases d<;>simp[bG.l,bG.wu x y p]
 |d::p,.node .. =>by cases d<;>simp[bG.l,bG.wu x y p]
def ad.hG(H:ad)(b c:b_):(H.push b).set H.next c=H.push c:=by
 simp only[ad.push,ad.set,bG.put,bG.wu]
def ad.set_set(H:ad)(l:Nat)(b c:b_):(H.set l b).set l c=H.set l c:=by
 simp only[ad.set,bG.put,bG.wu]
def ad.m7{H:ad}{b:b_}{l:Nat}(h:l<=H.next)(aU:H.next<=l):(H.push b).get l=I b:=by
 obtain rfl:l=H.next:=ae
 exact ad.a_ H b
def ad.LL{H:ad}{b c:b_}{l:Nat}(h:l<=H.next)(aU:H.next<=l):(H.push b).set l c=H.push c:=by
 obtain rfl:l=H.next:=ae
 exact ad.hG H b c
def bV(S:Nat->Prop)(H H':ad):Prop:=H.next<=H'.next/\∀l,l<H.next->¬S l->H'.get l=H.get l
def aw(H H':ad):Prop:=H.next<=H'.next/\∀l,l<H.next->H'.get l=H.get l
def aw.refl(H:ad):aw H H:=⟨aV _,λ_ _=>rfl⟩
def aw.trans{H H1 a:ad}(h:aw H H1)(k:aw H1 a):aw H a:=⟨gh h.1 k.1,λl ak=>(k.2 l (lm ak h.1)).trans (h.2 l ak)⟩
def aw.push(H:ad)(b:b_):aw H (H.push b):=⟨by simp,λl ak=>ad.dv ae⟩
def aw.a1{H H1:ad}(h:aw H H1)(b:b_):aw H (H1.push b):=h.trans (aw.push H1 b)
def aw.bH{H H1:ad}(h:aw H H1){l:Nat}(ak:H.next<=l)(b:b_):aw H (H1.set l b):=
 ⟨h.1,λj a=>by rw[ad.get_set_other ae];exact h.2 j a⟩
def aw.get{H H':ad}(h:aw H H'){l:Nat}{b:b_}(a:H.get l=I b):H'.get l=I b:=by rw[h.2 l (ad.aF a)];exact a
def aw.mut{H H':ad}(h:aw H H')(S:Nat->Prop):bV S H H':=⟨h.1,λl ak _=>h.2 l ak⟩
def bV.refl(S:Nat->Prop)(H:ad):bV S H H:=(aw.refl H).mut S
def bV.trans{S:Nat->Prop}{H H1 a:ad}(h:bV S H H1)(k:bV S H1 a):bV S H a:=⟨gh h.1 k.1,λl ak au=>(k.2 l (lm ak h.1) au).trans (h.2 l ak au)⟩
def bV.a1{S:Nat->Prop}{H H1:ad}(h:bV S H H1)(b:b_):bV S H (H1.push b):=h.trans ((aw.push H1 b).mut S)
def bV.bH{S:Nat->Prop}{H H1:ad}(h:bV S H H1){l:Nat}(ak:S l\/H.next<=l)(b:b_):bV S H (H1.set l b):=
 ⟨h.1,λj a au=>by rw[ad.get_set_other (by rintro rfl;exact ak.elim au ae)];exact h.2 j a au⟩
def bV.get{S:Nat->Prop}{H H':ad}(h:bV S H H'){l:Nat}{b:b_}(a:H.get l=I b)(au:¬S l):H'.get l=I b:=by rw[h.2 l (ad.aF a) au];exact a
section
variable {P:Program}{H:ad}
def it(v:aa)(k:aa->O):C (I v) k=k v:=rfl
def e8(b:Bool)(x y:O):aO (I (.bool b)) x y=bif b then x else y:=rfl
def gF{v:aa}{H':ad}{k:aa->ad->O}(h:H.next<=H'.next):i H (I (v,H')) k=k v H':=by
 simp only[i,decide_eq_true h,aK]
def g9{H':ad}{k:ad->O}(h:H.next<=H'.next):aG H (I H') k=k H':=by
 simp only[aG,bc];exact gF h
def qc(v:aa)(b:b_)(k:aa->ad->O):bO H (I (v,b)) k=k v (H.push b):=rfl
def OR(m:(K->O)->O)(k:aa->ad->O):S (.bool Y) Y H m k=m (λx=>sH x.val (x.heap H) k):=rfl
def OM(m:(K->O)->O)(k:aa->ad->O):S (.bool X) X H m k=m (λx=>sH x.val (x.heap H) k):=rfl
def OQ(m:(K->O)->O)(k:aa->ad->O):S (.bool Y) X H m k=k (.tuple []) H:=rfl
def ON(m:(K->O)->O)(k:aa->ad->O):S (.bool X) Y H m k=k (.tuple []) H:=rfl
def OO(w:Bool)(m:(K->O)->O)(k:aa->ad->O):S (.tuple []) w H m k=k (.tuple []) H:=rfl
def OL(v:aa)(b:Option aa)(k:K->O):et (I v) b k=k (.pure v):=rfl
def Ls(a b:Option aa):bC (.bool Y) a b=a:=rfl
def Lr(a b:Option aa):bC (.bool X) a b=b:=rfl
def ED(b:Bool):cI .not (.bool b)=I (.bool (!b)):=rfl
def Eo(l i c:Nat):bd (.ptr l i c)=I (.ptr l i c):=rfl
def D1(v:aa):(K.pure v).val=v:=rfl
def D2(v:aa):(K.read v).val=v:=rfl
def D0(v:aa)(b:b_):(K.new v b).val=v:=rfl
def DZ(v:aa)(H':ad):(K.ea v H').val=v:=rfl
def D3:K.skip.val= .tuple []:=rfl
def u4(v:aa):(K.pure v).heap H=H:=rfl
def u5(v:aa):(K.read v).heap H=H:=rfl
def DX(v:aa)(b:b_):(K.new v b).heap H=H.push b:=rfl
def u3(v:aa)(H':ad):(K.ea v H').heap H=H':=rfl
def DY:K.skip.heap H=H:=rfl
def Ef(a:List aa)(i:Nat):dG (.tuple a) i=a[i]? :=rfl
def Hg(t:TypeId)(c:Bool)(k:IntKind)(a b:Int):w P .add t c (.int k a) (.int k b)=I (.int k (k.wrap (a+b))):=by simp[w,hC]
def Hp(t:TypeId)(c:Bool)(k:IntKind)(a b:Int):w P .sub t c (.int k a) (.int k b)=I (.int k (k.wrap (a-b))):=by simp[w,hC]
def Rg(t:TypeId)(c:Bool)(k:IntKind)(a b:Int):w P .mul t c (.int k a) (.int k b)=I (.int k (k.wrap (a*b))):=by simp[w,hC]
def Hh(t:TypeId)(c:Bool)(k:IntKind)(a b:Int):w P .eql t c (.int k a) (.int k b)=I (.bool (a==b)):=by simp[w,hC]
def Hm(t:TypeId)(c:Bool)(k:IntKind)(a b:Int):w P .neq t c (.int k a) (.int k b)=I (.bool (a != b)):=by simp[w,hC]
def Hl(t:TypeId)(c:Bool)(k:IntKind)(a b:Int):w P .lss t c (.int k a) (.int k b)=I (.bool (decide (a<b))):=by simp[w,hC]
def Hk(t:TypeId)(c:Bool)(k:IntKind)(a b:Int):w P .leq t c (.int k a) (.int k b)=I (.bool (decide (a<=b))):=by simp[w,hC]
def Hj(t:TypeId)(c:Bool)(k:IntKind)(a b:Int):w P .gtr t c (.int k a) (.int k b)=I (.bool (decide (b<a))):=by simp[w,hC]
def Hi(t:TypeId)(c:Bool)(k:IntKind)(a b:Int):w P .geq t c (.int k a) (.int k b)=I (.bool (decide (b<=a))):=by simp[w,hC]
def Hn(t:TypeId)(c:Bool)(a b:List UInt8):w P .eql t c (.str a) (.str b)=I (.bool (a==b)):=rfl
def Ho(t:TypeId)(c:Bool)(a b:List UInt8):w P .neq t c (.str a) (.str b)=I (.bool (!(a==b))):=rfl
def lP(t:TypeId)(c:Bool)(a b:List UInt8)(h:a.length+b.length<=9223372036854775807):w P .add t c (.str a) (.str b)=I (.str (a++b)):=by
 simp only[w,uU,if_pos h]
def Df{t:TypeId}{n:Nat}(k:cS P t=I n){l i c esz:Nat}{els:List (List aa)}{e:List aa}{v:aa}(h:H.get l=I (.row X esz els))(j:els[i]? =I e)(a:v.cells.length=n)(m:v.cells.all aa.one=Y)(d:c+n<=esz):
  aB P H t (.ptr l i c) v=I (H.set l (.row X esz (els.set i (cD e c v.cells)))):=by
 simp only[aB,h,j];rw[if_pos ⟨by rw[k,a],by rw[a];exact d,m⟩]
def eO(k:IntKind)(n:Int):(aa.int k n).one=true:=rfl
def fk(x:List UInt8):(aa.str x).one=true:=rfl
def oU(x:Bool):(aa.bool x).one=true:=rfl
def BK(l i c:Nat):(aa.ptr l i c).one=true:=rfl
def BL(l i n e:Nat)(c:Option Nat):(aa.ax l i n e c).one=true:=rfl
def q4:aa.ag.one=true:=rfl
def BJ(f:Fn)(a c:List aa):(aa.func f a c).one=true:=rfl
def gf{v:aa}(h:v.one=Y):v.cells=[v]:=by cases v<;>first|rfl|cases h
def ei(l:Nat)(cs:List aa)(h:cs.all aa.one=Y):cg l (.agg cs)=I (.ptr l 0 0,.row X cs.length [cs]):=by
 simp only[cg,aa.cells,h,aK]
end
end Go.bk
namespace Go.Proofs.YtghmbpmaafnodaaGreatDoor
open Go.bk
noncomputable def P:Program:=Tryz.prog
noncomputable abbrev p(f:Func):eQ:=l4 P f.results.toList
noncomputable abbrev vl(f:Func)(a:e)(N:Nat):eQ:=a7 P a N (n f) (p f) [] (p f)
def bm{A B C:eQ}(h:∀V H,A V H=B V H)(a:∀V H,B V H=C V H):∀V H,A V H=C V H:=λV H=>(h V H).trans (a V H)
def cG{A B:eQ}{V:cF}{H:ad}{t:O}(h:∀V H,A V H=B V H)(a:B V H=t):A V H=t:=(h V H).trans a
def uZ(H:ad)(r:Option ad)(k:aa->ad->O):O:=i H (r.bind λH'=>I (.tuple [],H')) k
def ab5{H H':ad}{k:aa->ad->O}(h:H.next<=H'.next):uZ H (I H') k=k (.tuple []) H':=by
 simp only[uZ,bc];exact gF h
 @[congr] theorem acn {H a:ad} {h aU:Option ad} {z:Nat} {k:aa->ad->O} (d:H=a) (e:h=aU) (c:hv=z):uZ H h k=uZ a aU k:=by rw[d,e]
def kH:List (List aa):=Lib.asciiSpaceTab.map λn=>[.int .u8 n]
def kR:Env:=λl=>match l with
 |0=>I ⟨0,0,1,256⟩
 |1=>I ⟨4,0,1,1⟩
 |_=>u
def nq:List (List aa):=[[.iface 191 (.ptr 2 0 0)]]
open Classical in
noncomputable def aj:e:=λf args H=>match f,args with
 |66,[.str s,.int .u8 c]=>I (.int .i64 (Lib.indexByte s c.toNat.toUInt8),H)
 |100,[.str s]=>if s.length<4294967281/\(∀(j:Nat) b,s[j]? =I b->b.toNat<128)/\H.get 0=I (.row Y 1 kH)then
  I (.ax H.next 0 (Lib.fields s).length 1 (I (Lib.fields s).length),H.push (.row X 1 ((Lib.fields s).map λl=>[.str l])))else u
 |99,[.str s]=>if s.length<=281474976710656/\H.get 1=I (.row Y 1 nq)then
  (match Lib.atoiAll s with
  | .ok v=>I (.tuple [.int .i64 v,.nilIface],H)
  | .range=>I (.tuple [.int .i64 (Lib.atoiSat s),.iface 152 (.ptr H.next 0 0)],H.push .dead)
  |_=>u)else u
 |_,_=>u
def XG{f:Nat}{fn:Func}{N:Nat}{args:List aa}{H:ad}{r:aa×ad}(a:aj f args H=u)(e:P.funcs[f]? =I fn)(c:fn.body=I (n fn))(d:jj fn.ntmps (n fn)=Y)(i:yz args.length fn.ntmps=Y)(h:vl fn (al P aj) N (lN args) H=I r):al P aj f args H=I r:=Q9 a e c d i h
def bu{f:Nat}{fn:Func}(N:Nat){args:List aa}{H:ad}{r:aa×ad}{S:e->O}(k:P.funcs[f]? =I fn)(j:∀a,vl fn a N (lN args) H=S a)(h:S (al P aj)=I r)(c:aj f args H=none:=by first|kernel_rfl)(d:fn.body=I (n fn):=by first|kernel_rfl)(i:jj fn.ntmps (n fn)=true:=by first|kernel_rfl)(l:yz args.length fn.ntmps=true:=by first|kernel_rfl):al P aj f args H=I r:=XG c k d i l ((j _).trans h)
end Go.Proofs.YtghmbpmaafnodaaGreatDoor
namespace Go.bk
def bG.B8{k:Type}(x y:k):∀(p q:List kQ) (t:bG k),p≠q->bG.l x p (bG.l y q t)=bG.l y q (bG.l x p t)
 |[],[],_,h=>absurd rfl h
 |[],d::q,.leaf,_=>by cases d<;>simp[bG.l]
 |[],d::q,.node ..,_=>by cases d<;>simp[bG.l]
 |d::p,[],.leaf,_=>by cases d<;>simp[bG.l]
 |d::p,[],.node ..,_=>by cases d<;>simp[bG.l]
 |d::p,e::q,.leaf,h=>by
  by_cases a:d=e
  ·subst a;have j:=bG.B8 x y p q .leaf (λi=>h (by rw[i]));cases d<;>simp[bG.l,j]
  ·cases d<;>cases e<;>first|exact absurd rfl a|simp[bG.l]
 |d::p,e::q,.node v c0 aQ c2 c3 c4 c5 m n,h=>by
  by_cases a:d=e
  ·subst a;have j:=λc=>bG.B8 x y p q c (λi=>h (by rw[i]))
   cases d<;>simp[bG.l,j]
  ·cases d<;>cases e<;>first|exact absurd rfl a|simp[bG.l]
def ad.gU{H:ad}{b c:b_}{l:Nat}(h:l<H.next):(H.push b).set l c=(H.set l c).push b:=by
 simp only[ad.push,ad.set,bG.put];rw[bG.B8 _ _ _ _ _ (λe=>by have:=Lo e;omega)]
def DR(m:(K->O)->O)(k:K->O):gN (.bool X) X m k=m k:=rfl
def ab4(m:(K->O)->O)(k:K->O):gN (.bool Y) X m k=k .skip:=rfl
def qk{c:Bool}{a b:O}{Q:aa->ad->Prop}(d:c=Y)(h:W a Q):W (bif c then a else b) Q:=by rw[d];exact h
def mB:List ge->ad->List ad
 |[],H=>[H]
 |t::ts,H=>H::mB ts (t.k.heap H)
def OE{ms:List Nat}{rd:ad->Bool}{i:Nat}:∀(T:List ge) (H:ad),(∀H'∈mB T H,rd H'=Y)->n_ ms rd i T H=Y
 |[],H,h=>h H (by simp[mB])
 |t::ts,H,h=>by
  have c:=h H (by simp[mB]);have a:=OE (ms:=ms) (rd:=rd) (i:=i) ts (t.k.heap H) (λH' j=>h H' (by simp[mB,j]));rw[n_];cases e:t.k.fu with
  |true=>simp[c,a]
  |false=>
   have:t.k.heap H=H:=by cases d:t.k<;>simp[d,K.fu,K.heap]at e ⊢
   rw[this]at a;simp[a]
def aaF{ms:List Nat}{rd:ad->Bool}{i:Nat}{T:List ge}{H:ad}(h:∀H'∈mB T H,rd H'=Y):uP ms rd i T H=true:=by
 rw[uP,OE T H h];cases oo ms i T X<;>rfl
def mJ(a:List Nat)(T:List ge)(H:ad):List ge->Prop
 |[]=>True
 |t::ts=>(∀v,t.k= .read v->a.contains t.i=Y\/∀H'∈mB T H,aZ (t.rd H') v=Y)/\mJ a T H ts
def OH{ms c:List Nat}{T:List ge}{H:ad}:∀S:List ge,mJ c T H S->oa ms c T H S=Y
 |[],_=>rfl
 |t::ts,h=>by
  rw[mJ]at h;rw[oa,OH ts h.2,tu];split
  ·rename_i v d;rcases h.1 v d with a|a
   ·rw[a,xy]
   ·rw[aaF a,Bool.or_true]
  ·rfl
def sY{ms a:List Nat}{T:List ge}{H:ad}(c:m0 ms T []=Y)(d:mJ a T H T):jN ms a T H=true:=by
 rw[jN,c,OH T d];rfl
section
variable {E:Env}{P:Program}{aj:e}
def Gd(i:og P){k:e}(o:jH E P k){N f:Nat}{args:List aa}{H H1:ad}{fn:Func}{c:Code}{d:az}{V:bi}{n:List aa}
  (a:P.funcs[f]? =I fn) (j:fn.body=I c) (v:T (gj P k) N c (bi.enter fn.ntmps args) H=I (d,V,H1)) (B:∀id,d≠ .exit id) (G:hQ P V H1 fn.results.toList=I n):mK E P f args H (mW n) H1:=by
 intro ρ w xs p y q M next C
 have s:=Ge (N:=N) L7 (L8 i.mixed o) c (i.Lw _ _ _ a j);have A:(fn.name== "runtime.NumGoroutine")=false:=i.names fn (cd a);have F:(callFunc f xs.toArray).run P w= .ok (.enter f xs.toArray) w:=by
  unfold callFunc;simp[a,j];intro z;simp[z]at A
 unfold oi;rw[F];simp only
 refine calls_of_wp a j (s _ _ _ _ _ v ρ w _ _ p y (F8 q fn.ntmps) λL bj K h l=> ?_);obtain⟨x,ap,aE⟩:=Mc l.rel h G;have m:=C x K L aE l;cases d with
 |normal=>exact⟨h.none,x,ap,m⟩
 |ret=>exact⟨h.none,x,ap,m⟩
 |exit id=>exact absurd rfl (B id)
def QK(m:og P){k:e}(l:jH E P k){f:Nat}{args:List aa}{H:ad}{fn:Func}{c:Code}{M:Nat}{r:aa×ad}(p:P.funcs[f]? =I fn)(o:fn.body=I c)(q:jj fn.ntmps c=Y)(s:yz args.length fn.ntmps=Y)
  (h:a7 P k M c (l4 P fn.results.toList) [] (l4 P fn.results.toList) (lN args) H=I r):mK E P f args H r.1 r.2:=by
 have au:(bi.enter fn.ntmps args).size=fn.ntmps:=by have:=jk s;simp only[bi.enter];omega
 rw[<-Ex fn.ntmps,FW c _ _ _ _ _ (by rw[au];exact q)]at h;unfold qz at h;have fin:∀(V:bi) (H':ad),l4 P fn.results.toList V.get H'=I r->∃d,hQ P V H' fn.results.toList=I d/\r=(mW d,H'):=by
  intro V H' a;unfold l4 at a;rw[wy]at a;cases n:hQ P V H' fn.results.toList with
  |none=>rw[n]at a;cases a
  |some d=>rw[n]at a;exact⟨d,rfl,(Option.some.inj a).symm⟩
 split at h
 ·rename_i V H' j;obtain⟨d,i,rfl⟩:=fin V H' h;exact Gd m l p o j (λid=>by intro a;cases a) i
 ·cases h
 ·rename_i V H' j;obtain⟨d,i,rfl⟩:=fin V H' h;exact Gd m l p o j (λid=>by intro a;cases a) i
 ·cases h
def Rel.Jd{ρ:Env}{H:ad}{w k:World}(h:Rel ρ H w)(o:∀b,b<w.heap.size->k.heap[b]? =w.heap[b]?):Rel ρ H k:=by
 have key:∀b x,w.heap[b]? =I x->k.heap[b]? =I x:=λb x e=>by
  rw[o b ?_];exact e;exact(Array.getElem?_eq_some_iff.1 e).1
 refine⟨λl ro esz els e=> ?_,λl es e=> ?_,h.apart⟩
 ·obtain⟨j,a,n,c,t,m,d,i⟩:=h.row l ro esz els e;exact⟨j,a,n,c,t,m,key _ _ d,i⟩
 ·obtain⟨j,a,ents,clock,d,i⟩:=h.map l es e;exact⟨j,a,ents,clock,key _ _ d,i⟩
def ad.QY(l:Nat):ad.empty.get l=none:=by
 cases h:ad.empty.get l with
 |none=>rfl
 |some b=>exact absurd (ad.aF h) (Nat.not_lt_zero l)
end
end Go.bk
namespace Go.Proofs.YtghmbpmaafnodaaGreatDoor
open Go.bk
def TF(a:List Func):Bool:=a.all λfn=> !(fn.name== "runtime.NumGoroutine")
def Qu(a:List Func):Bool:=a.all λfn=>match fn.body with
 |some c=>kr c
 |none=>Y
def Uz{P:Program}(a:P.follows .mixedOrders=Y)(d:TF P.funcs.toList=Y)(e:Qu P.funcs.toList=Y):og P:=by
 refine⟨a,λfn j=> ?_,λf fn c i h=> ?_⟩
 ·have:=ef.1 d fn (kl.2 j);simpa using this
 ·have:=ef.1 e fn (kl.2 (cd i));simpa [h]using this
set_option maxRecDepth 1000000
def wn:og P:=Uz M M M
