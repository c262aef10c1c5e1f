/-
  Texts of one proof, laid together: Hv17 Hv21 Hv22 Hv23 Hv24 Base Hv25 Pk.
-/
import Derived.Test.YtmhhnnklfcbgfaaGreatMD
import Derived.Test.YtmhhnnklfcbgfaaGreatProg
import Derived.KernelRfl
set_option linter.unusedVariables false
set_option linter.unusedSimpArgs false
set_option linter.defProp false
open Option renaming some→D,none→I
open Bool renaming true→C,false→Z
namespace Go.bz
def ih(P:Program)(call:aw)(ops:Array Oper):List Oper->ba->ad->Option (ba×ad)
 |[],R,H=>D (R,H)
 |o::os,R,H=>match fi P call ops o R H with
  |none=>I
  |some k=>match R.put o.dst k.val with
   |none=>I
   |some a7=>ih P call ops os a7 (k.heap H)
def Nq(o:Oper):Bool:=match cls o.op with
 | .write=>C
 | .call=>C
 |_=>Z
def need(m:Nat)(done:Nat):List Nat->List Nat
 |[]=>[]
 |j::a=>if m.testBit j&& !done.testBit j then j::need m done a else need m done a
def Lx(done:Nat):List Nat->Nat
 |[]=>done
 |j::a=>Lx (done|||2^j) a
def Bi(ms all:List Nat):List (Nat×Oper)->Nat->List Nat
 |[],done=>need (2^all.length-1) done all
 |(i,o)::is,done=>if Nq o&& !done.testBit i then
   (let a:=need (ms[i]?.getD 0) done all
    a++i::Bi ms all is (Lx done a|||2^i))
  else Bi ms all is done
def M5:Nat->List Oper->List (Nat×Oper)
 |_,[]=>[]
 |i,o::os=>(i,o)::M5 (i+1) os
def order(ops:Array Oper):List Nat:=Bi (b9 ops) (List.range ops.size) (M5 0 ops.toList) 0
def gT(P:Program)(call:aw)(ops:Array Oper)(draw:Bool)(R:ba)(H:ad):Option (ba×ad):=
 match draw with
 |false=>ih P call ops ops.toList R H
 |true=>match canRun P call ops (order ops) R H with
  |none=>I
  |some (T,a7,H')=>match m4 ops (order ops)with
   |some (a,b)=>(match q9 ops a b a7&&od P (b9 ops) (ik ops (b9 ops) (order ops)) T H T with
    |false=>I
    |true=>D (a7,H'))
   |none=>match jh (b9 ops) T []with
    |false=>I
    |true=>match kS P (b9 ops) (ik ops (b9 ops) (order ops)) T H T with
     |false=>I
     |true=>D (a7,H')
def lC:Code->Bool
 | .region _ ops C=>o2 ops (b9 ops) (order ops)
 | .seq a b=>lC a&&lC b
 | .cond _ a b=>lC a&&lC b
 | .block _ b=>lC b
 | .loop b=>lC b
 |_=>C
inductive fT where
 |normal
 |exit (id:Nat)
 |ret
def fT.z_:fT->Exit
 | .normal=> .normal
 | .exit id=> .exit id
 | .ret=> .ret
abbrev uI:=Array Oper->Bool->ba->ad->Option (ba×ad)
def iter(f:ba->ad->Option (fT×ba×ad)):Nat->ba->ad->Option (fT×ba×ad)
 |0,_,_=>I
 |n+1,R,H=>match f R H with
  |some (.normal,a7,H')=>iter f n a7 H'
  |r=>r
def c0(ie:uI)(N:Nat):Code->ba->ad->Option (fT×ba×ad)
 | .skip,R,H=>D (.normal,R,H)
 | .region _ ops d,R,H=>match ie ops d R H with
  |some (a7,H')=>D (.normal,a7,H')
  |none=>I
 | .seq a b,R,H=>match c0 ie N a R H with
  |some (.normal,a7,H')=>c0 ie N b a7 H'
  |r=>r
 | .cond c a b,R,H=>match b4 R c with
  |some (.bool C)=>c0 ie N a R H
  |some (.bool Z)=>c0 ie N b R H
  |_=>I
 | .block id b,R,H=>match c0 ie N b R H with
  |some (.exit e,a7,H')=>if e=id then D (.normal,a7,H')else D (.exit e,a7,H')
  |r=>r
 | .loop b,R,H=>iter (λR H=>c0 ie N b R H) N R H
 | .exit id,R,H=>D (.exit id,R,H)
 | .ret,R,H=>D (.ret,R,H)
 | .label _,R,H=>D (.normal,R,H)
 |_,_,_=>I
def ba.sh(t:bu ae):Nat->List ae->bu ae
 |_,[]=>t
 |i,v::ak=>ba.sh (bu.put v (i+1) t i) (i+1) ak
def ba.enter(n:Nat)(args:List ae):ba:=⟨ba.sh .leaf 0 args,args.length+(n-args.length)⟩
def pV(P:Program)(R:ba)(H:ad):ResultVar->Option ae
 | .tmp t=>D (R.get t)
 | .cell a t=>aI P H t (R.get a)
def h8(P:Program)(R:ba)(H:ad):List ResultVar->Option (List ae)
 |[]=>D []
 |r::rs=>match pV P R H r,h8 P R H rs with
  |some v,D ak=>D (v::ak)
  |_,_=>I
def kr:List ae->ae
 |[v]=>v
 |ak=> .tuple ak
def hn(P:Program)(aK:aw)(N:Nat):Nat->aw
 |0,_,_,_=>I
 |n+1,f,args,H=>match aK f args H with
 |some r=>D r
 |none=>match P.funcs[f]? with
  |none=>I
  |some fn=>match fn.body with
   |none=>I
   |some c=>match c0 (gT P (hn P aK N n)) N c (ba.enter fn.ntmps args) H with
    |none=>I
    |some (ex,R,H')=>match ex with
     | .exit _=>I
     |_=>match h8 P R H' fn.results.toList with
      |none=>I
      |some ak=>D (kr ak,H')
section
variable {E:Env}{P:Program}{aK:aw}{call:aw}{ie:uI}{N:Nat}
def DP{ops:Array Oper}:∀{os:List Oper} {R a7:ba} {H H':ad},ih P call ops os R H=D (a7,H')->H.next<=H'.next
 |[],R,a7,H,H',h=>by
  simp only[ih,bb,cK]at h;obtain⟨rfl,rfl⟩:=h;exact bC _
 |o::os,R,a7,H,H',h=>by
  simp only[ih]at h;split at h
  ·cases h
  ·rename_i k a;split at h
   ·cases h
   ·exact Nat.le_trans (Au a) (DP h)
def zh(ie:uI):Prop:=∀ops d R H a7 H',ie ops d R H=D (a7,H')->H.next<=H'.next
def Kb:zh (gT P call):=by
 intro ops d R H a7 H' h;unfold gT at h;split at h
 ·exact DP h
 ·split at h
  ·cases h
  ·rename_i T a H1 aq;split at h
   ·split at h
    ·cases h
    ·simp only[bb,cK]at h;obtain⟨rfl,rfl⟩:=h;rw[(kv aq).2.1];exact(p0 aq).le
   ·split at h
    ·cases h
    ·split at h
     ·cases h
     ·simp only[bb,cK]at h;obtain⟨rfl,rfl⟩:=h;rw[(kv aq).2.1];exact(p0 aq).le
def vv{f:ba->ad->Option (fT×ba×ad)}(az:∀R H ex a7 H',f R H=D (ex,a7,H')->H.next<=H'.next):∀{n:Nat} {R:ba} {H:ad} {ex:fT} {a7:ba} {H':ad},
  iter f n R H=D (ex,a7,H')->H.next<=H'.next
 |0,_,_,_,_,_,h=>by cases h
 |n+1,R,H,ex,a7,H',h=>by
  simp only[iter]at h;split at h
  ·rename_i a H1 af;exact Nat.le_trans (az _ _ _ _ _ af) (vv az h)
  ·exact az _ _ _ _ _ h
def GC(k:zh ie):∀(c:Code) {R:ba} {H:ad} {ex:fT} {a7:ba} {H':ad},c0 ie N c R H=D (ex,a7,H')->H.next<=H'.next:=by
 intro c
 induction c with
 |skip=>intro R H ex a7 H' h;simp only[c0,bb,cK]at h;obtain⟨_,_,rfl⟩:=h;exact bC _
 |region id ops d=>
  intro R H ex a7 H' h;simp only[c0]at h;split at h
  ·rename_i j H1 af;simp only[bb,cK]at h;obtain⟨_,_,rfl⟩:=h;exact k _ _ _ _ _ _ af
  ·cases h
 |seq a b g i=>
  intro R H ex a7 H' h;simp only[c0]at h;split at h
  ·rename_i j H1 af;exact Nat.le_trans (g af) (i h)
  ·exact g h
 |cond c a b g i=>
  intro R H ex a7 H' h;simp only[c0]at h;split at h
  ·exact g h
  ·exact i h
  ·cases h
 |block id b e=>
  intro R H ex a7 H' h;simp only[c0]at h;split at h
  ·rename_i m j H1 af;have:=e af;split at h<;>(simp only[bb,cK]at h;obtain⟨_,_,rfl⟩:=h;exact this)
  ·exact e h
 |loop b e=>
  intro R H ex a7 H' h;simp only[c0]at h;exact vv (λ_ _ _ _ _ h=>e h) h
 |exit id=>intro R H ex a7 H' h;simp only[c0,bb,cK]at h;obtain⟨_,_,rfl⟩:=h;exact bC _
 |ret=>intro R H ex a7 H' h;simp only[c0,bb,cK]at h;obtain⟨_,_,rfl⟩:=h;exact bC _
 |label l=>intro R H ex a7 H' h;simp only[c0,bb,cK]at h;obtain⟨_,_,rfl⟩:=h;exact bC _
 |goto l=>intro R H ex a7 H' h;cases h
 |scope b e=>intro R H ex a7 H' h;cases h
 |rangeFunc f db a b g i=>intro R H ex a7 H' h;cases h
 |refuse y=>intro R H ex a7 H' h;cases h
def Lw(j:ed E P call){ops:Array Oper}{Q:Exit->Act->World->Prop}:∀{os:List Oper} {R a7:ba} {H H':ad} {ρ:Env} {w:World} {a:Act},ih P call ops os R H=D (a7,H')->
  Rel ρ H w->iu E ρ H.next H'.next->dX ρ R a->(∀d b8 c,dX d a7 b8->Step ρ H w d H' c->Q .normal b8 c)->wpList P ops Q os a w
 |[],R,a7,H,H',ρ,w,a,h,e,_,au,i=>by
  simp only[ih,bb,cK]at h;obtain⟨rfl,rfl⟩:=h;exact i ρ a w au (.refl e)
 |o::os,R,a7,H,H',ρ,w,a,h,e,az,au,i=>by
  simp only[ih]at h;split at h
  ·cases h
  ·rename_i k n;split at h
   ·cases h
   ·rename_i ab r;have p:=DP h;have ae:=Au n;have go:∀x c d,bp d k.val x->Step ρ H w d (k.heap H) c->wpList P ops Q os (a.put o.dst x) c:=λx c d aA g=>
     Lw j h g.rel (az.after g) ((au.mono g.le).put r aA) λW q V af ah=>i W q V af (g.trans ah)
    unfold wpList;rw[Fj au o];rcases qh n with⟨hw,f⟩|⟨hw,rfl⟩
    ·rw[hw];simp only[if_true];refine .inl ?_;cases k with
     |skip=>exact f.elim
     |pure v=>exact JW f au λx aA=>go x w ρ aA (.refl e)
     |read v=>exact J9 e f au λx aA=>go x w ρ aA (.refl e)
     |new v b=>
      have m:ρ H.next=none:=az.new _ (bC _) (by simp only[K.heap,ad.dm]at p;omega)
      refine Jd f au m λx c d loc u G L M N O S T U y z B=>go x c d u ?_
      have s:fx ρ H w (H.next+1) (λ_=>I) ρ H w:=fx.start e λl af ah=>by
       have:l=H.next:=aa
       rw[this];exact m
      have t:=s.early (bC _) aa rfl G L M N O S T U y z B;exact(t.Ms (b:=b) (by simp)).done rfl
     |cN v Y=>
      exact Gt j e (az.left p) f au λx c d af ah=>go x c d af ah
    ·rw[hw];simp only[Bool.false_eq_true,if_false];exact go undef w ρ (.tuple [] [] .nil) (.refl e)
def EG(E:Env)(P:Program)(ie:uI):Prop:=∀(id:Nat) (ops:Array Oper) (d:Bool) (R:ba) (H:ad) (a7:ba) (H':ad),ie ops d R H=D (a7,H')->(d=C->o2 ops (b9 ops) (order ops)=C)->∀(ρ:Env) (w:World) (a:Act) (Q:Exit->Act->World->Prop),Rel ρ H w->iu E ρ H.next H'.next->dX ρ R a->(∀c b8 b,dX c a7 b8->Step ρ H w c H' b->Q .normal b8 b)->(Code.region id ops d).wp P Q a w
def Kc(hm:P.follows .mixedOrders=C)(e:ed E P call):EG E P (gT P call):=by
 intro id ops d R H a7 H' h g ρ w a Q c az au b;unfold gT at h;split at h
 ·exact wp_region_list (Lw e h c az au b)
 ·split at h
  ·cases h
  ·rename_i T m H1 aq;split at h
   ·rename_i b8 b' k;split at h
    ·cases h
    ·rename_i f;simp only[bb,cK]at h;obtain⟨rfl,rfl⟩:=h;obtain⟨pre,mid,j⟩:=abm k;rw[Bool.and_eq_true]at f;exact abn hm e j aq f.1 f.2 c az au b
   ·split at h
    ·cases h
    ·rename_i i;split at h
     ·cases h
     ·rename_i l;simp only[bb,cK]at h;obtain⟨rfl,rfl⟩:=h;exact ac5 hm e ⟨aq,g rfl,i,l⟩ c az au b
def ac6{c:Code}{Q:Exit->Act->World->Prop}(i:Nat->Act->World->Prop)(round:∀n a w,i n a w->∃m,n=m+1/\c.wp P (Exit.then (i m) Q) a w){n:Nat}{a:Act}{w:World}(s:i n a w):(Code.loop c).wp P Q a w:=by
 intro b k cs;have key:∀n a w,i n a w->∃e b8 j,Q e b8 j/\Arrives P (lone (b.at a (.code c:: .inLoop c::k)) cs w) b k cs e b8 j:=by
  intro n
  induction n with
  |zero=>intro a w h;obtain⟨m,hm,_⟩:=round 0 a w h;omega
  |succ n t=>
   intro a w h;obtain⟨m,hm,hw⟩:=round _ a w h;obtain rfl:m=n:=aa;obtain⟨e,f,g,aN,d⟩:=hw b (.inLoop c::k) cs;cases e with
   |normal=>
    obtain⟨p,o,u,r,q⟩:=t f g aN;exact⟨p,o,u,r,.of_steps (Steps.trans d (.one step_inLoop)) q⟩
   |exit id=>exact⟨_,f,g,aN,.pass (x:= .inLoop c) rfl (λ_ _=> .inl (by simp)) d⟩
   |goto l=>exact⟨_,f,g,aN,.pass (x:= .inLoop c) rfl (λ_ _=> .inl (by simp)) d⟩
   |ret=>exact⟨_,f,g,aN,.pass (x:= .inLoop c) rfl (λ_ _=> .inl (by simp)) d⟩
   |panic v=>exact⟨_,f,g,aN,.pass (x:= .inLoop c) rfl (λ_ _=> .inl (by simp)) d⟩
   |outgrown=>exact⟨_,f,g,aN,.pass (x:= .inLoop c) rfl (λ_ _=> .inl (by simp)) d⟩
 obtain⟨e,b8,j,aN,d⟩:=key _ a w s;exact⟨e,b8,j,aN,.of_steps (.one step_loop) d⟩
def zb(E:Env)(P:Program)(c:Code)(f:ba->ad->Option (fT×ba×ad)):Prop:=∀(R:ba) (H:ad) (ex:fT) (a7:ba) (H':ad),f R H=D (ex,a7,H')->∀(ρ:Env) (w:World) (a:Act) (Q:Exit->Act->World->Prop),Rel ρ H w->iu E ρ H.next H'.next->dX ρ R a->(∀d b8 b,dX d a7 b8->Step ρ H w d H' b->Q ex.z_ b8 b)->c.wp P Q a w
def TD{c:Code}{f:ba->ad->Option (fT×ba×ad)}(az:zb E P c f)(p:∀R H ex a7 H',f R H=D (ex,a7,H')->H.next<=H'.next)(n:Nat):zb E P (.loop c) (iter f n):=by
 intro R H ex a7 H' h ρ w a Q v o au u;refine ac6 (n:=n) (λn e g=>∃i H1 d,iter f n i H1=D (ex,a7,H')/\Step ρ H w d H1 g/\dX d i e) ?_ ⟨R,H,ρ,h,.refl v,au⟩;rintro n e g ⟨i,H1,d,af,b,q⟩;cases n with
 |zero=>cases af
 |succ n=>
  refine⟨n,rfl,?_⟩;have hle:=vv p af;simp only[iter]at af;split at af
  ·rename_i t s ah;have x:=vv p af;refine az _ _ _ _ _ ah d g e _ b.rel (iu.left (iu.after o b) x) q λl m r j k=> ?_
   exact⟨t,s,l,af,b.trans k,j⟩
  ·rename_i y;refine az _ _ _ _ _ af d g e _ b.rel (iu.after o b) q λl m r j k=> ?_
   have:=u l m r j (b.trans k);cases ex with
   |normal=>exact absurd af (y _ _)
   |exit id=>exact this
   |ret=>exact this
def GF(v:zh ie)(M:EG E P ie):∀(c:Code),lC c=C->zb E P c (c0 ie N c):=by
 intro c
 induction c with
 |skip=>
  intro _ R H ex a7 H' h ρ w a Q g az au e;simp only[c0,bb,cK]at h;obtain⟨rfl,rfl,rfl⟩:=h;exact wp_skip (e ρ a w au (.refl g))
 |region id ops d=>
  intro i R H ex a7 H' h ρ w a Q g az au e;simp only[c0]at h;split at h
  ·rename_i u H1 af;simp only[bb,cK]at h;obtain⟨rfl,rfl,rfl⟩:=h;exact M id ops d R H _ _ af (λL=>by subst L;exact i) ρ w a Q g az au e
  ·cases h
 |seq x y q r=>
  intro i R H ex a7 H' h ρ w a Q g az au e;simp only[lC,Bool.and_eq_true]at i;simp only[c0]at h;refine wp_seq ?_;split at h
  ·rename_i u H1 af;have hle:=GC v y h;refine q i.1 _ _ _ _ _ af ρ w a _ g (az.left hle) au λo k n m j=> ?_
   exact r i.2 _ _ _ _ _ h o n k Q j.rel (az.after j) m λT B S G K=>e T B S G (j.trans K)
  ·rename_i t;refine q i.1 _ _ _ _ _ h ρ w a _ g az au λo k n m j=> ?_
   have:=e o k n m j;cases ex with
   |normal=>exact absurd h (t _ _)
   |exit id=>exact this
   |ret=>exact this
 |cond c x y q r=>
  intro i R H ex a7 H' h ρ w a Q g az au e;simp only[lC,Bool.and_eq_true]at i;simp only[c0]at h;split at h
  ·rename_i aq;have af:=dJ au aq;refine wp_cond_true (by generalize a.eval c=z at af;cases af;rfl) ?_;exact q i.1 _ _ _ _ _ h ρ w a Q g az au e
  ·rename_i aq;have af:=dJ au aq;refine wp_cond_false (by generalize a.eval c=z at af;cases af;rfl) ?_;exact r i.2 _ _ _ _ _ h ρ w a Q g az au e
  ·cases h
 |block id b p=>
  intro i R H ex a7 H' h ρ w a Q g az au e;simp only[c0]at h;refine wp_block ?_;split at h
  ·rename_i O u H1 af;split at h
   ·rename_i s;simp only[bb,cK]at h;obtain⟨rfl,rfl,rfl⟩:=h;refine p i _ _ _ _ _ af ρ w a _ g az au λo k n m j=> ?_
    have:=e o k n m j;simp only[fT.z_,Exit.inBlock,s,if_true];exact this
   ·rename_i s;simp only[bb,cK]at h;obtain⟨rfl,rfl,rfl⟩:=h;refine p i _ _ _ _ _ af ρ w a _ g az au λo k n m j=> ?_
    have:=e o k n m j;simp only[fT.z_,Exit.inBlock,s,if_false];exact this
  ·rename_i t;refine p i _ _ _ _ _ h ρ w a _ g az au λo k n m j=> ?_
   have:=e o k n m j;cases ex with
   |normal=>exact this
   |exit O=>exact absurd h (t _ _ _)
   |ret=>exact this
 |loop b p=>
  intro i R H ex a7 H' h ρ w a Q g az au e;simp only[c0]at h;exact TD (p i) (λ_ _ _ _ _ h=>GC v b h) N R H ex a7 H' h ρ w a Q g az au e
 |exit id=>
  intro _ R H ex a7 H' h ρ w a Q g az au e;simp only[c0,bb,cK]at h;obtain⟨rfl,rfl,rfl⟩:=h;exact wp_exit (e ρ a w au (.refl g))
 |ret=>
  intro _ R H ex a7 H' h ρ w a Q g az au e;simp only[c0,bb,cK]at h;obtain⟨rfl,rfl,rfl⟩:=h;exact wp_ret (e ρ a w au (.refl g))
 |label l=>
  intro _ R H ex a7 H' h ρ w a Q g az au e;simp only[c0,bb,cK]at h;obtain⟨rfl,rfl,rfl⟩:=h;exact wp_label (e ρ a w au (.refl g))
 |goto l=>intro _ R H ex a7 H' h;cases h
 |scope b p=>intro _ R H ex a7 H' h;cases h
 |rangeFunc f db a b q r=>intro _ R H ex a7 H' h;cases h
 |refuse y=>intro _ R H ex a7 H' h;cases h
def Be:∀(args:List ae) (t:bu ae) (i d:Nat),(ba.sh t i args).get d=if i<=d/\d<i+args.length then args[d-i]? else t.get d
 |[],t,i,d=>by simp only[ba.sh,List.length_nil];rw[if_neg aa]
 |v::ak,t,i,d=>by
  simp only[ba.sh];rw[Be ak];by_cases af:i+1<=d/\d<i+1+ak.length
  ·rw[if_pos af,if_pos (by simp;omega),show d-i=(d-(i+1))+1 by omega];simp
  ·rw[if_neg af];by_cases ah:d=i
   ·subst ah;rw[bu.rW _ _ _ _ aa,if_pos (by simp)];simp
   ·rw[bu.qf _ _ _ _ _ (Ne.symm ah),if_neg (by simp;omega)]
def Gz{ρ:Env}{args:List ae}{xs:List Value}(h:bO ρ args xs)(n:Nat):dX ρ (ba.enter n args) {tmps:=xs.toArray++Array.replicate (n-xs.toArray.size) undef,defers:=[]}:=by
 have al:=h.length;refine⟨by simp[ba.enter,al],λd=> ?_,rfl⟩;unfold ba.get ba.enter;simp only
 rw[Be];rw[Array.getD_eq_getD_getElem?];by_cases b:d<args.length
 ·rw[if_pos aa];obtain⟨v,a⟩:∃v,args[d]? =D v:=⟨args[d],by simp[b]⟩;obtain⟨x,aA,c⟩:=h.get d v a;have af:(xs.toArray++Array.replicate (n-xs.toArray.size) undef)[d]? =D x:=by
   rw[Array.getElem?_append_left (by simp;omega)];simpa using aA
  rw[af];simp only[Nat.sub_zero,a,Option.getD_some];exact c
 ·rw[if_neg aa];have af:((xs.toArray++Array.replicate (n-xs.toArray.size) undef)[d]?).getD undef=undef:=by
   rw[Array.getElem?_append_right (by simp;omega)];simp only[Array.getElem?_replicate];split<;>rfl
  rw[af,bu.qd];exact .tuple [] [] .nil
def sB(tmps:Array Value):ResultVar->Sem Value
 | .tmp t=>pure (tmps.getD t undef)
 | .cell b t=>do loadVar t (<-asAddr (tmps.getD b undef))
def Og{ρ:Env}{H:ad}{w:World}{R:ba}{a:Act}(g:Rel ρ H w)(au:dX ρ R a){r:ResultVar}{v:ae}(h:pV P R H r=D v):
  ∃x,(sB a.tmps r).run P w= .ok x w/\bp ρ v x:=by
 cases r with
 |tmp t=>
  simp only[pV,bb]at h;subst h;exact⟨_,rfl,au.get t⟩
 |cell b t=>
  simp only[pV]at h;obtain⟨x,e,f⟩:=zr g h (au.get b);refine⟨x,?_,f⟩;have ah:=au.get b;simp only[sB];generalize a.tmps.getD b undef=z at ah e ⊢;have d:∃l i c,R.get b= .ptr l i c:=by
   generalize R.get b=u at h;unfold aI at h;cases u<;>first|exact⟨_,_,_,rfl⟩|(exfalso;simp at h)
  obtain⟨l,i,c,d⟩:=d;rw[d]at ah;cases ah;simpa [Instr.loadAt,Instr.sureAddr,asAddr]using e
def E9{ρ:Env}{H:ad}{w:World}{R:ba}{a:Act}(b:Rel ρ H w)(au:dX ρ R a):∀{rs:List ResultVar} {ak:List ae},h8 P R H rs=D ak->
  ∃xs:List Value,(rs.mapM (sB a.tmps)).run P w= .ok xs w/\bO ρ ak xs
 |[],ak,h=>by simp only[h8,bb]at h;subst h;exact⟨[],by simp[Sem.run_pure],.nil⟩
 |r::rs,ak,h=>by
  simp only[h8]at h;split at h
  ·rename_i v j g i;simp only[bb]at h;subst h;obtain⟨x,c,d⟩:=Og b au g;obtain⟨xs,e,f⟩:=E9 b au i;refine⟨x::xs,?_,.cons _ _ _ _ d f⟩;rw[List.mapM_cons];simp only[Sem.run_bind,Result.andThen_ok,Sem.run_pure,c,e]
  ·cases h
def W4(fn:Func)(tmps:Array Value):results fn tmps=(do
  let ak<-fn.results.mapM (sB tmps)
  pure (if h:ak.size=1 then ak[0]else .tuple ak)):=by
 unfold results
 congr 1
def Kg{ρ:Env}{H:ad}{w:World}{R:ba}{a:Act}(d:Rel ρ H w)(au:dX ρ R a){fn:Func}{ak:List ae}(h:h8 P R H fn.results.toList=D ak):
  ∃x,(results fn a.tmps).run P w= .ok x w/\bp ρ (kr ak) x:=by
 obtain⟨xs,b,c⟩:=E9 d au h;have hm:(fn.results.mapM (sB a.tmps)).run P w= .ok xs.toArray w:=by
  rw[Array.mapM_eq_mapM_toList];simp only[Sem.run_map,b,Result.andThen_ok]
 refine⟨if h:xs.toArray.size=1 then xs.toArray[0]else .tuple xs.toArray,?_,?_⟩
 ·rw[W4];simp only[Sem.run_bind,hm,Result.andThen_ok,Sem.run_pure]
 ·cases c with
  |nil=>exact .tuple [] [] .nil
  |cons v x f j af ah=>
   cases ah with
   |nil=>exact af
   |cons e i g k an aM=>
    simp only[kr];rw[dif_neg (by simp)];exact .tuple _ _ (.cons _ _ _ _ af (.cons _ _ _ _ an aM))
structure jB(P:Program):Prop where
 mixed:P.follows .mixedOrders=true
 names:∀fn∈P.funcs,(fn.name== "runtime.NumGoroutine")=false
 JV:∀(f:Nat) (fn:Func) (c:Code),P.funcs[f]? =some fn->fn.body=some c->lC c=true
def rS(a:jB P)(e:ed E P aK):∀n,ed E P (hn P aK N n)
 |0=>λg args H v H' h=>by cases h
 |n+1=>by
  intro g args H v H' h ρ w xs f az i aH next j
  simp only[hn]at h;split at h
  ·rename_i r au;cases h;exact e g args H v H' au ρ w xs f az i aH next j
  split at h
  ·cases h
  ·rename_i fn b;split at h
   ·cases h
   ·rename_i c aq;split at h
    ·cases h
    ·rename_i ex R H1 o;have y:=rS a e n;have m:=GF (N:=N) Kb (Kc a.mixed y) c (a.JV _ _ _ b aq);have q:(fn.name== "runtime.NumGoroutine")=false:=a.names fn (Array.mem_of_getElem? b);have t:(callFunc g xs.toArray).run P w= .ok (.enter g xs.toArray) w:=by
      unfold callFunc;simp[b,aq];intro p;simp[p]at q
     unfold nj;rw[t];simp only
     split at h
     ·cases h
     ·rename_i s;split at h
      ·cases h
      ·rename_i ak u;simp only[bb,cK]at h;obtain⟨rfl,rfl⟩:=h;refine calls_of_wp b aq (m _ _ _ _ _ o ρ w _ _ f az (Gz i fn.ntmps) λB b8 z af ah=> ?_);obtain⟨x,d,l⟩:=Kg ah.rel af u;have k:=j x z B l ah;cases ex with
       |normal=>exact⟨af.none,x,d,k⟩
       |ret=>exact⟨af.none,x,d,k⟩
       |exit id=>exact absurd rfl (s id)
end
section
variable {E:Env}{P:Program}{aK:aw}
def om(P:Program)(aK:aw)(f:Nat)(args:List ae)(H:ad)(r:ae×ad):Prop:=∃k,∀N,k<=N->∀n,k<=n->hn P aK N n f args H=D r
def om.uniq{f:Nat}{args:List ae}{H:ad}{r s:ae×ad}(h:om P aK f args H r)(bY:om P aK f args H s):r=s:=by
 obtain⟨k,b⟩:=h;obtain⟨j,a⟩:=bY;have af:=b (max k j) (Nat.le_max_left ..) (max k j) (Nat.le_max_left ..);rw[a (max k j) (Nat.le_max_right ..) (max k j) (Nat.le_max_right ..)]at af;exact(Option.some.inj af).symm
open Classical in
noncomputable def aQ(P:Program)(aK:aw):aw:=λf args H=>if h:∃r,om P aK f args H r then D h.choose else I
def GJ{f:Nat}{args:List ae}{H:ad}{r:ae×ad}(h:aQ P aK f args H=D r):om P aK f args H r:=by
 unfold aQ at h;split at h
 ·rename_i aA;rw[<-Option.some.inj h];exact aA.choose_spec
 ·cases h
def IB{f:Nat}{args:List ae}{H:ad}{r:ae×ad}(h:om P aK f args H r):aQ P aK f args H=D r:=by
 unfold aQ;have aA:∃r,om P aK f args H r:=⟨r,h⟩;rw[dif_pos aA];exact congrArg D (aA.choose_spec.uniq h)
def Qp(b:jB P)(a:ed E P aK):ed E P (aQ P aK):=by
 intro g args H v H' h;obtain⟨k,c⟩:=GJ h;exact rS b a k g args H v H' (c k (bC _) k (bC _))
def aa7{o:Op}{R:ba}{H:ad}{x:K}(h:g2 P (aQ P aK) o R H=D x):∃k,∀N,k<=N->∀n,k<=n->g2 P (hn P aK N n) o R H=D x:=by
 unfold g2 at h;unfold g2;split at h
 ·exact⟨0,λ_ _ _ _=>h⟩
 ·exact⟨0,λ_ _ _ _=>h⟩
 ·exact⟨0,λ_ _ _ _=>h⟩
 ·exact⟨0,λ_ _ _ _=>h⟩
 ·exact⟨0,λ_ _ _ _=>h⟩
 ·split at h
  ·split at h
   ·rename_i g ak aq;cases a:aQ P aK g ak H with
    |none=>rw[a]at h;cases h
    |some r=>
     obtain⟨k,c⟩:=GJ a;refine⟨k,λN b n aH=> ?_⟩;rw[a]at h;simp only[c N b n aH];exact h
   ·cases h
  ·cases h
def H4{ops:Array Oper}{o:Oper}{R:ba}{H:ad}{x:K}(h:fi P (aQ P aK) ops o R H=D x):∃k,∀N,k<=N->∀n,k<=n->fi P (hn P aK N n) ops o R H=D x:=by
 unfold fi at h;unfold fi;split at h
 ·rename_i hw;obtain⟨k,b⟩:=aa7 h;exact⟨k,λN a n aH=>b N a n aH⟩
 ·exact⟨0,λ_ _ _ _=>h⟩
def Lv{ops:Array Oper}:∀{os:List Oper} {R:ba} {H:ad} {x:ba×ad},ih P (aQ P aK) ops os R H=D x->∃k,∀N,k<=N->∀n,k<=n->ih P (hn P aK N n) ops os R H=D x
 |[],R,H,x,h=>⟨0,λ_ _ _ _=>h⟩
 |o::os,R,H,x,h=>by
  simp only[ih]at h;split at h
  ·cases h
  ·rename_i y d;split at h
   ·cases h
   ·rename_i a7 a;obtain⟨k,c⟩:=H4 d;obtain⟨j,b⟩:=Lv h;refine⟨max k j,λN e n aH=> ?_⟩;simp only[ih,c N aa n aa,a,b N aa n aa]
def FJ{ops:Array Oper}:∀{is:List Nat} {R:ba} {H:ad} {x:List bA×ba×ad},canRun P (aQ P aK) ops is R H=D x->∃k,∀N,k<=N->∀n,k<=n->canRun P (hn P aK N n) ops is R H=D x
 |[],R,H,x,h=>⟨0,λ_ _ _ _=>h⟩
 |i::is,R,H,x,h=>by
  simp only[canRun]at h;split at h
  ·cases h
  ·rename_i o aR;split at h
   ·cases h
   ·rename_i y d;split at h
    ·cases h
    ·rename_i a7 a;split at h
     ·cases h
     ·rename_i T bf cV aq;obtain⟨k,c⟩:=H4 d;obtain⟨j,b⟩:=FJ aq;refine⟨max k j,λN e n aH=> ?_⟩;simp only[canRun,aR,c N aa n aa,a,b N aa n aa];exact h
def WV{ops:Array Oper}{d:Bool}{R:ba}{H:ad}{x:ba×ad}(h:gT P (aQ P aK) ops d R H=D x):∃k,∀N,k<=N->∀n,k<=n->gT P (hn P aK N n) ops d R H=D x:=by
 unfold gT at h;unfold gT;split at h
 ·obtain⟨k,b⟩:=Lv h;exact⟨k,λN a n aH=>b N a n aH⟩
 ·split at h
  ·cases h
  ·rename_i T a7 H' aq;obtain⟨k,b⟩:=FJ aq;refine⟨k,λN a n aH=> ?_⟩;simp only[b N a n aH];exact h
def HR{f:ba->ad->Option (fT×ba×ad)}:∀{n m:Nat} {R:ba} {H:ad} {x:fT×ba×ad},iter f n R H=D x->n<=m->iter f m R H=D x
 |0,_,_,_,_,h,_=>by cases h
 |n+1,0,_,_,_,_,hm=>aa
 |n+1,m+1,R,H,x,h,hm=>by
  simp only[iter]at h ⊢;split at h
  ·rename_i a7 H' he;exact HR h aa
  ·exact h
def HQ{f:ba->ad->Option (fT×ba×ad)}{g:Nat->Nat->ba->ad->Option (fT×ba×ad)}(az:∀R H x,f R H=D x->∃k,∀N,k<=N->∀n,k<=n->g N n R H=D x):
  ∀{M:Nat} {R:ba} {H:ad} {x:fT×ba×ad},iter f M R H=D x->∃k,∀N,k<=N->∀n,k<=n->iter (g N n) M R H=D x
 |0,_,_,_,h=>by cases h
 |M+1,R,H,x,h=>by
  simp only[iter]at h;split at h
  ·rename_i a7 H' he;obtain⟨k,a⟩:=az _ _ _ he;obtain⟨j,c⟩:=HQ az h;refine⟨max k j,λN b n aH=> ?_⟩;simp only[iter,a N aa n aa];exact c N aa n aa
  ·rename_i d;obtain⟨k,a⟩:=az _ _ _ h;refine⟨k,λN b n aH=> ?_⟩;simp only[iter,a N b n aH];split
   ·rename_i a7 H' he;cases he;exact absurd h (d _ _)
   ·rfl
def Ql{M:Nat}:∀(c:Code) {R:ba} {H:ad} {x:fT×ba×ad},c0 (gT P (aQ P aK)) M c R H=D x->∃k,∀N,k<=N->∀n,k<=n->c0 (gT P (hn P aK N n)) N c R H=D x:=by
 intro c
 induction c with
 |skip=>intro R H x h;exact⟨0,λ_ _ _ _=>h⟩
 |region id ops d=>
  intro R H x h;simp only[c0]at h;split at h
  ·rename_i r H1 af;obtain⟨k,e⟩:=WV af;refine⟨k,λN i n aH=> ?_⟩;simp only[c0,e N i n aH];exact h
  ·cases h
 |seq a b o p=>
  intro R H x h;simp only[c0]at h;split at h
  ·rename_i r H1 af;obtain⟨k,e⟩:=o af;obtain⟨j,s⟩:=p h;refine⟨max k j,λN i n aH=> ?_⟩;simp only[c0,e N aa n aa,s N aa n aa]
  ·rename_i q;obtain⟨k,e⟩:=o h;refine⟨k,λN i n aH=> ?_⟩;simp only[c0,e N i n aH];split
   ·rename_i a7 H' he;cases he;exact absurd h (q _ _)
   ·rfl
 |cond c a b o p=>
  intro R H x h;simp only[c0]at h;split at h
  ·rename_i aq;obtain⟨k,e⟩:=o h;refine⟨k,λN i n aH=> ?_⟩;simp only[c0,aq,e N i n aH]
  ·rename_i aq;obtain⟨k,e⟩:=p h;refine⟨k,λN i n aH=> ?_⟩;simp only[c0,aq,e N i n aH]
  ·cases h
 |block id b m=>
  intro R H x h;simp only[c0]at h;split at h
  ·rename_i t r H1 af;obtain⟨k,e⟩:=m af;refine⟨k,λN i n aH=> ?_⟩;simp only[c0,e N i n aH];exact h
  ·rename_i q;obtain⟨k,e⟩:=m h;refine⟨k,λN i n aH=> ?_⟩;simp only[c0,e N i n aH];split
   ·rename_i t a7 H' he;cases he;exact absurd h (q _ _ _)
   ·rfl
 |loop b m=>
  intro R H x h;simp only[c0]at h;obtain⟨k,e⟩:=HQ (g:=λN n=>c0 (gT P (hn P aK N n)) N b) (λR H x aA=>m aA) h;refine⟨max k M,λN i n aH=> ?_⟩;simp only[c0];exact HR (e N aa n aa) aa
 |exit id=>intro R H x h;exact⟨0,λ_ _ _ _=>h⟩
 |ret=>intro R H x h;exact⟨0,λ_ _ _ _=>h⟩
 |label l=>intro R H x h;exact⟨0,λ_ _ _ _=>h⟩
 |goto l=>intro R H x h;cases h
 |scope b m=>intro R H x h;cases h
 |rangeFunc f db a b o p=>intro R H x h;cases h
 |refuse y=>intro R H x h;cases h
def GI{f:Nat}{args:List ae}{H H':ad}{fn:Func}{c:Code}{M:Nat}{ex:fT}{R:ba}{ak:List ae}(a:aK f args H=I)(az:P.funcs[f]? =D fn)(b:fn.body=D c)
  (h:c0 (gT P (aQ P aK)) M c (ba.enter fn.ntmps args) H=D (ex,R,H')) (hex:∀id,ex≠ .exit id) (au:h8 P R H' fn.results.toList=D ak):aQ P aK f args H=D (kr ak,H'):=by
 obtain⟨k,d⟩:=Ql c h;refine IB ⟨k+1,λN e n aH=> ?_⟩;cases n with
 |zero=>omega
 |succ n=>
  simp only[hn,a,az,b,d N aa n aa];cases ex with
  |exit id=>exact absurd rfl (hex id)
  |normal=>simp only[au]
  |ret=>simp only[au]
def Qq{f:Nat}{args:List ae}{H:ad}{r:ae×ad}(h:aK f args H=D r):aQ P aK f args H=D r:=by
 refine IB ⟨1,λN a n aH=> ?_⟩;cases n with
 |zero=>omega
 |succ n=>simp only[hn,h]
end
abbrev O:=Option (ae×ad)
abbrev bf:=Nat->ae
def dn(R:bf)(dst:Option Nat)(v:ae):bf:=match dst with
 |none=>R
 |some d=>λe=>bif Nat.beq e d then v else R e
def bd(R:bf):Operand->Option ae
 | .tmp t=>D (R t)
 | .const v=>sj v
 | .global _=>I
 | .func f=>D (.func (.func f) [] [])
def eE(R:bf):List Operand->Option (List ae)
 |[]=>D []
 |x::xs=>(bd R x).bind λv=>(eE R xs).bind λak=>D (v::ak)
def hS(R:bf):List (Nat×Operand)->Option (List (Nat×ae))
 |[]=>D []
 |(i,x)::xs=>(bd R x).bind λv=>(hS R xs).bind λak=>D ((i,v)::ak)
def iL(R:bf):Option Operand->Option (Option ae)
 |none=>D I
 |some x=>(bd R x).bind λv=>D (D v)
def da(c:ae)(a b:Option ae):Option ae:=match c with
 | .bool t=>bif t then a else b
 |_=>I
def nA(P:Program)(t:TypeId)(c:Bool)(a b:ae):Bool:=
 match a,b with
 | .nilIface,.nilIface=>c
 | .agg _,.agg _=> !P.eqGuardType P.depth t
 |_,_=>C
def bm(P:Program)(op:BinOp)(t:TypeId)(c:Bool)(x y:ae):Option ae:=
 match x,y with
 | .int k a,.int d b=>
  (match op with
  | .shl=>qg .shl k a b
  | .shr=>qg .shr k a b
  |op=>if k=d then ky op k a b else I)
 | .str a,.str b=>yR op a b
 |x,y=>
  (match op with
  | .eql=>if nA P t c x y then(h6 P 10000 t x y).map .bool else I
  | .neq=>if nA P t c x y then(h6 P 10000 t x y).map λb=> .bool (!b)else I
  |_=>I)
def Qh(P:Program)(t:TypeId)(x y:Operand)(u v:ae):nA P t (isConst x||isConst y) u v=oI P t x y u v:=by
 unfold nA oI;cases u<;>cases v<;>rfl
def RM(P:Program)(op:BinOp)(t:TypeId)(x y:Operand)(u v:ae):bm P op t (isConst x||isConst y) u v=rr P op t x y u v:=by
 unfold bm rr;simp only[Qh];cases u<;>cases v<;>cases op<;>rfl
def gQ(P:Program)(o:Op)(R:bf):Option ae:=
 match o with
 | .move x=>bd R x
 | .assign x=>bd R x
 | .pick c a b=>(bd R c).bind λu=>da u (bd R a) (bd R b)
 | .build t db=>(hS R db.toList).bind (dU P t)
 | .nilCheck x=>(bd R x).bind hC
 | .binOp op t x y _=>(bd R x).bind λu=>(bd R y).bind λv=>bm P op t (isConst x||isConst y) u v
 | .unOp op _ x=>(bd R x).bind (iG op)
 | .convert s d x=>(bd R x).bind (pP P s d)
 | .makeInterface t x=>(bd R x).bind (mE P t)
 | .makeFunc fn f c=>(eE R f.toList).bind λfs=>(eE R c.toList).bind λcs=>D (.func fn fs cs)
 | .slice t x fZ e g=>(bd R x).bind λv=>(iL R fZ).bind λl=>(iL R e).bind λh=>(iL R g).bind λm=>hD P t v l h m
 | .fieldAddr t x f=>(bd R x).bind λv=>bN P t v f
 | .field t x f=>(bd R x).bind λv=>nm P t v f
 | .indexAddr t x i=>(bd R x).bind λu=>(bd R i).bind λv=>cm P t u v
 | .index t x i=>(bd R x).bind λu=>(bd R i).bind λv=>ou P t u v
 | .extract x i=>(bd R x).bind λv=>jD v i
 | .typeAssert x _ t ok=>(bd R x).bind (pN P t ok)
 | .call c=>match c.callee with
  | .builtin b=>(eE R c.args.toList).bind (bL P .empty b c.argTypes.toList)
  |_=>I
 |_=>I
def gR(P:Program)(o:Op)(R:bf)(H:ad):Option ae:=
 match o with
 | .load t x=>(bd R x).bind (aI P H t)
 | .lookup t x k ok=>(bd R x).bind λu=>(bd R k).bind λv=>k2 P H t u v ok
 | .convert s d x=>(bd R x).bind (ry P H s d)
 | .call c=>match c.callee with
  | .builtin b=>(eE R c.args.toList).bind (bL P H b c.argTypes.toList)
  |_=>I
 |_=>I
def fe(l:Nat)(v:ae):Option (ae×bn):=bif v.cells.all ae.one then D (.ptr l 0 0,.row Z v.cells.length [v.cells])else I
def k5(ot:Option TypeId)(l:Nat)(v:ae):Option (ae×bn):=bif v.cells.all ae.one then D (.ptr l 0 0,dT ot v.cells.length [v.cells])else I
def gd(P:Program)(l:Nat)(t:TypeId)(len:Nat)(parts:List (Nat×ae)):Option (ae×bn):=
 match P.underlying t with
 |some (.slice e)=>
  (match cp P e,e2 P e with
  |some a,D z=>
   bif decide (len*a<=16777216/\z.cells.length=a/\z.cells.all ae.one=C)then
    (ks a (List.replicate len z.cells) parts).bind λels=>D (.aD l 0 len a (D len),.row Z a els)
   else I
  |_,_=>I)
 |_=>I
def hF(P:Program)(o:Op)(R:bf)(l:Nat):Option (ae×bn):=
 match o with
 | .alloc t=>(e2 P t).bind (k5 (j9 P t) l)
 | .box t x=>(bd R x).bind (k5 (j9 P t) l)
 | .buildSlice t n db=>(hS R db.toList).bind (gd P l t n)
 | .makeMap _ I=>D (.map l,.map [])
 | .makeSlice t x c=>(bd R x).bind λu=>(bd R c).bind λv=>f_ (g9 P ⟨.leaf,l⟩ t u v) l
 |_=>I
def j2(P:Program)(o:Op)(R:bf)(H:ad):Option (ae×ad):=
 match o with
 | .store t x y=>(bd R x).bind λu=>(bd R y).bind λv=>(cD P H t u v).bind λH'=>D (.tuple [],H')
 | .mapUpdate t m k x=>(bd R m).bind λu=>(bd R k).bind λv=>(bd R x).bind λz=>(iD P H t u v z).bind λH'=>D (.tuple [],H')
 | .insert t m k x=>(bd R m).bind λu=>(bd R k).bind λv=>(bd R x).bind λz=>(iD P H t u v z).bind λH'=>D (.tuple [],H')
 | .call c=>match c.callee,c.args.toList with
  | .builtin .append,[s,x]=>(bd R s).bind λu=>(bd R x).bind λv=>ee P H c.argTypes.toList u v
  | .builtin .clear,[x]=>(bd R x).bind λu=>(uO P H c.argTypes.toList u).bind λH'=>D (.tuple [],H')
  |_,_=>I
 |_=>I
def nu(f:ae)(ak:List ae):Option (Nat×List ae):=match f with
 | .func (.func g) first captured=>D (g,first++ak++captured)
 |_=>I
def ia(P:Program)(H:ad)(r:ae)(name:String)(ak:List ae):Option (Nat×List ae):=(k3 P H r name).bind λp=>D (p.1,p.2::ak)
def oJ(P:Program)(H:ad)(R:bf)(c:Call):Option (Nat×List ae):=
 match c.callee with
 | .value f=>(bd R f).bind λu=>(eE R c.args.toList).bind λak=>nu u ak
 | .invoke r name=>(bd R r).bind λu=>(eE R c.args.toList).bind λak=>ia P H u name ak
 |_=>I
def hM(a b:Option ae)(k:K->O):O:=match a with
 |some v=>k (.pure v)
 |none=>b.bind λv=>k (.read v)
def im(r:Option (ae×bn))(k:K->O):O:=match r with
 |some (v,b)=>k (.new v b)
 |none=>I
def dD(H:ad)(r:O)(k:K->O):O:=match r with
 |some (v,H')=>bif decide (H.next<=H'.next)then k (.cN v H')else I
 |none=>I
def dg(P:Program)(call:aw)(o:Op)(R:bf)(H:ad)(k:K->O):O:=
 match cls o with
 | .pure=>(gQ P o R).bind λv=>k (.pure v)
 | .read=>(gR P o R H).bind λv=>k (.read v)
 | .both=>hM (gQ P o R) (gR P o R H) k
 | .new=>im (hF P o R H.next) k
 | .write=>dD H (j2 P o R H) k
 | .call=>match o with
  | .call c=>(oJ P H R c).bind λp=>dD H (call p.1 p.2 H) k
  |_=>I
def bX(b:ae)(want:Bool)(m:(K->O)->O)(k:K->O):O:=match b with
 | .bool t=>bif t==want then m k else k .skip
 |_=>k .skip
def k9(P:Program)(call:aw)(ops:Array Oper)(o:Oper)(R:bf)(H:ad)(k:K->O):O:=
 match o.guard with
 |none=>dg P call o.op R H k
 |some (j,want)=>match ops[j]? with
  |some q=>(match q.dst with
   |some d=>bX (R d) want (dg P call o.op R H) k
   |none=>k .skip)
  |none=>k .skip
def jr(P:Program)(call:aw)(ops:Array Oper):List Oper->bf->ad->(bf->ad->O)->O
 |[],R,H,k=>k R H
 |o::os,R,H,k=>k9 P call ops o R H λx=>jr P call ops os (dn R o.dst x.val) (x.heap H) k
structure eP where
 i:Nat
 k:K
 rd:ad->Option ae
def gX(ms:List Nat):List eP->List Nat->Bool
 |[],_=>C
 |t::ts,ids=>match t.k with
  | .cN _ _=>ids.all (λj=>ca ms j t.i)&&gX ms ts (t.i::ids)
  | .new _ _=>gX ms ts (t.i::ids)
  |_=>gX ms ts ids
def bF(r:Option ae)(v:ae):Bool:=match r with
 |some u=>ae.beq u v
 |none=>Z
def hy(ms:List Nat)(rd:ad->Bool)(i:Nat):List eP->ad->Bool
 |[],H=>rd H
 |t::ts,H=>bif t.k.eQ then(ca ms t.i i||rd H)&&(ca ms i t.i||hy ms rd i ts (t.k.heap H))else hy ms rd i ts H
def h9(ms:List Nat)(i:Nat):List eP->Bool->Bool
 |[],_=>Z
 |t::ts,s=>match t.k with
  | .new _ _=>(s&&ca ms t.i i&&ts.all λu=>jJ u.k)||h9 ms i ts (s|| !ca ms t.i i)
  | .cN _ _=>h9 ms i ts (s|| !ca ms t.i i)
  |_=>h9 ms i ts s
def hY(ms:List Nat)(rd:ad->Bool)(i:Nat):List eP->ad->Bool->Bool
 |[],_,_=>Z
 |t::ts,H,s=>match t.k with
  | .new _ b=>bif s&&ca ms t.i i&&ts.all (λu=>jJ u.k)then rd (H.push b).only||hY ms rd i ts (H.push b) (s|| !ca ms t.i i)else hY ms rd i ts (H.push b) (s|| !ca ms t.i i)
  | .cN _ H'=>hY ms rd i ts H' (s|| !ca ms t.i i)
  |_=>hY ms rd i ts H s
def pn(ms:List Nat)(rd:ad->Bool)(i:Nat)(T:List eP)(H:ad):Bool:=bif h9 ms i T Z then hy ms rd i T H||hY ms rd i T H Z else hy ms rd i T H
def h3(ms:List Nat)(cE:List Nat)(T:List eP)(H:ad):List eP->Bool
 |[]=>C
 |t::ts=>(match t.k with
  | .read v=>cE.contains t.i||pn ms (λH=>bF (t.rd H) v) t.i T H
  |_=>C)&&h3 ms cE T H ts
def iJ(ms:List Nat)(cE:List Nat)(T:List eP)(H:ad):Bool:=gX ms T []&&h3 ms cE T H T
def iH(P:Program)(call:aw)(ops:Array Oper):List Nat->bf->ad->(List eP->bf->ad->O)->O
 |[],R,H,k=>k [] R H
 |i::is,R,H,k=>match ops[i]? with
  |none=>I
  |some o=>k9 P call ops o R H λx=>iH P call ops is (dn R o.dst x.val) (x.heap H) λT a7 H'=>k (⟨i,x,gR P o.op R⟩::T) a7 H'
def g3(ops:Array Oper):List Nat:=(order ops).filter (ik ops (b9 ops) (order ops))
def quiet(ops:Array Oper):Bool:=ops.toList.all λo=> !oN o.op
def y6(ms:List Nat)(cE:List Nat)(T:List eP)(H:ad):List eP->Bool
 |[]=>C
 |t::ts=>(match t.k with
  | .read v=>cE.contains t.i||hy ms (λH=>bF (t.rd H) v) t.i T H
  |_=>C)&&y6 ms cE T H ts
def AK(u v:ae):Bool:=match u,v with
 | .ptr l _ _,.ptr m _ _=> !Nat.beq l m
 |_,_=>Z
def D7(ops:Array Oper)(a b:Nat)(R:bf):Bool:=match js ops a,js ops b with
 |some (_,c,_),D (_,aU,_)=>(match bd R c,bd R aU with
  |some u,D v=>AK u v
  |_,_=>Z)
 |_,_=>Z
def abl(ops:Array Oper)(a b:Nat)(R:ba):D7 ops a b R.get=q9 ops a b R:=by
 have c:∀x,bd R.get x=b4 R x:=λx=>by cases x<;>rfl
 unfold D7 q9;cases js ops a with
 |none=>rfl
 |some d=>
  obtain⟨ta,f,g⟩:=d;cases js ops b with
  |none=>rfl
  |some e=>
   obtain⟨tb,aU,h⟩:=e;simp only[c,vL];cases b4 R f with
   |none=>rfl
   |some u=>
    cases b4 R aU with
    |none=>cases u<;>rfl
    |some v=>cases u<;>cases v<;>rfl
def lG(P:Program)(call:aw)(ops:Array Oper)(draw:Bool)(R:bf)(H:ad)(k:bf->ad->O):O:=
 match draw with
 |false=>jr P call ops ops.toList R H k
 |true=>match m4 ops (order ops)with
  |some (a,b)=>iH P call ops (order ops) R H λT a7 H'=>bif D7 ops a b a7&&y6 (b9 ops) (g3 ops) T H T then k a7 H' else I
  |none=>bif quiet ops then iH P call ops (order ops) R H λ_ a7 H'=>k a7 H' else
   iH P call ops (order ops) R H λT a7 H'=>bif iJ (b9 ops) (g3 ops) T H then k a7 H' else I
def dF(c:Option ae)(a b:O):O:=match c with
 |some (.bool t)=>bif t then a else b
 |_=>I
abbrev bI:=bf->ad->O
def look(i:Nat):List (Nat×bI)->bI
 |[],_,_=>I
 |(j,k)::a,R,H=>bif Nat.beq i j then k R H else look i a R H
def oQ(b:bI->bI):Nat->bI
 |0,_,_=>I
 |n+1,R,H=>b (λR H=>oQ b n R H) R H
def bM(P:Program)(call:aw)(N:Nat):Code->bI->List (Nat×bI)->bI->bI
 | .skip,a6,_,_,R,H=>a6 R H
 | .region _ ops d,a6,_,_,R,H=>lG P call ops d R H a6
 | .seq a b,a6,f,e,R,H=>bM P call N a (λR H=>bM P call N b a6 f e R H) f e R H
 | .cond c a b,a6,f,e,R,H=>dF (bd R c) (bM P call N a a6 f e R H) (bM P call N b a6 f e R H)
 | .block id b,a6,f,e,R,H=>bM P call N b a6 ((id,a6)::f) e R H
 | .loop b,_,f,e,R,H=>oQ (λa6 R H=>bM P call N b a6 f e R H) N R H
 | .exit id,_,f,_,R,H=>look id f R H
 | .ret,_,_,e,R,H=>e R H
 | .label _,a6,_,_,R,H=>a6 R H
 |_,_,_,_,_,_=>I
def kI(P:Program)(H:ad)(R:bf):List ResultVar->(List ae->O)->O
 |[],k=>k []
 | .tmp t::rs,k=>kI P H R rs λak=>k (R t::ak)
 | .cell a t::rs,k=>(aI P H t (R a)).bind λv=>kI P H R rs λak=>k (v::ak)
def kd(P:Program)(rs:List ResultVar):bI:=λR H=>kI P H R rs λak=>D (kr ak,H)
def cG:List ae->bf
 |[],_=> .tuple []
 |v::_,0=>v
 |_::ak,n+1=>cG ak n
section
variable {P:Program}{aK:aw}{call:aw}{R a7:ba}{H:ad}
def l4(x:Operand):bd R.get x=b4 R x:=by cases x<;>rfl
def rU:∀xs:List Operand,eE R.get xs=hQ R xs
 |[]=>rfl
 |x::xs=>by
  simp only[eE,hQ,l4,rU xs];cases b4 R x<;>cases hQ R xs<;>rfl
def Af:∀xs:List (Nat×Operand),hS R.get xs=jU R xs
 |[]=>rfl
 |(i,x)::xs=>by
  simp only[hS,jU,l4,Af xs];cases b4 R x<;>cases jU R xs<;>rfl
def Sp(x:Option Operand):iL R.get x=k4 R x:=by
 cases x with
 |none=>rfl
 |some x=>simp only[iL,k4,l4];cases b4 R x<;>rfl
def Hb(o:Op):gQ P o R.get=iE P o R:=by
 cases o<;>simp only[gQ,iE,l4,rU,Af,Sp,RM]
 ·rename_i c a b;cases aq:b4 R c with
  |none=>rfl
  |some v=>cases v<;>first|rfl|(rename_i t;cases t<;>rfl)
 ·rename_i c;cases c.callee<;>rfl
def vl(o:Op):gR P o R.get H=g_ P o R H:=by
 cases o<;>simp only[gR,g_,l4,rU]
 ·rename_i c;cases c.callee<;>rfl
def A9(v:ae)(l:Nat)(b:bn)(a:b.hG=C):f_ (D (v,ad.push ⟨.leaf,l⟩ b)) l=D (v,b):=by
 unfold f_;simp only[ad.dm,if_true];have:(ad.push ⟨.leaf,l⟩ b).get l=D b:=ad.a_ ⟨.leaf,l⟩ b;rw[this];simp[a]
def Vk(ot:Option TypeId)(esz:Nat)(els:List (List ae)):(dT ot esz els).hG=true:=by cases ot<;>rfl
def FC(ot:Option TypeId)(l:Nat)(v:ae):k5 ot l v=f_ (pO ot ⟨.leaf,l⟩ v) l:=by
 unfold k5 pO;by_cases h:v.cells.all ae.one=C
 ·rw[h,if_pos rfl];exact(A9 _ _ _ (Vk _ _ _)).symm
 ·rw[if_neg h];simp only[Bool.not_eq_true]at h;rw[h];rfl
def aai(l:Nat)(t:TypeId)(n:Nat)(db:List (Nat×ae)):gd P l t n db=f_ (ru P ⟨.leaf,l⟩ t n db) l:=by
 unfold gd ru;cases hu:P.underlying t with
 |none=>rfl
 |some d=>
  cases d<;>try rfl
  rename_i e;simp only
  cases b:cp P e with
  |none=>rfl
  |some a=>
  cases c:e2 P e with
  |none=>rfl
  |some z=>
   simp only
   by_cases h:n*a<=16777216/\z.cells.length=a/\z.cells.all ae.one=C
   ·rw[if_pos h,decide_eq_true h];simp only[gP];cases ks a (List.replicate n z.cells) db with
    |none=>rfl
    |some els=>exact(A9 _ _ _ rfl).symm
   ·rw[if_neg h,decide_eq_false h];rfl
def Sb(o:Op)(l:Nat):hF P o R.get l=kp P o R l:=by
 unfold kp;cases o<;>simp only[hF,ox,l4,Af]<;>try rfl
 ·rename_i t;unfold uN;cases e2 P t with
  |none=>rfl
  |some v=>exact FC _ l v
 ·rename_i t x;cases b4 R x with
  |none=>rfl
  |some v=>exact FC _ l v
 ·rename_i t n db;cases jU R db.toList with
  |none=>rfl
  |some v=>exact aai l t n v
 ·rename_i t r;cases r with
  |none=>exact(A9 _ _ _ rfl).symm
  |some r=>rfl
 ·rename_i t x c;cases b4 R x with
  |none=>rfl
  |some u=>cases b4 R c<;>rfl
def map_bind{α β:Type}(x:Option α)(f:α->β):x.bind (λa=>D (f a))=x.map f:=by cases x<;>rfl
def SD(o:Op):j2 P o R.get H=ku P o R H:=by
 cases o<;>simp only[j2,ku,l4,map_bind]
 ·rename_i c;cases aq:c.callee with
  |builtin b=>
   cases a:c.args.toList with
   |nil=>cases b<;>rfl
   |cons s r=>
    cases r with
    |nil=>cases b<;>rfl
    |cons x r=>cases r<;>cases b<;>rfl
  |value f=>rfl
  |invoke r m=>rfl
def RW(c:Call):oJ P H R.get c=mC P H R c:=by
 unfold oJ mC;cases aq:c.callee with
 |value f=>
  simp only[l4,rU];cases b4 R f with
  |none=>rfl
  |some v=>
   cases d:hQ R c.args.toList with
   |none=>
    simp only[Option.bind_some,Option.bind_none];split<;>first|rfl|(simp_all;done)
   |some ak=>
    simp only[Option.bind_some];unfold nu;split
    ·rename_i g first captured;rfl
    ·rename_i a;split
     ·rename_i g first captured he
      simp only[bb]at he;exact absurd he (a _ _ _)
     ·rfl
 |invoke r m=>
  simp only[l4,rU];cases b4 R r with
  |none=>rfl
  |some v=>
   simp only[Option.bind_some];cases d:hQ R c.args.toList with
   |none=>cases k3 P H v m<;>rfl
   |some ak=>
    simp only[Option.bind_some,ia];cases k3 P H v m<;>rfl
 |builtin b=>rfl
def G1(o:Op)(k:K->O):dg P call o R.get H k=(g2 P call o R H).bind k:=by
 unfold dg g2;cases a:cls o with
 |pure=>simp only[Hb];cases iE P o R<;>rfl
 |read=>simp only[vl];cases g_ P o R H<;>rfl
 |both=>
  simp only[Hb,vl];unfold hM;cases iE P o R with
  |some v=>rfl
  |none=>cases g_ P o R H<;>rfl
 |new=>
  simp only[Sb];unfold im;cases kp P o R H.next<;>rfl
 |write=>
  simp only[SD];unfold dD;cases h:ku P o R H with
  |none=>rfl
  |some r=>
   obtain⟨v,H'⟩:=r;simp only[jH];by_cases aH:H.next<=H'.next
   ·rw[if_pos aH,decide_eq_true aH];rfl
   ·rw[if_neg aH,decide_eq_false aH];rfl
 |call=>
  cases o<;>try rfl
  rename_i c;simp only[RW];cases mC P H R c with
  |none=>rfl
  |some p=>
   obtain⟨g,ak⟩:=p;simp only[Option.bind_some];unfold dD;cases h:call g ak H with
   |none=>rfl
   |some r=>
    obtain⟨v,H'⟩:=r;simp only[jH];by_cases aH:H.next<=H'.next
    ·rw[if_pos aH,decide_eq_true aH];rfl
    ·rw[if_neg aH,decide_eq_false aH];rfl
def G2(ops:Array Oper)(o:Oper)(k:K->O):k9 P call ops o R.get H k=(fi P call ops o R H).bind k:=by
 unfold k9 fi je;cases aP:o.guard with
 |none=>exact G1 o.op k
 |some p=>
  obtain⟨j,want⟩:=p;simp only
  cases aN:ops[j]? with
  |none=>rfl
  |some q=>
   simp only
   cases a:q.dst with
   |none=>rfl
   |some d=>
    simp only
    cases c:R.get d<;>try rfl
    rename_i t;simp only[bX];cases b:(t==want)with
    |true=>simp only[gP];exact G1 o.op k
    |false=>rfl
def ME{dst:Option Nat}{v:ae}(h:R.put dst v=D a7):dn R.get dst v=a7.get:=by
 funext e
 rw[ba.qe h];cases dst with
 |none=>simp[dn]
 |some d=>
  simp only[dn];by_cases he:e=d
  ·subst he;simp[Nat.beq_refl]
  ·have af:Nat.beq e d=false:=by rw[<-Bool.not_eq_true,Nat.beq_eq];exact he
   rw[af];simp[Ne.symm he]
def oE(n:Nat)(o:Oper):Bool:=match o.dst with
 |none=>C
 |some d=>decide (d<n)
def JZ{o:Oper}(h:oE R.size o=C)(v:ae):∃a7,R.put o.dst v=D a7/\a7.size=R.size:=by
 unfold oE at h;cases a:o.dst with
 |none=>exact⟨R,rfl,rfl⟩
 |some d=>
  rw[a]at h;exact⟨{R with t:=bu.put v (d+1) R.t d},by simp only[ba.put];rw[if_pos (of_decide_eq_true h)],rfl⟩
def Lu(ops:Array Oper)(k:bf->ad->O):∀(os:List Oper) (R:ba) (H:ad),os.all (oE R.size)=C->
  jr P call ops os R.get H k=(ih P call ops os R H).bind λp=>k p.1.get p.2
 |[],R,H,_=>rfl
 |o::os,R,H,h=>by
  simp only[List.all_cons,Bool.and_eq_true]at h;simp only[jr,ih,G2];cases a:fi P call ops o R H with
  |none=>rfl
  |some x=>
   obtain⟨a7,af,ah⟩:=JZ h.1 x.val;simp only[Option.bind_some,af,ME af];exact Lu ops k os a7 _ (by rw[ah];exact h.2)
def bA.c(P:Program)(t:bA):eP:=⟨t.i,t.k,gR P t.o.op t.R.get⟩
def Gs(ms:List Nat):∀(T:List bA) (ids:List Nat),gX ms (T.map (bA.c P)) ids=jh ms T ids
 |[],_=>rfl
 |t::T,ids=>by
  simp only[List.map_cons,gX,jh,bA.c];cases t.k<;>simp only[Gs ms T]
def y4(ms:List Nat)(rd:ad->Bool)(i:Nat):∀(T:List bA) (H:ad),hy ms rd i (T.map (bA.c P)) H=fS ms rd i T H
 |[],_=>rfl
 |t::T,H=>by
  simp only[List.map_cons,hy,fS,bA.c];cases t.k.eQ
  ·simp only[jY];exact y4 ms rd i T H
  ·simp only[gP,if_true];rw[y4 ms rd i T]
def FL(ms:List Nat)(i:Nat):∀(T:List bA) (s:Bool),h9 ms i (T.map (bA.c P)) s=nw ms i T s
 |[],_=>rfl
 |t::T,s=>by
  simp only[List.map_cons,h9,nw,bA.c];cases t.k<;>simp only[FL ms i T,List.all_map]<;>rfl
def Ja(ms:List Nat)(rd:ad->Bool)(i:Nat):∀(T:List bA) (H:ad) (s:Bool),hY ms rd i (T.map (bA.c P)) H s=lB ms rd i T H s
 |[],_,_=>rfl
 |t::T,H,s=>by
  simp only[List.map_cons,hY,lB,bA.c];cases t.k<;>simp only[Ja ms rd i T,List.all_map]<;>rfl
def ZF(ms:List Nat)(rd:ad->Bool)(i:Nat)(T:List bA)(H:ad):pn ms rd i (T.map (bA.c P)) H=po ms rd i T H:=by
 simp only[pn,po,FL,Ja,y4]
def MQ(ms:List Nat)(tl:List Nat)(cE:Nat->Bool)(T:List bA)(H:ad):∀(S:List bA),(∀t∈S,tl.contains t.i=cE t.i)->h3 ms tl (T.map (bA.c P)) H (S.map (bA.c P))=kS P ms cE T H S
 |[],_=>rfl
 |t::S,h=>by
  simp only[List.map_cons,h3,kS,MQ ms tl cE T H S λt a1=>h t (by simp[a1])]
  congr 1
  simp only[bA.c,h t (by simp)];cases t.k<;>try rfl
  simp only[ZF]
  congr 2
  funext H
  simp only[bF,kb,vl];cases g_ P t.o.op t.R H<;>rfl
def MU(ms:List Nat)(tl:List Nat)(cE:Nat->Bool)(T:List bA)(H:ad):∀(S:List bA),(∀t∈S,tl.contains t.i=cE t.i)->y6 ms tl (T.map (bA.c P)) H (S.map (bA.c P))=od P ms cE T H S
 |[],_=>rfl
 |t::S,h=>by
  simp only[List.map_cons,y6,od,MU ms tl cE T H S λt a1=>h t (by simp[a1])]
  congr 1
  simp only[bA.c,h t (by simp)];cases t.k<;>try rfl
  simp only[y4]
  congr 2
  funext H
  simp only[bF,kb,vl];cases g_ P t.o.op t.R H<;>rfl
def J2(ms:List Nat):∀(T:List bA) (ids:List Nat),(∀t∈T,t.k.eQ=Z)->jh ms T ids=C
 |[],_,_=>rfl
 |t::T,ids,h=>by
  have a1:=h t (by simp);simp only[jh];have b:=J2 ms T ids λu hu=>h u (by simp[hu])
  cases a:t.k<;>rw[a]at a1<;>first|exact b|(cases a1;done)
def J3(ms:List Nat)(cE:Nat->Bool)(T:List bA)(H:ad):∀(S:List bA),(∀t∈S,cE t.i=C)->kS P ms cE T H S=C
 |[],_=>rfl
 |t::S,h=>by
  simp only[kS,h t (by simp),J3 ms cE T H S λt a1=>h t (by simp[a1]),Bool.true_or,Bool.and_true];cases t.k<;>rfl
def rI(ops:Array Oper):∀(is:List Nat) (R:ba) (H:ad) (k:List eP->bf->ad->O),ops.toList.all (oE R.size)=C->
  iH P call ops is R.get H k=(canRun P call ops is R H).bind λp=>k (p.1.map (bA.c P)) p.2.1.get p.2.2
 |[],R,H,k,_=>rfl
 |i::is,R,H,k,h=>by
  simp only[iH,canRun];cases aR:ops[i]? with
  |none=>rfl
  |some o=>
   simp only[G2];cases b:fi P call ops o R H with
   |none=>rfl
   |some x=>
    have hm:oE R.size o=true:=by
     rw[List.all_eq_true]at h;exact h o (by have:=Array.mem_of_getElem? aR;simpa using this)
    obtain⟨a7,af,ah⟩:=JZ hm x.val;simp only[Option.bind_some,af,ME af];rw[rI ops is a7 _ _ (by rw[ah];exact h)];cases canRun P call ops is a7 (x.heap H)with
    |none=>rfl
    |some p=>obtain⟨T,a,H1⟩:=p;rfl
def WQ(ops:Array Oper)(d:Bool)(k:bf->ad->O)(h:ops.toList.all (oE R.size)=C):lG P call ops d R.get H k=(gT P call ops d R H).bind λp=>k p.1.get p.2:=by
 unfold lG gT;cases d with
 |false=>exact Lu ops k _ R H h
 |true=>
  simp only
  rw[rI ops _ R H _ h,rI ops _ R H _ h];cases aq:canRun P call ops (order ops) R H with
  |none=>
   cases m4 ops (order ops)with
   |none=>cases quiet ops<;>rfl
   |some q=>exact rI ops _ R H _ h|>.trans (by rw[aq];rfl)
  |some p=>
   obtain⟨T,g,H1⟩:=p;have r:=(kv aq).1;have u:∀t∈T,t.i∈order ops:=λt a1=>by rw[<-r];exact List.mem_map.2 ⟨t,a1,rfl⟩
   have f:∀t∈T,(g3 ops).contains t.i=ik ops (b9 ops) (order ops) t.i:=λt a1=>by
    unfold g3;rw[Bool.eq_iff_iff,List.contains_iff_mem,List.mem_filter];exact⟨λh=>h.2,λh=>⟨u t a1,h⟩⟩
   cases v:m4 ops (order ops)with
   |some q=>
    obtain⟨a,b⟩:=q;refine(rI ops _ R H _ h).trans ?_;rw[aq];simp only[Option.bind_some,abl,MU _ _ _ T H T f];cases q9 ops a b g&&od P (b9 ops) (ik ops (b9 ops) (order ops)) T H T<;>rfl
   |none=>
   simp only
   simp only[Option.bind_some];cases aN:quiet ops with
   |true=>
    have e:∀o∈ops.toList,oN o.op=false:=λo aR=>by
     unfold quiet at aN;rw[List.all_eq_true]at aN;simpa using aN o aR
    have dh:∀t∈T,t.k.eQ=false:=λt a1=>by
     obtain⟨A,B,l⟩:=List.append_of_mem a1;have c:=u4 (P:=P) (call:=call) (by rw[<-l];exact aq);cases n:t.k.eQ with
     |false=>rfl
     |true=>
      have:=H5 c.2.2.1 n;rw[e t.o (by have:=Array.mem_of_getElem? c.1;simpa using this)]at this;cases this
    have m:∀t∈T,ik ops (b9 ops) (order ops) t.i=true:=λt _=>by
     unfold ik;rw[List.all_eq_true];intro j _;cases s:ops[j]? with
     |none=>simp
     |some o=>simp[e o (by have:=Array.mem_of_getElem? s;simpa using this)]
    simp only[gP,J2 (b9 ops) T [] dh,J3 (b9 ops) _ T H T m];rfl
   |false=>
    simp only[jY,iJ,Gs,MQ _ _ _ T H T f];cases jh (b9 ops) T []with
    |false=>rfl
    |true=>
     cases kS P (b9 ops) (ik ops (b9 ops) (order ops)) T H T<;>rfl
def fV(n:Nat):Code->Bool
 | .region _ ops _=>ops.toList.all (oE n)
 | .seq a b=>fV n a&&fV n b
 | .cond _ a b=>fV n a&&fV n b
 | .block _ b=>fV n b
 | .loop b=>fV n b
 |_=>C
def p_(r:Option (fT×ba×ad))(a6:bI)(b:List (Nat×bI))(a:bI):O:=match r with
 |some (.normal,R,H)=>a6 R.get H
 |some (.exit id,R,H)=>look id b R.get H
 |some (.ret,R,H)=>a R.get H
 |none=>I
def LK{ops:Array Oper}:∀{os:List Oper} {R a7:ba} {H H':ad},ih P call ops os R H=D (a7,H')->a7.size=R.size
 |[],R,a7,H,H',h=>by
  simp only[ih,bb,cK]at h;rw[h.1]
 |o::os,R,a7,H,H',h=>by
  simp only[ih]at h;split at h
  ·cases h
  ·split at h
   ·cases h
   ·rename_i a af;rw[LK h,ba.size_put af]
def DS{ops:Array Oper}:∀{is:List Nat} {R a7:ba} {H H':ad} {T:List bA},canRun P call ops is R H=D (T,a7,H')->a7.size=R.size
 |[],R,a7,H,H',T,h=>by
  simp only[canRun,bb,cK]at h;rw[h.2.1]
 |i::is,R,a7,H,H',T,h=>by
  simp only[canRun]at h;split at h
  ·cases h
  ·split at h
   ·cases h
   ·split at h
    ·cases h
    ·rename_i a af;split at h
     ·cases h
     ·rename_i ah;simp only[bb,cK]at h;obtain⟨_,rfl,_⟩:=h;rw[DS ah,ba.size_put af]
def ZW{ops:Array Oper}{d:Bool}{R a7:ba}{H H':ad}(h:gT P call ops d R H=D (a7,H')):a7.size=R.size:=by
 unfold gT at h;split at h
 ·exact LK h
 ·split at h
  ·cases h
  ·rename_i af;split at h
   ·split at h
    ·cases h
    ·simp only[bb,cK]at h;obtain⟨rfl,_⟩:=h;exact DS af
   ·split at h
    ·cases h
    ·split at h
     ·cases h
     ·simp only[bb,cK]at h;obtain⟨rfl,_⟩:=h;exact DS af
def LJ{f:ba->ad->Option (fT×ba×ad)}(az:∀R H ex a7 H',f R H=D (ex,a7,H')->a7.size=R.size):
  ∀{n:Nat} {R:ba} {H:ad} {ex:fT} {a7:ba} {H':ad},iter f n R H=D (ex,a7,H')->a7.size=R.size
 |0,_,_,_,_,_,h=>by cases h
 |n+1,R,H,ex,a7,H',h=>by
  simp only[iter]at h;split at h
  ·rename_i a H1 af;rw[LJ az h,az _ _ _ _ _ af]
  ·exact az _ _ _ _ _ h
def LI{N:Nat}:∀(c:Code) {R:ba} {H:ad} {ex:fT} {a7:ba} {H':ad},c0 (gT P call) N c R H=D (ex,a7,H')->a7.size=R.size:=by
 intro c
 induction c with
 |skip=>intro R H ex a7 H' h;simp only[c0,bb,cK]at h;rw[h.2.1]
 |region id ops d=>
  intro R H ex a7 H' h;simp only[c0]at h;split at h
  ·rename_i j H1 af;simp only[bb,cK]at h;obtain⟨_,rfl,_⟩:=h;exact ZW af
  ·cases h
 |seq a b g i=>
  intro R H ex a7 H' h;simp only[c0]at h;split at h
  ·rename_i j H1 af;rw[i h,g af]
  ·exact g h
 |cond c a b g i=>
  intro R H ex a7 H' h;simp only[c0]at h;split at h
  ·exact g h
  ·exact i h
  ·cases h
 |block id b e=>
  intro R H ex a7 H' h;simp only[c0]at h;split at h
  ·rename_i k j H1 af;split at h<;>(simp only[bb,cK]at h;obtain⟨_,rfl,_⟩:=h;exact e af)
  ·exact e h
 |loop b e=>
  intro R H ex a7 H' h;simp only[c0]at h;exact LJ (λ_ _ _ _ _ h=>e h) h
 |exit id=>intro R H ex a7 H' h;simp only[c0,bb,cK]at h;rw[h.2.1]
 |ret=>intro R H ex a7 H' h;simp only[c0,bb,cK]at h;rw[h.2.1]
 |label l=>intro R H ex a7 H' h;simp only[c0,bb,cK]at h;rw[h.2.1]
 |goto l=>intro R H ex a7 H' h;cases h
 |scope b e=>intro R H ex a7 H' h;cases h
 |rangeFunc f db a b g i=>intro R H ex a7 H' h;cases h
 |refuse y=>intro R H ex a7 H' h;cases h
def HP{f:ba->ad->Option (fT×ba×ad)}{b:bI->bI}{g:List (Nat×bI)}{e:bI}(m:Nat)(d:∀R H ex a7 H',f R H=D (ex,a7,H')->a7.size=R.size)
  (c:∀(R:ba) (H:ad) (a6:bI),R.size=m->b a6 R.get H=p_ (f R H) a6 g e) (a6:bI):∀(n:Nat) (R:ba) (H:ad),R.size=m->oQ b n R.get H=p_ (iter f n R H) a6 g e
 |0,R,H,_=>rfl
 |n+1,R,H,a=>by
  simp only[oQ,iter];rw[c R H _ a];cases h:f R H with
  |none=>rfl
  |some x=>
   obtain⟨ex,i,H1⟩:=x;cases ex with
   |normal=>exact HP m d c a6 n i H1 (by rw[d _ _ _ _ _ h];exact a)
   |exit id=>rfl
   |ret=>rfl
def F7{N:Nat}:∀(c:Code) (R:ba) (H:ad) (a6:bI) (g:List (Nat×bI)) (e:bI),fV R.size c=C->bM P call N c a6 g e R.get H=p_ (c0 (gT P call) N c R H) a6 g e:=by
 intro c
 induction c with
 |skip=>intro R H a6 g e _;rfl
 |region id ops d=>
  intro R H a6 g e h;simp only[bM,c0];rw[WQ ops d a6 h];cases gT P call ops d R H<;>rfl
 |seq a b k m=>
  intro R H a6 g e h;simp only[fV,Bool.and_eq_true]at h;simp only[bM,c0];rw[k R H _ g e h.1];cases he:c0 (gT P call) N a R H with
  |none=>rfl
  |some x=>
   obtain⟨ex,i,H1⟩:=x;cases ex with
   |normal=>exact m i H1 a6 g e (by rw[LI a he];exact h.2)
   |exit id=>rfl
   |ret=>rfl
 |cond c a b k m=>
  intro R H a6 g e h;simp only[fV,Bool.and_eq_true]at h;simp only[bM,c0,l4];unfold dF;cases b4 R c with
  |none=>rfl
  |some v=>
   cases v<;>try rfl
   rename_i t;cases t
   ·exact m R H a6 g e h.2
   ·exact k R H a6 g e h.1
 |block id b j=>
  intro R H a6 g e h;simp only[bM,c0];rw[j R H a6 _ e h];cases he:c0 (gT P call) N b R H with
  |none=>rfl
  |some x=>
   obtain⟨ex,i,H1⟩:=x;cases ex with
   |normal=>rfl
   |ret=>rfl
   |exit o=>
    simp only[p_,look];by_cases n:o=id
    ·subst n;simp[Nat.beq_refl]
    ·have af:Nat.beq o id=false:=by rw[<-Bool.not_eq_true,Nat.beq_eq];exact n
     rw[af,if_neg n];rfl
 |loop b j=>
  intro R H a6 g e h;simp only[bM,c0];exact HP R.size (λ_ _ _ _ _ h=>LI b h) (λi H1 a6 p=>j i H1 a6 g e (by rw[p];exact h)) a6 N R H rfl
 |exit id=>intro R H a6 g e _;rfl
 |ret=>intro R H a6 g e _;rfl
 |label l=>intro R H a6 g e _;rfl
 |goto l=>intro R H a6 g e _;rfl
 |scope b j=>intro R H a6 g e _;rfl
 |rangeFunc f db a b k m=>intro R H a6 g e _;rfl
 |refuse y=>intro R H a6 g e _;rfl
def wz{R:ba}{H:ad}:∀(rs:List ResultVar) (k:List ae->O),kI P H R.get rs k=(h8 P R H rs).bind k
 |[],k=>rfl
 | .tmp t::rs,k=>by
  simp only[kI,h8,pV];rw[wz rs];cases h8 P R H rs<;>rfl
 | .cell a t::rs,k=>by
  simp only[kI,h8,pV];cases aI P H t (R.get a)with
  |none=>rfl
  |some v=>
   simp only[Option.bind_some];rw[wz rs];cases h8 P R H rs<;>rfl
def Fa(n:Nat)(args:List ae):(ba.enter n args).get=cG args:=by
 have h:∀(args:List ae) (d:Nat),cG args d=(args[d]?).getD (.tuple []):=by
  intro args
  induction args with
  |nil=>intro d;cases d<;>rfl
  |cons v ak b=>
   intro d;cases d with
   |zero=>rfl
   |succ d=>simpa [cG]using b d
 funext d
 rw[h];unfold ba.get ba.enter;simp only[Be];by_cases a:d<args.length
 ·rw[if_pos aa];simp[a]
 ·rw[if_neg aa,bu.qd];simp[a]
def Qo{f:Nat}{args:List ae}{H:ad}{fn:Func}{c:Code}{M:Nat}{r:ae×ad}(b:aK f args H=I)(az:P.funcs[f]? =D fn)(e:fn.body=D c)(g:fV fn.ntmps c=C)(aH:Nat.ble args.length fn.ntmps=C)
  (h:bM P (aQ P aK) M c (kd P fn.results.toList) [] (kd P fn.results.toList) (cG args) H=D r):aQ P aK f args H=D r:=by
 have i:(ba.enter fn.ntmps args).size=fn.ntmps:=by have:=Nat.le_of_ble_eq_true aH;simp only[ba.enter];omega
 rw[<-Fa fn.ntmps,F7 c _ _ _ _ _ (by rw[i];exact g)]at h;unfold p_ at h;have fin:∀(R:ba) (H':ad),kd P fn.results.toList R.get H'=D r->∃ak,h8 P R H' fn.results.toList=D ak/\r=(kr ak,H'):=by
  intro R H' a;unfold kd at a;rw[wz]at a;cases d:h8 P R H' fn.results.toList with
  |none=>rw[d]at a;cases a
  |some ak=>rw[d]at a;exact⟨ak,rfl,(Option.some.inj a).symm⟩
 split at h
 ·rename_i R H' he;obtain⟨ak,af,rfl⟩:=fin R H' h;exact GI b az e he (λid=>by intro a;cases a) af
 ·cases h
 ·rename_i R H' he;obtain⟨ak,af,rfl⟩:=fin R H' h;exact GI b az e he (λid=>by intro a;cases a) af
 ·cases h
end
end Go.bz
namespace Go
def Code.ax:Code->Code
 | .seq a _=>a
 | .cond _ a _=>a
 | .block _ b=>b
 | .loop b=>b
 |c=>c
def Code.ag:Code->Code
 | .seq _ b=>b
 | .cond _ _ b=>b
 |c=>c
def Code.test:Code->Operand
 | .cond c _ _=>c
 |_=> .tmp 0
def Code.num:Code->Nat
 | .block id _=>id
 | .exit id=>id
 |_=>0
def Code.HM:Code->Bool| .seq _ _=>C|_=>Z
def Code.HF:Code->Bool| .cond _ _ _=>C|_=>Z
def Code.HE:Code->Bool| .block _ _=>C|_=>Z
def Code.HJ:Code->Bool| .loop _=>C|_=>Z
end Go
namespace Go.bz
section
variable {P:Program}{call:aw}{N:Nat}{bW e7:bI}{bS:List (Nat×bI)}
def acO{c:Code}{k T:bI}(aq:c.HM=C)(d:∀R H,bM P call N c.ag bW bS e7 R H=k R H)(aA:∀R H,bM P call N c.ax k bS e7 R H=T R H):
  ∀R H,bM P call N c bW bS e7 R H=T R H:=by
 cases c<;>first|cases aq|skip
 rename_i a b;intro R H;rw[<-aA];show bM P call N a (λR H=>bM P call N b bW bS e7 R H) bS e7 R H=_;rw[show(λR H=>bM P call N b bW bS e7 R H)=k from funext λR=>funext λH=>d R H];rfl
def acL{c:Code}{A B:bI}(aq:c.HF=C)(a:∀R H,bM P call N c.ax bW bS e7 R H=A R H)(b:∀R H,bM P call N c.ag bW bS e7 R H=B R H):
  ∀R H,bM P call N c bW bS e7 R H=dF (bd R c.test) (A R H) (B R H):=by
 cases c<;>first|cases aq|skip
 intro R H;rw[<-a,<-b];rfl
def acK{c:Code}{T:bI}(aq:c.HE=C)(a:∀R H,bM P call N c.ax bW ((c.num,bW)::bS) e7 R H=T R H):∀R H,bM P call N c bW bS e7 R H=T R H:=by
 cases c<;>first|cases aq|skip
 intro R H;rw[<-a];rfl
def acN{c:Code}{k:Nat->bI}(aq:c.HJ=C)(a:∀R H,k 0 R H=I)(d:∀n R H,bM P call N c.ax (k n) bS e7 R H=k (n+1) R H):∀R H,bM P call N c bW bS e7 R H=k N R H:=by
 cases c<;>first|cases aq|skip
 rename_i b;have key:∀n R H,oQ (λa6 R H=>bM P call N b a6 bS e7 R H) n R H=k n R H:=by
  intro n
  induction n with
  |zero=>intro R H;exact(a R H).symm
  |succ n e=>
   intro R H;rw[<-d n R H];show bM P call N b (λR H=>oQ _ n R H) bS e7 R H=_;rw[show(λR H=>oQ (λa6 R H=>bM P call N b a6 bS e7 R H) n R H)=k n from funext λR=>funext λH=>e R H];rfl
 intro R H;exact key N R H
def acM(c:Code):∀R H,bM P call N c bW bS e7 R H=bM P call N c bW bS e7 R H:=λ_ _=>rfl
def aU(r:Option ae)(k:ae->O):O:=match r with
 |some v=>k v
 |none=>I
def dW(H:ad)(r:O)(k:ae->ad->O):O:=match r with
 |some (v,H')=>bif decide (H.next<=H'.next)then k v H' else I
 |none=>I
def fw(H:ad)(r:Option ad)(k:ad->O):O:=dW H (r.bind λH'=>D (.tuple [],H')) λ_ H'=>k H'
def eK(H:ad)(r:Option (ae×bn))(k:ae->ad->O):O:=match r with
 |some (v,b)=>k v (H.push b)
 |none=>I
def fu(H:ad)(cs:List ae)(k:ae->ad->O):O:=k (.ptr H.next 0 0) (H.push (.row Z cs.length [cs]))
def bw(fn:Func):Code:=match fn.body with
 |some c=>c
 |none=> .skip
def br(P:Program)(b:Builtin)(ts:List TypeId)(ak:List ae)(H:ad)(k:ae->O):O:=match bL P .empty b ts ak with
 |some v=>k v
 |none=>(bL P H b ts ak).bind k
def En(P:Program)(s d:TypeId)(v:ae)(H:ad)(k:ae->O):O:=match pP P s d v with
 |some v=>k v
 |none=>(ry P H s d v).bind k
def oe(call:aw)(H:ad)(f:ae)(ak:List ae)(k:ae->ad->O):O:=(nu f ak).bind λp=>dW H (call p.1 p.2 H) k
def gz(v:ae)(q:K->O):O:=q (.pure v)
def b2(r:Option ae)(q:K->O):O:=r.bind λv=>q (.pure v)
def qr(r:Option ae)(q:K->O):O:=r.bind λv=>q (.read v)
def bQ(b:ae)(want:Bool)(H:ad)(m:(K->O)->O)(k:ae->ad->O):O:=bX b want m λx=>k x.val (x.heap H)
end
end Go.bz
namespace Go.bz
def W(m:O)(Q:ae->ad->Prop):Prop:=∃v H,m=D (v,H)/\Q v H
def aG{v:ae}{H:ad}{Q:ae->ad->Prop}:W (D (v,H)) Q↔Q v H:=by
 constructor
 ·rintro⟨a,H',h,q⟩;simp only[bb,cK]at h;obtain⟨rfl,rfl⟩:=h;exact q
 ·exactλq=>⟨v,H,rfl,q⟩
def W.mono{m:O}{Q a:ae->ad->Prop}(h:W m Q)(aN:∀v H,Q v H->a v H):W m a:=by
 obtain⟨v,H,e,q⟩:=h;exact⟨v,H,e,aN v H q⟩
def aZ{r:O}{H:ad}{k:ae->ad->O}{Q a:ae->ad->Prop}(h:W r a)(b:∀v H',a v H'->H.next<=H'.next/\W (k v H') Q):W (dW H r k) Q:=by
 obtain⟨v,H',e,q⟩:=h;obtain⟨af,ah⟩:=b v H' q;rw[e];simp only[dW,decide_eq_true af,gP];exact ah
def cx{r:O}{H:ad}{q:K->O}{Q a:ae->ad->Prop}(h:W r a)(b:∀v H',a v H'->H.next<=H'.next/\W (q (.cN v H')) Q):W (dD H r q) Q:=by
 obtain⟨v,H',e,c⟩:=h;obtain⟨af,ah⟩:=b v H' c;rw[e];simp only[dD,decide_eq_true af,gP];exact ah
def eu{r:O}{H:ad}{x:ae}{k:ae->ad->O}{Q:ae->ad->Prop}(h:W r λv H'=>v=x/\H'=H)(a:W (k x H) Q):W (dW H r k) Q:=by
 refine aZ h ?_;rintro _ H' ⟨rfl,e⟩;rw[e];exact⟨bC _,a⟩
def ko{r:O}{H:ad}{x:ae}{q:K->O}{Q:ae->ad->Prop}(h:W r λv H'=>v=x/\H'=H)(a:W (q (.cN x H)) Q):W (dD H r q) Q:=by
 refine cx h ?_;rintro _ H' ⟨rfl,e⟩;rw[e];exact⟨bC _,a⟩
def pM{m e5:O}{Q:ae->ad->Prop}(au:∀r,m=D r->e5=D r)(h:W m Q):W e5 Q:=by
 obtain⟨v,H,e,q⟩:=h;exact⟨v,H,au _ e,q⟩
def h4:Nat:=0
def adl:Nat:=0
def M6:h4=adl:=rfl
def rf(v:ae)(H:ad)(k:ae->ad->O):O:=k v H
section
variable {r r':Option ae}{o fp:O}{m e5:Option (ae×bn)}{h bY:Option ad}{H H':ad}{a b8:ae}{b b':Bool}{z:Nat}
 @[congr] theorem adD {k:ae->ad->O} (e:a=b8) (d:H=H') (y:h4=z):rf a H k=rf b8 H' k:=by rw[e,d]
def mq(H:ad)(cs:List ae)(k:ae->ad->O):fu H cs k=rf (.ptr H.next 0 0) (H.push (.row Z cs.length [cs])) k:=rfl
def mr(v:ae)(H:ad)(k:ae->ad->O):rf v H k=k v H:=rfl
 @[congr] theorem adw {k:ae->O} (e:r=r') (y:h4=z):aU r k=aU r' k:=by rw[e]
 @[congr] theorem ady {k:ae->ad->O} (d:H=H') (e:o=fp) (y:h4=z):dW H o k=dW H' fp k:=by rw[d,e]
 @[congr] theorem adz {k:K->O} (d:H=H') (e:o=fp) (y:h4=z):dD H o k=dD H' fp k:=by rw[d,e]
 @[congr] theorem adI {k:ad->O} (d:H=H') (e:h=bY) (y:h4=z):fw H h k=fw H' bY k:=by rw[d,e]
 @[congr] theorem adE {k:ae->ad->O} (d:H=H') (e:m=e5) (y:h4=z):eK H m k=eK H' e5 k:=by rw[d,e]
 @[congr] theorem adG {k:K->O} (e:m=e5) (y:h4=z):im m k=im e5 k:=by rw[e]
 @[congr] theorem adC {p q:O} (e:r=r') (y:h4=z):dF r p q=dF r' p q:=by rw[e]
 @[congr] theorem adp {p q:O} (e:b=b') (y:h4=z):cond b p q=cond b' p q:=by rw[e]
 @[congr] theorem adA {w:Bool} {f:(K->O)->O} {k:ae->ad->O} (e:a=b8) (y:h4=z):bQ a w H f k=bQ b8 w H f k:=by rw[e]
 @[congr] theorem adB {w:Bool} {f:(K->O)->O} {k:K->O} (e:a=b8) (y:h4=z):bX a w f k=bX b8 w f k:=by rw[e]
 @[congr] theorem adx {s a:Option ae} {k:K->O} (e:r=r') (d:s=a) (y:h4=z):hM r s k=hM r' a k:=by rw[d,e]
 @[congr] theorem ads {q:K->O} (e:r=r') (y:h4=z):b2 r q=b2 r' q:=by rw[e]
 @[congr] theorem adt {q:K->O} (e:r=r') (y:h4=z):qr r q=qr r' q:=by rw[e]
 @[congr] theorem adu {q:K->O} (e:a=b8) (y:h4=z):gz a q=gz b8 q:=by rw[e]
def Wy(v:ae)(q:K->O):b2 (D v) q=q (.pure v):=rfl
def WB(v:ae)(q:K->O):qr (D v) q=q (.read v):=rfl
def WC(v:ae)(q:K->O):gz v q=q (.pure v):=rfl
end
def eN(k:IntKind)(n:Int):bF (D (.int k n)) (.int k n)=true:=by simp[bF,ae.beq]
def WL(x:List UInt8):bF (D (.str x)) (.str x)=true:=by simp[bF,ae.beq]
def sx(x:Bool):bF (D (.bool x)) (.bool x)=true:=by simp[bF,ae.beq]
def WK(l i n e:Nat)(c:Option Nat):bF (D (.aD l i n e c)) (.aD l i n e c)=true:=by simp[bF,ae.beq]
def WJ:bF (D .aB) .aB=true:=rfl
def ad.iM(H:ad)(b:bn)(l:Nat):(H.push b).get l=if l=H.next then D b else H.get l:=by
 split
 ·rename_i h;subst h;exact ad.a_ H b
 ·rename_i h;exact ad.dO h
def bu.wo{α:Type}(x y:α):∀(p:List lR) (t:bu α),bu.eB y p (bu.eB x p t)=bu.eB y p t
 |[],.leaf=>rfl
 |[],.node .. =>rfl
 |d::p,.leaf=>by cases d<;>simp[bu.eB,bu.wo x y p]
 |d::p,.node .. =>by cases d<;>simp[bu.eB,bu.wo x y p]
def ad.kH(H:ad)(b c:bn):(H.push b).set H.next c=H.push c:=by
 simp only[ad.push,ad.set,bu.put,bu.wo]
def ad.set_set(H:ad)(l:Nat)(b c:bn):(H.set l b).set l c=H.set l c:=by
 simp only[ad.set,bu.put,bu.wo]
def ad.SI{H:ad}{b:bn}{l:Nat}(h:l<=H.next)(bY:H.next<=l):(H.push b).get l=D b:=by
 obtain rfl:l=H.next:=aa
 exact ad.a_ H b
def ad.ga{H:ad}{b c:bn}{l:Nat}(h:l<=H.next)(bY:H.next<=l):(H.push b).set l c=H.push c:=by
 obtain rfl:l=H.next:=aa
 exact ad.kH H b c
def e8(S:Nat->Prop)(H H':ad):Prop:=H.next<=H'.next/\∀l,l<H.next->¬S l->H'.get l=H.get l
def av(H H':ad):Prop:=H.next<=H'.next/\∀l,l<H.next->H'.get l=H.get l
def av.refl(H:ad):av H H:=⟨bC _,λ_ _=>rfl⟩
def av.trans{H H1 a:ad}(h:av H H1)(k:av H1 a):av H a:=⟨Nat.le_trans h.1 k.1,λl al=>(k.2 l (Nat.lt_of_lt_of_le al h.1)).trans (h.2 l al)⟩
def av.push(H:ad)(b:bn):av H (H.push b):=⟨by simp,λl al=>ad.dO aa⟩
def av.dQ{H H1:ad}(h:av H H1)(b:bn):av H (H1.push b):=h.trans (av.push H1 b)
def av.m7{H H1:ad}(h:av H H1){l:Nat}(al:H.next<=l)(b:bn):av H (H1.set l b):=
 ⟨h.1,λj a=>by rw[ad.cb aa];exact h.2 j a⟩
def av.get{H H':ad}(h:av H H'){l:Nat}{b:bn}(a:H.get l=D b):H'.get l=D b:=by rw[h.2 l (ad.bE a)];exact a
def av.mut{H H':ad}(h:av H H')(S:Nat->Prop):e8 S H H':=⟨h.1,λl al _=>h.2 l al⟩
def e8.refl(S:Nat->Prop)(H:ad):e8 S H H:=(av.refl H).mut S
def e8.trans{S:Nat->Prop}{H H1 a:ad}(h:e8 S H H1)(k:e8 S H1 a):e8 S H a:=⟨Nat.le_trans h.1 k.1,λl al b=>(k.2 l (Nat.lt_of_lt_of_le al h.1) b).trans (h.2 l al b)⟩
def e8.m7{S:Nat->Prop}{H H1:ad}(h:e8 S H H1){l:Nat}(al:S l\/H.next<=l)(b:bn):e8 S H (H1.set l b):=
 ⟨h.1,λj c a=>by rw[ad.cb (by rintro rfl;exact al.elim a aa)];exact h.2 j c a⟩
def e8.get{S:Nat->Prop}{H H':ad}(h:e8 S H H'){l:Nat}{b:bn}(a:H.get l=D b)(c:¬S l):H'.get l=D b:=by rw[h.2 l (ad.bE a) c];exact a
section
variable {P:Program}{H:ad}
def na(v:ae)(k:ae->O):aU (D v) k=k v:=rfl
def MY(b:Bool)(x y:O):dF (D (.bool b)) x y=bif b then x else y:=rfl
def y7{v:ae}{H':ad}{k:ae->ad->O}(h:H.next<=H'.next):dW H (D (v,H')) k=k v H':=by
 simp only[dW,decide_eq_true h,gP]
def pA{H':ad}{k:ad->O}(h:H.next<=H'.next):fw H (D H') k=k H':=by
 simp only[fw,Option.bind_some];exact y7 h
def nb(v:ae)(b:bn)(k:ae->ad->O):eK H (D (v,b)) k=k v (H.push b):=rfl
def adf(m:(K->O)->O)(k:ae->ad->O):bQ (.bool C) C H m k=m (λx=>rf x.val (x.heap H) k):=rfl
def ac_(m:(K->O)->O)(k:ae->ad->O):bQ (.bool Z) Z H m k=m (λx=>rf x.val (x.heap H) k):=rfl
def ade(m:(K->O)->O)(k:ae->ad->O):bQ (.bool C) Z H m k=k (.tuple []) H:=rfl
def ada(m:(K->O)->O)(k:ae->ad->O):bQ (.bool Z) C H m k=k (.tuple []) H:=rfl
def adb(w:Bool)(m:(K->O)->O)(k:ae->ad->O):bQ (.tuple []) w H m k=k (.tuple []) H:=rfl
def ac8(v:ae)(b:Option ae)(k:K->O):hM (D v) b k=k (.pure v):=rfl
def Wp(a b:Option ae):da (.bool C) a b=a:=rfl
def Wo(a b:Option ae):da (.bool Z) a b=b:=rfl
def On(b:Bool):iG .not (.bool b)=D (.bool (!b)):=rfl
def NX(l i c:Nat):hC (.ptr l i c)=D (.ptr l i c):=rfl
def ED(v:ae):(K.pure v).val=v:=rfl
def EE(v:ae):(K.read v).val=v:=rfl
def EC(v:ae)(b:bn):(K.new v b).val=v:=rfl
def EB(v:ae)(H':ad):(K.cN v H').val=v:=rfl
def Na:K.skip.val= .tuple []:=rfl
def Ez(v:ae):(K.pure v).heap H=H:=rfl
def EA(v:ae):(K.read v).heap H=H:=rfl
def Ey(v:ae)(b:bn):(K.new v b).heap H=H.push b:=rfl
def Ex(v:ae)(H':ad):(K.cN v H').heap H=H':=rfl
def M_:K.skip.heap H=H:=rfl
def ER(ak:List ae)(i:Nat):jD (.tuple ak) i=ak[i]? :=rfl
def RL(t:TypeId)(c:Bool)(k:IntKind)(a b:Int):bm P .add t c (.int k a) (.int k b)=D (.int k (k.wrap (a+b))):=by simp[bm,ky]
def RV(t:TypeId)(c:Bool)(k:IntKind)(a b:Int):bm P .sub t c (.int k a) (.int k b)=D (.int k (k.wrap (a-b))):=by simp[bm,ky]
def GQ(t:TypeId)(c:Bool)(k:IntKind)(a b:Int):bm P .eql t c (.int k a) (.int k b)=D (.bool (a==b)):=by simp[bm,ky]
def RR(t:TypeId)(c:Bool)(k:IntKind)(a b:Int):bm P .neq t c (.int k a) (.int k b)=D (.bool (a != b)):=by simp[bm,ky]
def RQ(t:TypeId)(c:Bool)(k:IntKind)(a b:Int):bm P .lss t c (.int k a) (.int k b)=D (.bool (decide (a<b))):=by simp[bm,ky]
def RP(t:TypeId)(c:Bool)(k:IntKind)(a b:Int):bm P .leq t c (.int k a) (.int k b)=D (.bool (decide (a<=b))):=by simp[bm,ky]
def RO(t:TypeId)(c:Bool)(k:IntKind)(a b:Int):bm P .gtr t c (.int k a) (.int k b)=D (.bool (decide (b<a))):=by simp[bm,ky]
def RN(t:TypeId)(c:Bool)(k:IntKind)(a b:Int):bm P .geq t c (.int k a) (.int k b)=D (.bool (decide (b<=a))):=by simp[bm,ky]
def RT(t:TypeId)(c:Bool)(a b:List UInt8):bm P .eql t c (.str a) (.str b)=D (.bool (a==b)):=rfl
def RU(t:TypeId)(c:Bool)(a b:List UInt8):bm P .neq t c (.str a) (.str b)=D (.bool (!(a==b))):=rfl
def e_{t:TypeId}(a1:dM P t=D Z){l i c esz:Nat}{ro:Bool}{els:List (List ae)}{e:List ae}(h:H.get l=D (.row ro esz els))(he:els[i]? =D e):aI P H t (.ptr l i c)=e[c]? :=by
 simp only[aI,h,he,a1]
def gY{t:TypeId}{n:Nat}(a1:dM P t=D C)(aH:cp P t=D n){l i c esz:Nat}{ro:Bool}{els:List (List ae)}{e:List ae}(h:H.get l=D (.row ro esz els))(he:els[i]? =D e)(aq:c+n<=esz):aI P H t (.ptr l i c)=D (.agg ((e.drop c).take n)):=by
 simp only[aI,h,he,a1,aH,if_pos aq]
def gf{t:TypeId}{n:Nat}(aH:cp P t=D n){l i c esz:Nat}{els:List (List ae)}{e:List ae}{v:ae}(h:H.get l=D (.row Z esz els))(he:els[i]? =D e)(a:v.cells.length=n)(aR:v.cells.all ae.one=C)(aq:c+n<=esz):
  cD P H t (.ptr l i c) v=D (H.set l (.row Z esz (els.set i (eZ e c v.cells)))):=by
 simp only[cD,h,he];rw[if_pos ⟨by rw[aH,a],by rw[a];exact aq,aR⟩]
def Jv(k:IntKind)(n:Int):(ae.int k n).one=true:=rfl
def JB(x:List UInt8):(ae.str x).one=true:=rfl
def Jt(x:Bool):(ae.bool x).one=true:=rfl
def Jz(l i c:Nat):(ae.ptr l i c).one=true:=rfl
def JA(l i n e:Nat)(c:Option Nat):(ae.aD l i n e c).one=true:=rfl
def Jy:ae.aB.one=true:=rfl
def Jx:ae.gI.one=true:=rfl
def Jw(l:Nat):(ae.map l).one=true:=rfl
def Ju(f:Fn)(a c:List ae):(ae.func f a c).one=true:=rfl
def dx{v:ae}(h:v.one=C):v.cells=[v]:=by cases v<;>first|rfl|cases h
def oA(l:Nat)(cs:List ae)(h:cs.all ae.one=C):fe l (.agg cs)=D (.ptr l 0 0,.row Z cs.length [cs]):=by
 simp only[fe,ae.cells,h,gP]
end
end Go.bz
namespace Go.Proofs.YtmhhnnklfcbgfaaGreat
open Go.bz
noncomputable def P:Program:=Tryz.prog
noncomputable abbrev bg(f:Func):bI:=kd P f.results.toList
noncomputable abbrev dB(f:Func)(G:aw)(N:Nat):bI:=bM P G N (bw f) (bg f) [] (bg f)
def pz(H:ad)(r:Option ad)(k:ae->ad->O):O:=dW H (r.bind λH'=>D (.tuple [],H')) k
def adi{H H':ad}{k:ae->ad->O}(h:H.next<=H'.next):pz H (D H') k=k (.tuple []) H':=by
 simp only[pz,Option.bind_some];exact y7 h
 @[congr] theorem adH {H a:ad} {h bY:Option ad} {z:Nat} {k:ae->ad->O} (d:H=a) (e:h=bY) (b:h4=z):pz H h k=pz a bY k:=by rw[d,e]
def nc(H:ad)(r:Option (ae×bn))(k:ae->bn->ad->O):O:=match r with
 |some (v,b)=>k v b (H.push b)
 |none=>I
def MZ{H:ad}(v:ae)(b:bn)(k:ae->bn->ad->O):nc H (D (v,b)) k=k v b (H.push b):=rfl
 @[congr] theorem adF {H a:ad} {m e5:Option (ae×bn)} {z:Nat} {k:ae->bn->ad->O} (d:H=a) (e:m=e5) (b:h4=z):nc H m k=nc a e5 k:=by rw[d,e]
noncomputable def jb(call:aw)(H:ad)(r:ae)(name:String)(ak:List ae)(k:ae->ad->O):O:=(ia P H r name ak).bind λp=>dW H (call p.1 p.2 H) k
def eL:Env:=λ_=>I
def mL:List (List ae)->Option (List Int)
 |[]=>D []
 |[.int .i64 n]::es=>(mL es).map (n:: ·)
 |_=>I
def ey(n:Int):List ae:=[.int .i64 n]
def rK(o:Option bn):Option ae:=match o with
 |some (.row _ e els)=>if e=1 then(match els with
  |[[v]]=>D v
  |_=>I)else I
 |_=>I
def FN{o:Option bn}{v:ae}(h:rK o=D v):∃ro,o=D (.row ro 1 [[v]]):=by
 unfold rK at h;split at h
 ·split at h
  ·rename_i he;subst he;split at h
   ·cases h;exact⟨_,rfl⟩
   ·cases h
  ·cases h
 ·cases h
def sE(o:Option bn):Option (List (List ae)):=match o with
 |some (.row ro e els)=>if ro=Z/\e=1 then D els else I
 |_=>I
def Xe{o:Option bn}{els:List (List ae)}(h:sE o=D els):o=D (.row Z 1 els):=by
 unfold sE at h;split at h
 ·split at h
  ·rename_i he;obtain⟨rfl,rfl⟩:=he;cases h;rfl
  ·cases h
 ·cases h
def aK:aw:=λf args H=>match f,args with
 |95,[.func (.func 97) [] [.ptr l 0 0]]=>(match rK (H.get l)with
  |some .aB=>D (.aB,H)
  |some (.aD m i n 1 _)=>(match gN H m i n 1 with
   |some es=>(match mL es with
    |some xs=>if n<=1000000 then(match xs with
     |[]=>D (.aB,H)
     |_=>D (.aD H.next 0 n 1 I,H.push (.row Z 1 (xs.map ey))))else I
    |none=>I)
   |none=>I)
  |_=>I)
 |96,[.aB]=>D (.tuple [],H)
 |96,[.aD l 0 n 1 _]=>(match sE (H.get l)with
  |some es=>(match mL es with
   |some xs=>if es.length=n/\n<=1000000 then D (.tuple [],H.set l (.row Z 1 ((xs.mergeSort λx y=>decide (x<=y)).map ey)))else I
   |none=>I)
  |_=>I)
 |_,_=>I
def o4{f:Nat}{fn:Func}{N:Nat}{args:List ae}{H:ad}{r:ae×ad}(a:aK f args H=I)(az:P.funcs[f]? =D fn)(b:fn.body=D (bw fn))(c:fV fn.ntmps (bw fn)=C)(aH:Nat.ble args.length fn.ntmps=C)(h:dB fn (aQ P aK) N (cG args) H=D r):aQ P aK f args H=D r:=Qo a az b c aH h
def adv{f:Nat}{fn:Func}(N:Nat){args:List ae}{H:ad}{r:ae×ad}{S:aw->O}(az:P.funcs[f]? =D fn)(he:∀G,dB fn G N (cG args) H=S G)(h:S (aQ P aK)=D r)(a:aK f args H=none:=by first|kernel_rfl)(b:fn.body=D (bw fn):=by first|kernel_rfl)(c:fV fn.ntmps (bw fn)=true:=by first|kernel_rfl)(aH:Nat.ble args.length fn.ntmps=true:=by first|kernel_rfl):aQ P aK f args H=D r:=o4 a az b c aH ((he _).trans h)
end Go.Proofs.YtmhhnnklfcbgfaaGreat
namespace Go.bz
def c2(m:(K->O)->O)(k:K->O):bX (.bool C) C m k=m k:=rfl
def il(m:(K->O)->O)(k:K->O):bX (.bool Z) Z m k=m k:=rfl
def y9(m:(K->O)->O)(k:K->O):bX (.bool C) Z m k=k .skip:=rfl
def ec(m:(K->O)->O)(k:K->O):bX (.bool Z) C m k=k .skip:=rfl
def y8(w:Bool)(m:(K->O)->O)(k:K->O):bX (.tuple []) w m k=k .skip:=rfl
def cO{c:Bool}{a b:O}{Q:ae->ad->Prop}(aq:c=C)(h:W a Q):W (bif c then a else b) Q:=by rw[aq];exact h
def ct:List eP->ad->List ad
 |[],H=>[H]
 |t::ts,H=>H::ct ts (t.k.heap H)
def MP{ms:List Nat}{rd:ad->Bool}{i:Nat}:∀(T:List eP) (H:ad),(∀H'∈ct T H,rd H'=C)->hy ms rd i T H=C
 |[],H,h=>h H (by simp[ct])
 |t::ts,H,h=>by
  have b:=h H (by simp[ct]);have a:=MP (ms:=ms) (rd:=rd) (i:=i) ts (t.k.heap H) (λH' hm=>h H' (by simp[ct,hm]));rw[hy];cases d:t.k.eQ with
  |true=>simp[b,a]
  |false=>
   have:t.k.heap H=H:=by cases c:t.k<;>simp[c,K.eQ,K.heap]at d ⊢
   rw[this]at a;simp[a]
def ZG{ms:List Nat}{rd:ad->Bool}{i:Nat}{T:List eP}{H:ad}(h:∀H'∈ct T H,rd H'=C):pn ms rd i T H=true:=by
 rw[pn,MP T H h];cases h9 ms i T Z<;>rfl
def re(cE:List Nat)(T:List eP)(H:ad):List eP->Prop
 |[]=>True
 |t::ts=>(∀v,t.k= .read v->cE.contains t.i=C\/∀H'∈ct T H,bF (t.rd H') v=C)/\re cE T H ts
def MR{ms cE:List Nat}{T:List eP}{H:ad}:∀S:List eP,re cE T H S->h3 ms cE T H S=C
 |[],_=>rfl
 |t::ts,h=>by
  rw[re]at h;rw[h3,MR ts h.2,Bool.and_true];split
  ·rename_i v a;rcases h.1 v a with af|af
   ·rw[af,Bool.true_or]
   ·rw[ZG af,Bool.or_true]
  ·rfl
def cP{ms cE:List Nat}{T:List eP}{H:ad}(af:gX ms T []=C)(ah:re cE T H T):iJ ms cE T H=true:=by
 rw[iJ,af,MR T ah];rfl
section
variable {E:Env}{P:Program}{aK:aw}
def O7{G:aw}(h:∀g args H v H',G g args H=D (v,H')->gL E P g args H v H'):ed E P G:=λg args H v H' e=>h g args H v H' e
def GD(b:jB P){G:aw}(h:ed E P G){N f:Nat}{args:List ae}{H H1:ad}{fn:Func}{c:Code}{ex:fT}{R:ba}{ak:List ae}
  (a:P.funcs[f]? =D fn) (aq:fn.body=D c) (l:c0 (gT P G) N c (ba.enter fn.ntmps args) H=D (ex,R,H1)) (o:∀id,ex≠ .exit id) (r:h8 P R H1 fn.results.toList=D ak):gL E P f args H (kr ak) H1:=by
 intro ρ w xs i az j aH next p
 have k:=GF (N:=N) Kb (Kc b.mixed h) c (b.JV _ _ _ a aq);have n:(fn.name== "runtime.NumGoroutine")=false:=b.names fn (Array.mem_of_getElem? a);have q:(callFunc f xs.toArray).run P w= .ok (.enter f xs.toArray) w:=by
  unfold callFunc;simp[a,aq];intro m;simp[m]at n
 unfold nj;rw[q];simp only
 refine calls_of_wp a aq (k _ _ _ _ _ l ρ w _ _ i az (Gz j fn.ntmps) λt b8 s af ah=> ?_);obtain⟨x,d,g⟩:=Kg ah.rel af r;have e:=p x s t g ah;cases ex with
 |normal=>exact⟨af.none,x,d,e⟩
 |ret=>exact⟨af.none,x,d,e⟩
 |exit id=>exact absurd rfl (o id)
def oD(d:jB P){G:aw}(b:ed E P G){f:Nat}{args:List ae}{H:ad}{fn:Func}{c:Code}{M:Nat}{r:ae×ad}(az:P.funcs[f]? =D fn)(g:fn.body=D c)(i:fV fn.ntmps c=C)(aH:Nat.ble args.length fn.ntmps=C)
  (h:bM P G M c (kd P fn.results.toList) [] (kd P fn.results.toList) (cG args) H=D r):gL E P f args H r.1 r.2:=by
 have j:(ba.enter fn.ntmps args).size=fn.ntmps:=by have:=Nat.le_of_ble_eq_true aH;simp only[ba.enter];omega
 rw[<-Fa fn.ntmps,F7 c _ _ _ _ _ (by rw[j];exact i)]at h;unfold p_ at h;have fin:∀(R:ba) (H':ad),kd P fn.results.toList R.get H'=D r->∃ak,h8 P R H' fn.results.toList=D ak/\r=(kr ak,H'):=by
  intro R H' a;unfold kd at a;rw[wz]at a;cases e:h8 P R H' fn.results.toList with
  |none=>rw[e]at a;cases a
  |some ak=>rw[e]at a;exact⟨ak,rfl,(Option.some.inj a).symm⟩
 split at h
 ·rename_i R H' he;obtain⟨ak,af,rfl⟩:=fin R H' h;exact GD d b az g he (λid=>by intro a;cases a) af
 ·cases h
 ·rename_i R H' he;obtain⟨ak,af,rfl⟩:=fin R H' h;exact GD d b az g he (λid=>by intro a;cases a) af
 ·cases h
def Rel.As{ρ:Env}{H:ad}{w a:World}(h:Rel ρ H w)(i:w.heap.size<=a.heap.size)(d:∀b,b<w.heap.size->a.heap[b]? =w.heap[b]?):Rel ρ H a:=by
 have key:∀b x,w.heap[b]? =D x->a.heap[b]? =D x:=λb x e=>by
  rw[d b ?_];exact e;exact(Array.getElem?_eq_some_iff.1 e).1
 refine⟨λl ro esz els e=> ?_,λl es e=> ?_,λl t esz els e=> ?_,h.apart,λl s esz els e=>(h.old l s esz els e).step ρ.le_refl i (λb g _=>d b g) λ_ h=> .inl h⟩
 ·obtain⟨loc,af,ah,c,t,f,an,aM⟩:=h.row l ro esz els e;exact⟨loc,af,ah,c,t,f,key _ _ an,aM⟩
 ·obtain⟨loc,af,ents,clock,an,aM⟩:=h.map l es e;exact⟨loc,af,ents,clock,key _ _ an,aM⟩
 ·obtain⟨loc,af,ah⟩:=h.dz l t esz els e;exact⟨loc,af,ah.frame ρ.le_refl (d _ ah.1.lt)⟩
def ad.rQ(l:Nat):ad.empty.get l=none:=by
 cases h:ad.empty.get l with
 |none=>rfl
 |some b=>exact absurd (ad.bE h) (Nat.not_lt_zero l)
def Kd(w:World):Rel (λ_=>I) ad.empty w:=by
 refine⟨λl ro esz els e=> ?_,λl es e=> ?_,λl t esz els e=> ?_,λl a loc b _ _ _ h=> ?_,λl s esz els e=> ?_⟩
 ·rw[ad.rQ]at e;cases e
 ·rw[ad.rQ]at e;cases e
 ·rw[ad.rQ]at e;cases e
 ·cases h
 ·rw[ad.rQ]at e;cases e
def VP(b:Nat):¬d_ (λ_=>I) ad.empty b:=by
 rintro⟨l,loc,_,h,_⟩;cases h
def O6{g:Nat}{b:Bool}{H0:ad}(h:gL (λ_=>I) P g [] ad.empty (.bool b) H0)(H:ad):gL E P g [] H (.bool b) H:=by
 intro ρ w xs f az i aH next j
 cases i;refine h (λ_=>I) w [] (Kd w) ⟨λ_ _ _=>rfl,Env.le_refl _⟩ .nil (Nat.zero_le _) next λx e k aA a=> ?_
 cases aA;have d:∀b,b<w.heap.size->e.heap[b]? =w.heap[b]? :=λb c=>a.frame b c (VP b)
 exact j _ e ρ (.bool b) ⟨ρ.le_refl,bC _,λ_ _=>rfl,f.As a.size d,a.os,a.tape,a.output,a.size,λb c _=>d b c,λ_ h=> .inl h,λ_ _ _ h=>h,.same λ_ _ _ _ h=>h⟩
noncomputable def nB(P:Program)(aK:aw)(g:Nat)(b:Bool):aw:=λf args H=>if f=g/\args=[]then D (.bool b,H)else aQ P aK f args H
def Qm(c:jB P)(a:ed E P aK){g:Nat}{b:Bool}(h:∀H,gL E P g [] H (.bool b) H):ed E P (nB P aK g b):=by
 refine O7 λf args H v H' e=> ?_
 unfold nB at e;split at e
 ·rename_i aq;obtain⟨rfl,rfl⟩:=aq;simp only[bb,cK]at e;obtain⟨rfl,rfl⟩:=e;exact h H
 ·exactλρ w xs=>Qp c a f args H v H' e ρ w xs
def Qn{g:Nat}{b:Bool}(H:ad):nB P aK g b g [] H=D (.bool b,H):=by simp[nB]
def mK{f g:Nat}{b:Bool}{args:List ae}{H:ad}(h:f≠g):nB P aK g b f args H=aQ P aK f args H:=by simp[nB,h]
end
end Go.bz
namespace Go.Proofs.YtmhhnnklfcbgfaaGreat
open Go.bz
def Vw(fs:List Func):Bool:=fs.all λfn=> !(fn.name== "runtime.NumGoroutine")
def OU(fs:List Func):Bool:=fs.all λfn=>match fn.body with
 |some c=>lC c
 |none=>C
def Ww{P:Program}(af:P.follows .mixedOrders=C)(ah:Vw P.funcs.toList=C)(an:OU P.funcs.toList=C):jB P:=by
 refine⟨af,λfn a=> ?_,λf fn c az aq=> ?_⟩
 ·have:=List.all_eq_true.1 ah fn (Array.mem_toList_iff.2 a);simpa using this
 ·have:=List.all_eq_true.1 an fn (Array.mem_toList_iff.2 (Array.mem_of_getElem? az));simpa [aq]using this
set_option maxRecDepth 1000000
def ka:jB P:=Ww aF aF aF
