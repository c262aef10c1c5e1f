/-
  Texts of one proof, laid together: Fv17 Fv21 Fv22 Fv23 Fv24 Base Fv25 Pk.
-/
import Derived.Test.YtghmbpmaafnodaaGreatDoorMC
import Derived.Test.YtghmbpmaafnodaaGreatDoorProg
import Derived.KernelRfl
import Derived.Lib.Fields
import Derived.Lib.AtoiAll
import Derived.Lib.Bytealg
import Derived.Lib.Space
set_option linter.unusedVariables false
set_option linter.unusedSimpArgs false
namespace Go.gd
section
def nv(P:Program)(call:av)(ops:Array Oper):List Oper->ci->J->Option (ci×J)
 |[],R,H=>some (R,H)
 |o::os,R,H=>match nz P call ops o R H with
  |none=>none
  |some k=>match R.put o.dst k.val with
   |none=>none
   |some ch=>nv P call ops os ch (k.heap H)
def al_(o:Oper):Bool:=match cls o.op with
 | .write=>true
 | .call=>true
 |_=>false
def HL(m:Nat)(done:Nat):List Nat->List Nat
 |[]=>[]
 |j::A5=>if m.testBit j&& !done.testBit j then j::HL m done A5 else HL m done A5
def Vq(done:Nat):List Nat->Nat
 |[]=>done
 |j::A5=>Vq (done|||2^j) A5
def KV(ms all:List Nat):List (Nat×Oper)->Nat->List Nat
 |[],done=>HL (2^all.length-1) done all
 |(i,o)::is,done=>if al_ o&& !done.testBit i then
   (let A5:=HL (ms[i]?.getD 0) done all
    A5++i::KV ms all is (Vq done A5|||2^i))
  else KV ms all is done
def TB:Nat->List Oper->List (Nat×Oper)
 |_,[]=>[]
 |i,o::os=>(i,o)::TB (i+1) os
def order(ops:Array Oper):List Nat:=KV (hh ops) (List.range ops.size) (TB 0 ops.toList) 0
def kk(P:Program)(call:av)(ops:Array Oper)(draw:Bool)(R:ci)(H:J):Option (ci×J):=
 match draw with
 |false=>nv P call ops ops.toList R H
 |true=>match canRun P call ops (order ops) R H with
  |none=>none
  |some (T,ch,H')=>match qM (hh ops) T [] with
   |false=>none
   |true=>match uf P (hh ops) (tied ops (hh ops) (order ops)) T H T with
    |false=>none
    |true=>some (ch,H')
def sB:Code->Bool
 | .region _ ops true=>BU ops (hh ops) (order ops)
 | .seq a b=>sB a&&sB b
 | .cond _ a b=>sB a&&sB b
 | .block _ b=>sB b
 | .loop b=>sB b
 |_=>true
inductive bp where
 |normal
 |exit (id:Nat)
 |ret
def bp.Lx:bp->Exit
 | .normal=> .normal
 | .exit id=> .exit id
 | .ret=> .ret
abbrev Hv:=Array Oper->Bool->ci->J->Option (ci×J)
def iter(f:ci->J->Option (bp×ci×J)):Nat->ci->J->Option (bp×ci×J)
 |0,_,_=>none
 |n+1,R,H=>match f R H with
  |some (.normal,ch,H')=>iter f n ch H'
  |r=>r
def fe(nL:Hv)(N:Nat):Code->ci->J->Option (bp×ci×J)
 | .skip,R,H=>some (.normal,R,H)
 | .region _ ops d,R,H=>match nL ops d R H with
  |some (ch,H')=>some (.normal,ch,H')
  |none=>none
 | .seq a b,R,H=>match fe nL N a R H with
  |some (.normal,ch,H')=>fe nL N b ch H'
  |r=>r
 | .cond c a b,R,H=>match ey R c with
  |some (.bool true)=>fe nL N a R H
  |some (.bool false)=>fe nL N b R H
  |_=>none
 | .block id b,R,H=>match fe nL N b R H with
  |some (.exit th,ch,H')=>if th=id then some (.normal,ch,H') else some (.exit th,ch,H')
  |r=>r
 | .loop b,R,H=>iter (λR H=>fe nL N b R H) N R H
 | .exit id,R,H=>some (.exit id,R,H)
 | .ret,R,H=>some (.ret,R,H)
 | .label _,R,H=>some (.normal,R,H)
 |_,_,_=>none
def ci.ED(t:da I):Nat->List I->da I
 |_,[]=>t
 |i,v::cl=>ci.ED (da.put v (i+1) t i) (i+1) cl
def ci.enter(n:Nat)(args:List I):ci:=⟨ci.ED .leaf 0 args,args.length+(n-args.length)⟩
def Cb(P:Program)(R:ci)(H:J):ResultVar->Option I
 | .tmp t=>some (R.get t)
 | .cell a t=>aj P H t (R.get a)
def nA(P:Program)(R:ci)(H:J):List ResultVar->Option (List I)
 |[]=>some []
 |r::rs=>match Cb P R H r,nA P R H rs with
  |some v,some cl=>some (v::cl)
  |_,_=>none
def xN:List I->I
 |[v]=>v
 |cl=> .tuple cl
def ev(P:Program)(ao:av)(N:Nat):Nat->av
 |0,_,_,_=>none
 |n+1,f,args,H=>match ao f args H with
 |some r=>some r
 |none=>match P.funcs[f]? with
  |none=>none
  |some fn=>match fn.body with
   |none=>none
   |some c=>match fe (kk P (ev P ao N n)) N c (ci.enter fn.ntmps args) H with
    |none=>none
    |some (ex,R,H')=>match ex with
     | .exit _=>none
     |_=>match nA P R H' fn.results.toList with
      |none=>none
      |some cl=>some (xN cl,H')
section
variable {E:Env}{P:Program}{ao:av}{call:av}{nL:Hv}{N:Nat}
theorem JU{ops:Array Oper}: ∀{os:List Oper} {R ch:ci} {H H':J},nv P call ops os R H=some (ch,H')->H.next<=H'.next
 |[],R,ch,H,H',h=>by
  simp only[nv,bF,dw] at h;obtain⟨rfl,rfl⟩:=h;exact bN _
 |o::os,R,ch,H,H',h=>by
  simp only[nv] at h;split at h
  ·cases h
  ·rename_i k ah;split at h
   ·cases h
   ·exact Nat.le_trans (J4 ah) (JU h)
def KM(nL:Hv):Prop:= ∀ops d R H ch H',nL ops d R H=some (ch,H')->H.next<=H'.next
theorem Pk:KM (kk P call):=by
 intro ops d R H ch H' h;unfold kk at h;split at h
 ·exact JU h
 ·split at h
  ·cases h
  ·rename_i T iA H1 aS;split at h
   ·cases h
   ·split at h
    ·cases h
    ·simp only[bF,dw] at h;obtain⟨rfl,rfl⟩:=h;rw[(tx aS).2.1];exact(Dw aS).le
theorem Gn{f:ci->J->Option (bp×ci×J)}(al: ∀R H ex ch H',f R H=some (ex,ch,H')->H.next<=H'.next): ∀{n:Nat} {R:ci} {H:J} {ex:bp} {ch:ci} {H':J},
  iter f n R H=some (ex,ch,H')->H.next<=H'.next
 |0,_,_,_,_,_,h=>by cases h
 |n+1,R,H,ex,ch,H',h=>by
  simp only[iter] at h;split at h
  ·rename_i iA H1 U;exact Nat.le_trans (al _ _ _ _ _ U) (Gn al h)
  ·exact al _ _ _ _ _ h
theorem O7(Mh:KM nL): ∀(c:Code) {R:ci} {H:J} {ex:bp} {ch:ci} {H':J},fe nL N c R H=some (ex,ch,H')->H.next<=H'.next:=by
 intro c
 induction c with
 |skip=>intro R H ex ch H' h;simp only[fe,bF,dw] at h;obtain⟨_,_,rfl⟩:=h;exact bN _
 |region id ops d=>
  intro R H ex ch H' h;simp only[fe] at h;split at h
  ·rename_i iA H1 U;simp only[bF,dw] at h;obtain⟨_,_,rfl⟩:=h;exact Mh _ _ _ _ _ _ U
  ·cases h
 |seq a b jg j9=>
  intro R H ex ch H' h;simp only[fe] at h;split at h
  ·rename_i iA H1 U;exact Nat.le_trans (jg U) (j9 h)
  ·exact jg h
 |cond c a b jg j9=>
  intro R H ex ch H' h;simp only[fe] at h;split at h
  ·exact jg h
  ·exact j9 h
  ·cases h
 |block id b aT=>
  intro R H ex ch H' h;simp only[fe] at h;split at h
  ·rename_i th iA H1 U;have:=aT U;split at h<;>(simp only[bF,dw] at h;obtain⟨_,_,rfl⟩:=h;exact this)
  ·exact aT h
 |loop b aT=>
  intro R H ex ch H' h;simp only[fe] at h;exact Gn (λ_ _ _ _ _ h=>aT h) h
 |exit id=>intro R H ex ch H' h;simp only[fe,bF,dw] at h;obtain⟨_,_,rfl⟩:=h;exact bN _
 |ret=>intro R H ex ch H' h;simp only[fe,bF,dw] at h;obtain⟨_,_,rfl⟩:=h;exact bN _
 |label l=>intro R H ex ch H' h;simp only[fe,bF,dw] at h;obtain⟨_,_,rfl⟩:=h;exact bN _
 |goto l=>intro R H ex ch H' h;cases h
 |scope b aT=>intro R H ex ch H' h;cases h
 |rangeFunc f ew a b jg j9=>intro R H ex ch H' h;cases h
 |refuse y=>intro R H ex ch H' h;cases h
theorem OW(oU:ry E P call){ops:Array Oper}{Q:Exit->Act->World->Prop}: ∀{os:List Oper} {R ch:ci} {H H':J} {ρ:Env} {w:World} {a:Act},nv P call ops os R H=some (ch,H')->
  Rel ρ H w->ol E ρ H.next H'.next->hF ρ R a->(∀cY eg b4,hF cY ch eg->Step ρ H w cY H' b4->Q .normal eg b4)->wpList P ops Q os a w
 |[],R,ch,H,H',ρ,w,a,h,ce,_,a8,ek=>by
  simp only[nv,bF,dw] at h;obtain⟨rfl,rfl⟩:=h;exact ek ρ a w a8 (.refl ce)
 |o::os,R,ch,H,H',ρ,w,a,h,ce,al,a8,ek=>by
  simp only[nv] at h;split at h
  ·cases h
  ·rename_i k ah;split at h
   ·cases h
   ·rename_i iA MV;have j4:=JU h;have aqz:=J4 ah;have go: ∀x b4 cY,cW cY k.val x->Step ρ H w cY (k.heap H) b4->wpList P ops Q os (a.put o.dst x) b4:=λx b4 cY ag aM=>
     OW oU h aM.rel (al.after aM) ((a8.mono aM.le).put MV ag) λAZ a2 eX U aa=>ek AZ a2 eX U (aM.trans aa)
    unfold wpList;rw[Oy a8 o];rcases BB ah with⟨hw,js⟩|⟨hw,rfl⟩
    ·rw[hw];simp only[if_true];refine .inl ?_;cases k with
     |skip=>exact js.elim
     |pure v=>exact To js a8 λx ag=>go x w ρ ag (.refl ce)
     |read v=>exact Ts ce js a8 λx ag=>go x w ρ ag (.refl ce)
     |new v b=>
      have jr:ρ H.next=none:=al.new _ (bN _) (by simp only[K.heap,J.b2] at j4;omega)
      refine Vf js a8 jr λx b4 cY loc cD cu eH eE eR gI nj Ba sq ws ND NE=>go x b4 cY cD ?_
      have m0:jG ρ H w (H.next+1) (λ_=>none) ρ H w:=jG.start ce λl U aa=>by
       have:l=H.next:=Z
       rw[this];exact jr
      have m1:=m0.early (bN _) Z rfl cu eH eE eR gI nj Ba sq ws ND NE;exact(m1.XD (b:=b) (by simp)).done rfl
     |hx v bm=>
      exact TM oU ce (al.left j4) js a8 λx b4 cY U aa=>go x b4 cY U aa
    ·rw[hw];simp only[Bool.false_eq_true,if_false];exact go undef w ρ (.tuple [] [] .nil) (.refl ce)
def VB(E:Env)(P:Program)(nL:Hv):Prop:= ∀(id:Nat) (ops:Array Oper) (d:Bool) (R:ci) (H:J) (ch:ci) (H':J),nL ops d R H=some (ch,H')->(d=true->BU ops (hh ops) (order ops)=true)->
 ∀(ρ:Env) (w:World) (a:Act) (Q:Exit->Act->World->Prop),Rel ρ H w->ol E ρ H.next H'.next->hF ρ R a->(∀cY eg b4,hF cY ch eg->Step ρ H w cY H' b4->Q .normal eg b4)->(Code.region id ops d).wp P Q a w
theorem OU(hm:P.follows .mixedOrders=true)(oU:ry E P call):VB E P (kk P call):=by
 intro id ops d R H ch H' h bd ρ w a Q ce al a8 ek;unfold kk at h;split at h
 ·exact wp_region_list (OW oU h ce al a8 ek)
 ·split at h
  ·cases h
  ·rename_i T iA H1 aS;split at h
   ·cases h
   ·rename_i HB;split at h
    ·cases h
    ·rename_i HH;simp only[bF,dw] at h;obtain⟨rfl,rfl⟩:=h;exact afB hm oU ⟨aS,bd rfl,HB,HH⟩ ce al a8 ek
theorem aap{c:Code}{Q:Exit->Act->World->Prop}(I5:Nat->Act->World->Prop)(round: ∀n a w,I5 n a w-> ∃m,n=m+1/\c.wp P (Exit.then (I5 m) Q) a w){n:Nat}{a:Act}{w:World}(am6:I5 n a w):(Code.loop c).wp P Q a w:=by
 intro b k cs;have key: ∀n a w,I5 n a w-> ∃e eg b4,Q e eg b4/\Arrives P (lone (b.at a (.code c:: .inLoop c::k)) cs w) b k cs e eg b4:=by
  intro n
  induction n with
  |zero=>intro a w h;obtain⟨m,hm,_⟩:=round 0 a w h;omega
  |succ n aT=>
   intro a w h;obtain⟨m,hm,hw⟩:=round _ a w h;obtain rfl:m=n:=Z;obtain⟨e,Cr,s3,bi,xP⟩:=hw b (.inLoop c::k) cs;cases e with
   |normal=>
    obtain⟨ami,amd,H2,akj,afW⟩:=aT Cr s3 bi;exact⟨ami,amd,H2,akj,.of_steps (Steps.trans xP (.one step_inLoop)) afW⟩
   |exit id=>exact⟨_,Cr,s3,bi,.pass (x:= .inLoop c) rfl (λ_ _=> .inl (by simp)) xP⟩
   |goto l=>exact⟨_,Cr,s3,bi,.pass (x:= .inLoop c) rfl (λ_ _=> .inl (by simp)) xP⟩
   |ret=>exact⟨_,Cr,s3,bi,.pass (x:= .inLoop c) rfl (λ_ _=> .inl (by simp)) xP⟩
   |panic aq_=>exact⟨_,Cr,s3,bi,.pass (x:= .inLoop c) rfl (λ_ _=> .inl (by simp)) xP⟩
   |outgrown=>exact⟨_,Cr,s3,bi,.pass (x:= .inLoop c) rfl (λ_ _=> .inl (by simp)) xP⟩
 obtain⟨e,eg,b4,bi,xP⟩:=key _ a w am6;exact⟨e,eg,b4,bi,.of_steps (.one step_loop) xP⟩
def K6(E:Env)(P:Program)(c:Code)(f:ci->J->Option (bp×ci×J)):Prop:= ∀(R:ci) (H:J) (ex:bp) (ch:ci) (H':J),f R H=some (ex,ch,H')->
 ∀(ρ:Env) (w:World) (a:Act) (Q:Exit->Act->World->Prop),Rel ρ H w->ol E ρ H.next H'.next->hF ρ R a->(∀cY eg b4,hF cY ch eg->Step ρ H w cY H' b4->Q ex.Lx eg b4)->c.wp P Q a w
theorem abx{c:Code}{f:ci->J->Option (bp×ci×J)}(al:K6 E P c f)(j4: ∀R H ex ch H',f R H=some (ex,ch,H')->H.next<=H'.next)(n:Nat):K6 E P (.loop c) (iter f n):=by
 intro R H ex ch H' h ρ w a Q ce CV a8 ek;refine aap (n:=n) (λn bf eo=> ∃iA H1 pi,iter f n iA H1=some (ex,ch,H')/\Step ρ H w pi H1 eo/\hF pi iA bf) ?_ ⟨R,H,ρ,h,.refl ce,a8⟩;rintro n bf eo ⟨iA,H1,pi,U,aM,mY⟩;cases n with
 |zero=>cases U
 |succ n=>
  refine⟨n,rfl,?_⟩;have hle:=Gn j4 U;simp only[iter] at U;split at U
  ·rename_i ape bm aa;have amL:=Gn j4 U;refine al _ _ _ _ _ aa pi eo bf _ aM.rel (ol.left (ol.after CV aM) amL) mY λAZ a2 eX g1 g2=> ?_
   exact⟨ape,bm,AZ,U,aM.trans g2,g1⟩
  ·rename_i dM;refine al _ _ _ _ _ U pi eo bf _ aM.rel (ol.after CV aM) mY λAZ a2 eX g1 g2=> ?_
   have:=ek AZ a2 eX g1 (aM.trans g2);cases ex with
   |normal=>exact absurd U (dM _ _)
   |exit id=>exact this
   |ret=>exact this
theorem OQ(j4:KM nL)(Mh:VB E P nL): ∀(c:Code),sB c=true->K6 E P c (fe nL N c):=by
 intro c
 induction c with
 |skip=>
  intro _ R H ex ch H' h ρ w a Q ce al a8 ek;simp only[fe,bF,dw] at h;obtain⟨rfl,rfl,rfl⟩:=h;exact wp_skip (ek ρ a w a8 (.refl ce))
 |region id ops d=>
  intro bw R H ex ch H' h ρ w a Q ce al a8 ek;simp only[fe] at h;split at h
  ·rename_i iA H1 U;simp only[bF,dw] at h;obtain⟨rfl,rfl,rfl⟩:=h;exact Mh id ops d R H _ _ U (λbd=>by subst bd;exact bw) ρ w a Q ce al a8 ek
  ·cases h
 |seq x y jg j9=>
  intro bw R H ex ch H' h ρ w a Q ce al a8 ek;simp only[sB,Bool.and_eq_true] at bw;simp only[fe] at h;refine wp_seq ?_;split at h
  ·rename_i iA H1 U;have hle:=O7 j4 y h;refine jg bw.1 _ _ _ _ _ U ρ w a _ ce (al.left hle) a8 λpi bf eo g1 g2=> ?_
   exact j9 bw.2 _ _ _ _ _ h pi eo bf Q g2.rel (al.after g2) g1 λAZ a2 eX g3 g4=>ek AZ a2 eX g3 (g2.trans g4)
  ·rename_i dM;refine jg bw.1 _ _ _ _ _ h ρ w a _ ce al a8 λpi bf eo g1 g2=> ?_
   have:=ek pi bf eo g1 g2;cases ex with
   |normal=>exact absurd h (dM _ _)
   |exit id=>exact this
   |ret=>exact this
 |cond c x y jg j9=>
  intro bw R H ex ch H' h ρ w a Q ce al a8 ek;simp only[sB,Bool.and_eq_true] at bw;simp only[fe] at h;split at h
  ·rename_i aS;have U:=gX a8 aS;refine wp_cond_true (by generalize a.eval c=z at U;cases U;rfl) ?_;exact jg bw.1 _ _ _ _ _ h ρ w a Q ce al a8 ek
  ·rename_i aS;have U:=gX a8 aS;refine wp_cond_false (by generalize a.eval c=z at U;cases U;rfl) ?_;exact j9 bw.2 _ _ _ _ _ h ρ w a Q ce al a8 ek
  ·cases h
 |block id b aT=>
  intro bw R H ex ch H' h ρ w a Q ce al a8 ek;simp only[fe] at h;refine wp_block ?_;split at h
  ·rename_i th iA H1 U;split at h
   ·rename_i hid;simp only[bF,dw] at h;obtain⟨rfl,rfl,rfl⟩:=h;refine aT bw _ _ _ _ _ U ρ w a _ ce al a8 λpi bf eo g1 g2=> ?_
    have:=ek pi bf eo g1 g2;simp only[bp.Lx,Exit.inBlock,hid,if_true];exact this
   ·rename_i hid;simp only[bF,dw] at h;obtain⟨rfl,rfl,rfl⟩:=h;refine aT bw _ _ _ _ _ U ρ w a _ ce al a8 λpi bf eo g1 g2=> ?_
    have:=ek pi bf eo g1 g2;simp only[bp.Lx,Exit.inBlock,hid,if_false];exact this
  ·rename_i dM;refine aT bw _ _ _ _ _ h ρ w a _ ce al a8 λpi bf eo g1 g2=> ?_
   have:=ek pi bf eo g1 g2;cases ex with
   |normal=>exact this
   |exit th=>exact absurd h (dM _ _ _)
   |ret=>exact this
 |loop b aT=>
  intro bw R H ex ch H' h ρ w a Q ce al a8 ek;simp only[fe] at h;exact abx (aT bw) (λ_ _ _ _ _ h=>O7 j4 b h) N R H ex ch H' h ρ w a Q ce al a8 ek
 |exit id=>
  intro _ R H ex ch H' h ρ w a Q ce al a8 ek;simp only[fe,bF,dw] at h;obtain⟨rfl,rfl,rfl⟩:=h;exact wp_exit (ek ρ a w a8 (.refl ce))
 |ret=>
  intro _ R H ex ch H' h ρ w a Q ce al a8 ek;simp only[fe,bF,dw] at h;obtain⟨rfl,rfl,rfl⟩:=h;exact wp_ret (ek ρ a w a8 (.refl ce))
 |label l=>
  intro _ R H ex ch H' h ρ w a Q ce al a8 ek;simp only[fe,bF,dw] at h;obtain⟨rfl,rfl,rfl⟩:=h;exact wp_label (ek ρ a w a8 (.refl ce))
 |goto l=>intro _ R H ex ch H' h;cases h
 |scope b aT=>intro _ R H ex ch H' h;cases h
 |rangeFunc f ew a b jg j9=>intro _ R H ex ch H' h;cases h
 |refuse y=>intro _ R H ex ch H' h;cases h
theorem Kz: ∀(args:List I) (t:da I) (i d:Nat),(ci.ED t i args).get d=if i<=d/\d<i+args.length then args[d-i]? else t.get d
 |[],t,i,d=>by simp only[ci.ED,List.length_nil];rw[if_neg Z]
 |v::cl,t,i,d=>by
  simp only[ci.ED];rw[Kz cl];by_cases U:i+1<=d/\d<i+1+cl.length
  ·rw[if_pos U,if_pos (by simp;omega),show d-i=(d-(i+1))+1 by omega];simp
  ·rw[if_neg U];by_cases aa:d=i
   ·subst aa;rw[da.Dq _ _ _ _ Z,if_pos (by simp)];simp
   ·rw[da.Dn _ _ _ _ _ (Ne.symm aa),if_neg (by simp;omega)]
theorem Qs{ρ:Env}{args:List I}{xs:List Value}(h:dI ρ args xs)(n:Nat):hF ρ (ci.enter n args) {tmps:=xs.toArray++Array.replicate (n-xs.toArray.size) undef,defers:=[]}:=by
 have az:=h.length;refine⟨by simp[ci.enter,az],λd=> ?_,rfl⟩;unfold ci.get ci.enter;simp only
 rw[Kz];rw[Array.getD_eq_getD_getElem?];by_cases bd:d<args.length
 ·rw[if_pos Z];obtain⟨v,bA⟩: ∃v,args[d]? =some v:=⟨args[d],by simp[bd]⟩;obtain⟨x,ag,jt⟩:=h.get d v bA;have U:(xs.toArray++Array.replicate (n-xs.toArray.size) undef)[d]? =some x:=by
   rw[Array.getElem?_append_left (by simp;omega)];simpa using ag
  rw[U];simp only[Nat.sub_zero,bA,Option.getD_some];exact jt
 ·rw[if_neg Z];have U:((xs.toArray++Array.replicate (n-xs.toArray.size) undef)[d]?).getD undef=undef:=by
   rw[Array.getElem?_append_right (by simp;omega)];simp only[Array.getElem?_replicate];split<;>rfl
  rw[U,da.DL];exact .tuple [] [] .nil
def D8(tmps:Array Value):ResultVar->Sem Value
 | .tmp t=>pure (tmps.getD t undef)
 | .cell b t=>do loadVar t (<-asAddr (tmps.getD b undef))
theorem aaz{ρ:Env}{H:J}{w:World}{R:ci}{a:Act}(ce:Rel ρ H w)(a8:hF ρ R a){r:ResultVar}{v:I}(h:Cb P R H r=some v):
  ∃x,(D8 a.tmps r).run P w= .ok x w/\cW ρ v x:=by
 cases r with
 |tmp t=>
  simp only[Cb,bF] at h;subst h;exact⟨_,rfl,a8.get t⟩
 |cell b t=>
  simp only[Cb] at h;obtain⟨x,aI,bc⟩:=OZ ce h (a8.get b);refine⟨x,?_,bc⟩;have aa:=a8.get b;simp only[D8];generalize a.tmps.getD b undef=z at aa aI ⊢;have bw: ∃l i c,R.get b= .ptr l i c:=by
   generalize R.get b=u at h;unfold aj at h;cases u<;>first|exact⟨_,_,_,rfl⟩|(exfalso;simp at h)
  obtain⟨l,i,c,bw⟩:=bw;rw[bw] at aa;cases aa;simpa [Instr.loadAt,Instr.sureAddr,asAddr] using aI
theorem PC{ρ:Env}{H:J}{w:World}{R:ci}{a:Act}(ce:Rel ρ H w)(a8:hF ρ R a): ∀{rs:List ResultVar} {cl:List I},nA P R H rs=some cl->
  ∃xs:List Value,(rs.mapM (D8 a.tmps)).run P w= .ok xs w/\dI ρ cl xs
 |[],cl,h=>by simp only[nA,bF] at h;subst h;exact⟨[],by simp[Sem.run_pure],.nil⟩
 |r::rs,cl,h=>by
  simp only[nA] at h;split at h
  ·rename_i v FJ bA tf;simp only[bF] at h;subst h;obtain⟨x,aI,bc⟩:=aaz ce a8 bA;obtain⟨xs,dq,eZ⟩:=PC ce a8 tf;refine⟨x::xs,?_,.cons _ _ _ _ bc eZ⟩;rw[List.mapM_cons];simp only[Sem.run_bind,Result.andThen_ok,Sem.run_pure,aI,dq]
  ·cases h
theorem abP(fn:Func)(tmps:Array Value):results fn tmps=(do
  let cl<-fn.results.mapM (D8 tmps)
  pure (if h:cl.size=1 then cl[0] else .tuple cl)):=by
 unfold results
 congr 1
theorem OH{ρ:Env}{H:J}{w:World}{R:ci}{a:Act}(ce:Rel ρ H w)(a8:hF ρ R a){fn:Func}{cl:List I}(h:nA P R H fn.results.toList=some cl):
  ∃x,(results fn a.tmps).run P w= .ok x w/\cW ρ (xN cl) x:=by
 obtain⟨xs,aI,bc⟩:=PC ce a8 h;have hm:(fn.results.mapM (D8 a.tmps)).run P w= .ok xs.toArray w:=by
  rw[Array.mapM_eq_mapM_toList];simp only[Sem.run_map,aI,Result.andThen_ok]
 refine⟨if h:xs.toArray.size=1 then xs.toArray[0] else .tuple xs.toArray,?_,?_⟩
 ·rw[abP];simp only[Sem.run_bind,hm,Result.andThen_ok,Sem.run_pure]
 ·cases bc with
  |nil=>exact .tuple [] [] .nil
  |cons v x FJ uU U aa=>
   cases aa with
   |nil=>exact U
   |cons dr er aqh aqj ae am=>
    simp only[xN];rw[dif_neg (by simp)];exact .tuple _ _ (.cons _ _ _ _ U (.cons _ _ _ _ ae am))
structure zb(P:Program):Prop where
 mixed:P.follows .mixedOrders=true
 names: ∀fn∈P.funcs,(fn.name== "runtime.NumGoroutine")=false
 Wb: ∀(f:Nat) (fn:Func) (c:Code),P.funcs[f]? =some fn->fn.body=some c->sB c=true
theorem VN(po:zb P)(tr:ry E P ao): ∀n,ry E P (ev P ao N n)
 |0=>λg args H v H' h=>by cases h
 |n+1=>by
  intro g args H v H' h ρ w xs ce al oT aU next rN
  simp only[ev] at h;split at h
  ·rename_i r a8;cases h;exact tr g args H v H' a8 ρ w xs ce al oT aU next rN
  split at h
  ·cases h
  ·rename_i fn jr;split at h
   ·cases h
   ·rename_i c aS;split at h
    ·cases h
    ·rename_i ex R H1 pb;have AF:=VN po tr n;have LB:=OQ (N:=N) Pk (OU po.mixed AF) c (po.Wb _ _ _ jr aS);have zJ:(fn.name== "runtime.NumGoroutine")=false:=po.names fn (Array.mem_of_getElem? jr);have oy:(callFunc g xs.toArray).run P w= .ok (.enter g xs.toArray) w:=by
      unfold callFunc;simp[jr,aS];intro b0;simp[b0] at zJ
     unfold zT;rw[oy];simp only
     split at h
     ·cases h
     ·rename_i dM;split at h
      ·cases h
      ·rename_i cl tf;simp only[bF,dw] at h;obtain⟨rfl,rfl⟩:=h;refine calls_of_wp jr aS (LB _ _ _ _ _ pb ρ w _ _ ce al (Qs oT fn.ntmps) λcY eg b4 U aa=> ?_);obtain⟨x,aI,bc⟩:=OH aa.rel U tf;have s9:=rN x b4 cY bc aa;cases ex with
       |normal=>exact⟨U.none,x,aI,s9⟩
       |ret=>exact⟨U.none,x,aI,s9⟩
       |exit id=>exact absurd rfl (dM id)
end
end
section
section
variable {E:Env}{P:Program}{ao:av}
def Al(P:Program)(ao:av)(f:Nat)(args:List I)(H:J)(r:I×J):Prop:= ∃k,∀N,k<=N-> ∀n,k<=n->ev P ao N n f args H=some r
theorem Al.uniq{f:Nat}{args:List I}{H:J}{r s:I×J}(h:Al P ao f args H r)(bZ:Al P ao f args H s):r=s:=by
 obtain⟨k,ah⟩:=h;obtain⟨j,bH⟩:=bZ;have U:=ah (max k j) (Nat.le_max_left ..) (max k j) (Nat.le_max_left ..);rw[bH (max k j) (Nat.le_max_right ..) (max k j) (Nat.le_max_right ..)] at U;exact(Option.some.inj U).symm
open Classical in
noncomputable def aq(P:Program)(ao:av):av:=λf args H=>if h: ∃r,Al P ao f args H r then some h.choose else none
theorem St{f:Nat}{args:List I}{H:J}{r:I×J}(h:aq P ao f args H=some r):Al P ao f args H r:=by
 unfold aq at h;split at h
 ·rename_i ag;rw[<-Option.some.inj h];exact ag.choose_spec
 ·cases h
theorem Tg{f:Nat}{args:List I}{H:J}{r:I×J}(h:Al P ao f args H r):aq P ao f args H=some r:=by
 unfold aq;have ag: ∃r,Al P ao f args H r:=⟨r,h⟩;rw[dif_pos ag];exact congrArg some (ag.choose_spec.uniq h)
theorem ahq(po:zb P)(tr:ry E P ao):ry E P (aq P ao):=by
 intro g args H v H' h;obtain⟨k,ah⟩:=St h;exact VN po tr k g args H v H' (ah k (bN _) k (bN _))
theorem acG{o:Op}{R:ci}{H:J}{x:K}(h:step1 P (aq P ao) o R H=some x): ∃k,∀N,k<=N-> ∀n,k<=n->step1 P (ev P ao N n) o R H=some x:=by
 unfold step1 at h;unfold step1;split at h
 ·exact⟨0,λ_ _ _ _=>h⟩
 ·exact⟨0,λ_ _ _ _=>h⟩
 ·exact⟨0,λ_ _ _ _=>h⟩
 ·exact⟨0,λ_ _ _ _=>h⟩
 ·exact⟨0,λ_ _ _ _=>h⟩
 ·split at h
  ·split at h
   ·rename_i g cl aS;cases oU:aq P ao g cl H with
    |none=>rw[oU] at h;cases h
    |some r=>
     obtain⟨k,ah⟩:=St oU;refine⟨k,λN dU n aU=> ?_⟩;rw[oU] at h;simp only[aS,ah N dU n aU];exact h
   ·cases h
  ·cases h
theorem PU{ops:Array Oper}{o:Oper}{R:ci}{H:J}{x:K}(h:nz P (aq P ao) ops o R H=some x): ∃k,∀N,k<=N-> ∀n,k<=n->nz P (ev P ao N n) ops o R H=some x:=by
 unfold nz at h;unfold nz;split at h
 ·rename_i hw;obtain⟨k,ah⟩:=acG h;exact⟨k,λN dU n aU=>ah N dU n aU⟩
 ·exact⟨0,λ_ _ _ _=>h⟩
theorem Pp{ops:Array Oper}: ∀{os:List Oper} {R:ci} {H:J} {x:ci×J},nv P (aq P ao) ops os R H=some x-> ∃k,∀N,k<=N-> ∀n,k<=n->nv P (ev P ao N n) ops os R H=some x
 |[],R,H,x,h=>⟨0,λ_ _ _ _=>h⟩
 |o::os,R,H,x,h=>by
  simp only[nv] at h;split at h
  ·cases h
  ·rename_i y cV;split at h
   ·cases h
   ·rename_i ch lm;obtain⟨k,ah⟩:=PU cV;obtain⟨j,bH⟩:=Pp h;refine⟨max k j,λN dU n aU=> ?_⟩;simp only[nv,ah N Z n Z,lm,bH N Z n Z]
theorem O6{ops:Array Oper}: ∀{is:List Nat} {R:ci} {H:J} {x:List dO×ci×J},canRun P (aq P ao) ops is R H=some x-> ∃k,∀N,k<=N-> ∀n,k<=n->canRun P (ev P ao N n) ops is R H=some x
 |[],R,H,x,h=>⟨0,λ_ _ _ _=>h⟩
 |i::is,R,H,x,h=>by
  simp only[canRun] at h;split at h
  ·cases h
  ·rename_i o bt;split at h
   ·cases h
   ·rename_i y cV;split at h
    ·cases h
    ·rename_i ch lm;split at h
     ·cases h
     ·rename_i T fb dR aS;obtain⟨k,ah⟩:=PU cV;obtain⟨j,bH⟩:=O6 aS;refine⟨max k j,λN dU n aU=> ?_⟩;simp only[canRun,bt,ah N Z n Z,lm,bH N Z n Z];exact h
theorem aaX{ops:Array Oper}{d:Bool}{R:ci}{H:J}{x:ci×J}(h:kk P (aq P ao) ops d R H=some x): ∃k,∀N,k<=N-> ∀n,k<=n->kk P (ev P ao N n) ops d R H=some x:=by
 unfold kk at h;unfold kk;split at h
 ·obtain⟨k,ah⟩:=Pp h;exact⟨k,λN dU n aU=>ah N dU n aU⟩
 ·split at h
  ·cases h
  ·rename_i T ch H' aS;obtain⟨k,ah⟩:=O6 aS;refine⟨k,λN dU n aU=> ?_⟩;simp only[ah N dU n aU];exact h
theorem QD{f:ci->J->Option (bp×ci×J)}: ∀{n m:Nat} {R:ci} {H:J} {x:bp×ci×J},iter f n R H=some x->n<=m->iter f m R H=some x
 |0,_,_,_,_,h,_=>by cases h
 |n+1,0,_,_,_,_,hm=>Z
 |n+1,m+1,R,H,x,h,hm=>by
  simp only[iter] at h ⊢;split at h
  ·rename_i ch H' he;exact QD h Z
  ·exact h
theorem QC{f:ci->J->Option (bp×ci×J)}{g:Nat->Nat->ci->J->Option (bp×ci×J)}(al: ∀R H x,f R H=some x-> ∃k,∀N,k<=N-> ∀n,k<=n->g N n R H=some x):
  ∀{M:Nat} {R:ci} {H:J} {x:bp×ci×J},iter f M R H=some x-> ∃k,∀N,k<=N-> ∀n,k<=n->iter (g N n) M R H=some x
 |0,_,_,_,h=>by cases h
 |M+1,R,H,x,h=>by
  simp only[iter] at h;split at h
  ·rename_i ch H' he;obtain⟨k,ah⟩:=al _ _ _ he;obtain⟨j,bH⟩:=QC al h;refine⟨max k j,λN dU n aU=> ?_⟩;simp only[iter,ah N Z n Z];exact bH N Z n Z
  ·rename_i dM;obtain⟨k,ah⟩:=al _ _ _ h;refine⟨k,λN dU n aU=> ?_⟩;simp only[iter,ah N dU n aU];split
   ·rename_i ch H' he;cases he;exact absurd h (dM _ _)
   ·rfl
theorem aaD{M:Nat}: ∀(c:Code) {R:ci} {H:J} {x:bp×ci×J},fe (kk P (aq P ao)) M c R H=some x-> ∃k,∀N,k<=N-> ∀n,k<=n->fe (kk P (ev P ao N n)) N c R H=some x:=by
 intro c
 induction c with
 |skip=>intro R H x h;exact⟨0,λ_ _ _ _=>h⟩
 |region id ops d=>
  intro R H x h;simp only[fe] at h;split at h
  ·rename_i iA H1 U;obtain⟨k,ah⟩:=aaX U;refine⟨k,λN dU n aU=> ?_⟩;simp only[fe,ah N dU n aU];exact h
  ·cases h
 |seq a b jg j9=>
  intro R H x h;simp only[fe] at h;split at h
  ·rename_i iA H1 U;obtain⟨k,ah⟩:=jg U;obtain⟨j,bH⟩:=j9 h;refine⟨max k j,λN dU n aU=> ?_⟩;simp only[fe,ah N Z n Z,bH N Z n Z]
  ·rename_i dM;obtain⟨k,ah⟩:=jg h;refine⟨k,λN dU n aU=> ?_⟩;simp only[fe,ah N dU n aU];split
   ·rename_i ch H' he;cases he;exact absurd h (dM _ _)
   ·rfl
 |cond c a b jg j9=>
  intro R H x h;simp only[fe] at h;split at h
  ·rename_i aS;obtain⟨k,ah⟩:=jg h;refine⟨k,λN dU n aU=> ?_⟩;simp only[fe,aS,ah N dU n aU]
  ·rename_i aS;obtain⟨k,ah⟩:=j9 h;refine⟨k,λN dU n aU=> ?_⟩;simp only[fe,aS,ah N dU n aU]
  ·cases h
 |block id b aT=>
  intro R H x h;simp only[fe] at h;split at h
  ·rename_i th iA H1 U;obtain⟨k,ah⟩:=aT U;refine⟨k,λN dU n aU=> ?_⟩;simp only[fe,ah N dU n aU];exact h
  ·rename_i dM;obtain⟨k,ah⟩:=aT h;refine⟨k,λN dU n aU=> ?_⟩;simp only[fe,ah N dU n aU];split
   ·rename_i th ch H' he;cases he;exact absurd h (dM _ _ _)
   ·rfl
 |loop b aT=>
  intro R H x h;simp only[fe] at h;obtain⟨k,ah⟩:=QC (g:=λN n=>fe (kk P (ev P ao N n)) N b) (λR H x ag=>aT ag) h;refine⟨max k M,λN dU n aU=> ?_⟩;simp only[fe];exact QD (ah N Z n Z) Z
 |exit id=>intro R H x h;exact⟨0,λ_ _ _ _=>h⟩
 |ret=>intro R H x h;exact⟨0,λ_ _ _ _=>h⟩
 |label l=>intro R H x h;exact⟨0,λ_ _ _ _=>h⟩
 |goto l=>intro R H x h;cases h
 |scope b aT=>intro R H x h;cases h
 |rangeFunc f ew a b jg j9=>intro R H x h;cases h
 |refuse y=>intro R H x h;cases h
theorem Qt{f:Nat}{args:List I}{H H':J}{fn:Func}{c:Code}{M:Nat}{ex:bp}{R:ci}{cl:List I}(tr:ao f args H=none)(al:P.funcs[f]? =some fn)(ax:fn.body=some c)
  (h:fe (kk P (aq P ao)) M c (ci.enter fn.ntmps args) H=some (ex,R,H')) (hex: ∀id,ex≠ .exit id) (a8:nA P R H' fn.results.toList=some cl):aq P ao f args H=some (xN cl,H'):=by
 obtain⟨k,ah⟩:=aaD c h;refine Tg ⟨k+1,λN dU n aU=> ?_⟩;cases n with
 |zero=>omega
 |succ n=>
  simp only[ev,tr,al,ax,ah N Z n Z];cases ex with
  |exit id=>exact absurd rfl (hex id)
  |normal=>simp only[a8]
  |ret=>simp only[a8]
theorem GJ{f:Nat}{args:List I}{H:J}{r:I×J}(h:ao f args H=some r):aq P ao f args H=some r:=by
 refine Tg ⟨1,λN dU n aU=> ?_⟩;cases n with
 |zero=>omega
 |succ n=>simp only[ev,h]
end
end
section
abbrev O:=Option (I×J)
abbrev fb:=Nat->I
def iL(R:fb)(dst:Option Nat)(v:I):fb:=match dst with
 |none=>R
 |some d=>λe=>bif Nat.beq e d then v else R e
def gU(R:fb):Operand->Option I
 | .tmp t=>some (R t)
 | .const v=>Ei v
 | .global _=>none
 | .func f=>some (.func (.func f) [] [])
def xx(R:fb):List Operand->Option (List I)
 |[]=>some []
 |x::xs=>(gU R x).bind λv=>(xx R xs).bind λcl=>some (v::cl)
def D4(R:fb):List (Nat×Operand)->Option (List (Nat×I))
 |[]=>some []
 |(i,x)::xs=>(gU R x).bind λv=>(D4 R xs).bind λcl=>some ((i,v)::cl)
def Ec(R:fb):Option Operand->Option (Option I)
 |none=>some none
 |some x=>(gU R x).bind λv=>some (some v)
def cX(c:I)(a b:Option I):Option I:=match c with
 | .bool t=>bif t then a else b
 |_=>none
def Hx(P:Program)(t:TypeId)(c:Bool)(a b:I):Bool:=
 match a,b with
 | .nilIface,.nilIface=>c
 | .agg _,.agg _=> !P.eqGuardType P.depth t
 |_,_=>true
def aW(P:Program)(op:BinOp)(t:TypeId)(c:Bool)(x y:I):Option I:=
 match x,y with
 | .int k a,.int fF b=>
  (match op with
  | .shl=>BA .shl k a b
  | .shr=>BA .shr k a b
  |op=>if k=fF then pH op k a b else none)
 | .str a,.str b=>G7 op a b
 |x,y=>
  (match op with
  | .eql=>if Hx P t c x y then(uh P 10000 t x y).map .bool else none
  | .neq=>if Hx P t c x y then(uh P 10000 t x y).map λb=> .bool (!b) else none
  |_=>none)
theorem afT(P:Program)(t:TypeId)(x y:Operand)(u v:I):Hx P t (isConst x||isConst y) u v=zf P t x y u v:=by
 unfold Hx zf;cases u<;>cases v<;>rfl
theorem afU(P:Program)(op:BinOp)(t:TypeId)(x y:Operand)(u v:I):aW P op t (isConst x||isConst y) u v=Em P op t x y u v:=by
 unfold aW Em;simp only[afT];cases u<;>cases v<;>cases op<;>rfl
def He(P:Program)(o:Op)(R:fb):Option I:=
 match o with
 | .move x=>gU R x
 | .assign x=>gU R x
 | .pick c a b=>(gU R c).bind λu=>cX u (gU R a) (gU R b)
 | .build t ew=>(D4 R ew.toList).bind (cO P t)
 | .nilCheck x=>(gU R x).bind b5
 | .binOp op t x y _=>(gU R x).bind λu=>(gU R y).bind λv=>aW P op t (isConst x||isConst y) u v
 | .unOp op _ x=>(gU R x).bind (eY op)
 | .convert s d x=>(gU R x).bind (B_ P s d)
 | .makeInterface t x=>(gU R x).bind (La P t)
 | .makeFunc fn f c=>(xx R f.toList).bind λeD=>(xx R c.toList).bind λcs=>some (.func fn eD cs)
 | .slice t x lo be re=>(gU R x).bind λv=>(Ec R lo).bind λl=>(Ec R be).bind λh=>(Ec R re).bind λm=>kj P t v l h m
 | .fieldAddr t x f=>(gU R x).bind λv=>aE P t v f
 | .field t x f=>(gU R x).bind λv=>d8 P t v f
 | .indexAddr t x i=>(gU R x).bind λu=>(gU R i).bind λv=>dS P t u v
 | .index t x i=>(gU R x).bind λu=>(gU R i).bind λv=>h1 P t u v
 | .extract x i=>(gU R x).bind λv=>gT v i
 | .call c=>match c.callee with
  | .builtin b=>(xx R c.args.toList).bind (dF P .empty b c.argTypes.toList)
  |_=>none
 |_=>none
def Ce(P:Program)(o:Op)(R:fb)(H:J):Option I:=
 match o with
 | .load t x=>(gU R x).bind (aj P H t)
 | .lookup t x k ok=>(gU R x).bind λu=>(gU R k).bind λv=>nX P H t u v ok
 | .convert s d x=>(gU R x).bind (Du P H s d)
 | .call c=>match c.callee with
  | .builtin b=>(xx R c.args.toList).bind (dF P H b c.argTypes.toList)
  |_=>none
 |_=>none
def eK(l:Nat)(v:I):Option (I×dY):=bif v.cells.all I.one then some (.ptr l 0 0,.row false v.cells.length [v.cells]) else none
def dK(P:Program)(l:Nat)(t:TypeId)(len:Nat)(parts:List (Nat×I)):Option (I×dY):=
 match P.underlying t with
 |some (.slice e)=>
  (match fs P e,j2 P e with
  |some fY,some z=>
   bif decide (len*fY<=16777216/\z.cells.length=fY/\z.cells.all I.one=true) then
    (qx fY (List.replicate len z.cells) parts).bind λels=>some (.aN l 0 len fY (some len),.row false fY els)
   else none
  |_,_=>none)
 |_=>none
def L7(P:Program)(o:Op)(R:fb)(l:Nat):Option (I×dY):=
 match o with
 | .alloc t=>(j2 P t).bind (eK l)
 | .box _ x=>(gU R x).bind (eK l)
 | .buildSlice t n ew=>(D4 R ew.toList).bind (dK P l t n)
 | .makeMap _ none=>some (.map l,.map [])
 | .makeSlice t x c=>(gU R x).bind λu=>(gU R c).bind λv=>zN (Gd P ⟨.leaf,l⟩ t u v) l
 |_=>none
def Le(P:Program)(o:Op)(R:fb)(H:J):Option (I×J):=
 match o with
 | .store t x y=>(gU R x).bind λu=>(gU R y).bind λv=>(aQ P H t u v).bind λH'=>some (.tuple [],H')
 | .mapUpdate t m k x=>(gU R m).bind λu=>(gU R k).bind λv=>(gU R x).bind λz=>(jk P H t u v z).bind λH'=>some (.tuple [],H')
 | .insert t m k x=>(gU R m).bind λu=>(gU R k).bind λv=>(gU R x).bind λz=>(jk P H t u v z).bind λH'=>some (.tuple [],H')
 | .call c=>match c.callee,c.args.toList with
  | .builtin .append,[s,x]=>(gU R s).bind λu=>(gU R x).bind λv=>fQ P H c.argTypes.toList u v
  |_,_=>none
 |_=>none
def By(f:I)(cl:List I):Option (Nat×List I):=match f with
 | .func (.func g) first captured=>some (g,first++cl++captured)
 |_=>none
def KO(R:fb)(c:Call):Option (Nat×List I):=
 match c.callee with
 | .value f=>(gU R f).bind λu=>(xx R c.args.toList).bind λcl=>By u cl
 |_=>none
def iu(a b:Option I)(k:K->O):O:=match a with
 |some v=>k (.pure v)
 |none=>b.bind λv=>k (.read v)
def H5(r:Option (I×dY))(k:K->O):O:=match r with
 |some (v,b)=>k (.new v b)
 |none=>none
def fk(H:J)(r:O)(k:K->O):O:=match r with
 |some (v,H')=>bif decide (H.next<=H'.next) then k (.hx v H') else none
 |none=>none
def I7(P:Program)(call:av)(o:Op)(R:fb)(H:J)(k:K->O):O:=
 match cls o with
 | .pure=>(He P o R).bind λv=>k (.pure v)
 | .read=>(Ce P o R H).bind λv=>k (.read v)
 | .both=>iu (He P o R) (Ce P o R H) k
 | .new=>H5 (L7 P o R H.next) k
 | .write=>fk H (Le P o R H) k
 | .call=>match o with
  | .call c=>(KO R c).bind λp=>fk H (call p.1 p.2 H) k
  |_=>none
def dZ(b:I)(want:Bool)(m:(K->O)->O)(k:K->O):O:=match b with
 | .bool t=>bif t==want then m k else k .skip
 |_=>k .skip
def H8(P:Program)(call:av)(ops:Array Oper)(o:Oper)(R:fb)(H:J)(k:K->O):O:=
 match o.guard with
 |none=>I7 P call o.op R H k
 |some (j,want)=>match ops[j]? with
  |some q=>(match q.dst with
   |some d=>dZ (R d) want (I7 P call o.op R H) k
   |none=>k .skip)
  |none=>k .skip
def HV(P:Program)(call:av)(ops:Array Oper):List Oper->fb->J->(fb->J->O)->O
 |[],R,H,k=>k R H
 |o::os,R,H,k=>H8 P call ops o R H λx=>HV P call ops os (iL R o.dst x.val) (x.heap H) k
structure ks where
 i:Nat
 k:K
 rd:J->Option I
def xO(ms:List Nat):List ks->List Nat->Bool
 |[],_=>true
 |t::ts,ids=>match t.k with
  | .hx _ _=>ids.all (λj=>gr ms j t.i)&&xO ms ts (t.i::ids)
  | .new _ _=>xO ms ts (t.i::ids)
  |_=>xO ms ts ids
def cj(r:Option I)(v:I):Bool:=match r with
 |some u=>I.beq u v
 |none=>false
def x8(ms:List Nat)(rd:J->Bool)(i:Nat):List ks->J->Bool
 |[],H=>rd H
 |t::ts,H=>bif t.k.jm then(gr ms t.i i||rd H)&&(gr ms i t.i||x8 ms rd i ts (t.k.heap H)) else x8 ms rd i ts H
def zG(ms:List Nat)(i:Nat):List ks->Bool->Bool
 |[],_=>false
 |t::ts,s=>match t.k with
  | .new _ _=>(s&&gr ms t.i i&&ts.all λu=>xz u.k)||zG ms i ts (s|| !gr ms t.i i)
  | .hx _ _=>zG ms i ts (s|| !gr ms t.i i)
  |_=>zG ms i ts s
def z7(ms:List Nat)(rd:J->Bool)(i:Nat):List ks->J->Bool->Bool
 |[],_,_=>false
 |t::ts,H,s=>match t.k with
  | .new _ b=>bif s&&gr ms t.i i&&ts.all (λu=>xz u.k) then rd (H.push b).only||z7 ms rd i ts (H.push b) (s|| !gr ms t.i i) else z7 ms rd i ts (H.push b) (s|| !gr ms t.i i)
  | .hx _ H'=>z7 ms rd i ts H' (s|| !gr ms t.i i)
  |_=>z7 ms rd i ts H s
def EK(ms:List Nat)(rd:J->Bool)(i:Nat)(T:List ks)(H:J):Bool:=
 bif zG ms i T false then x8 ms rd i T H||z7 ms rd i T H false else x8 ms rd i T H
def xH(ms:List Nat)(hR:List Nat)(T:List ks)(H:J):List ks->Bool
 |[]=>true
 |t::ts=>(match t.k with
  | .read v=>hR.contains t.i||EK ms (λH=>cj (t.rd H) v) t.i T H
  |_=>true)&&xH ms hR T H ts
def oW(ms:List Nat)(hR:List Nat)(T:List ks)(H:J):Bool:=xO ms T []&&xH ms hR T H T
def En(P:Program)(call:av)(ops:Array Oper):List Nat->fb->J->(List ks->fb->J->O)->O
 |[],R,H,k=>k [] R H
 |i::is,R,H,k=>match ops[i]? with
  |none=>none
  |some o=>H8 P call ops o R H λx=>En P call ops is (iL R o.dst x.val) (x.heap H) λT ch H'=>k (⟨i,x,Ce P o.op R⟩::T) ch H'
def LX(ops:Array Oper):List Nat:=(order ops).filter (tied ops (hh ops) (order ops))
def quiet(ops:Array Oper):Bool:=ops.toList.all λo=> !zg o.op
def Ms(P:Program)(call:av)(ops:Array Oper)(draw:Bool)(R:fb)(H:J)(k:fb->J->O):O:=
 match draw with
 |false=>HV P call ops ops.toList R H k
 |true=>bif quiet ops then En P call ops (order ops) R H λ_ ch H'=>k ch H' else
  En P call ops (order ops) R H λT ch H'=>bif oW (hh ops) (LX ops) T H then k ch H' else none
def bO(c:Option I)(a b:O):O:=match c with
 |some (.bool t)=>bif t then a else b
 |_=>none
abbrev il:=fb->J->O
def look(i:Nat):List (Nat×il)->il
 |[],_,_=>none
 |(j,k)::bQ,R,H=>bif Nat.beq i j then k R H else look i bQ R H
def zK(b:il->il):Nat->il
 |0,_,_=>none
 |n+1,R,H=>b (λR H=>zK b n R H) R H
def cw(P:Program)(call:av)(N:Nat):Code->il->List (Nat×il)->il->il
 | .skip,dA,_,_,R,H=>dA R H
 | .region _ ops d,dA,_,_,R,H=>Ms P call ops d R H dA
 | .seq a b,dA,bQ,gN,R,H=>cw P call N a (λR H=>cw P call N b dA bQ gN R H) bQ gN R H
 | .cond c a b,dA,bQ,gN,R,H=>bO (gU R c) (cw P call N a dA bQ gN R H) (cw P call N b dA bQ gN R H)
 | .block id b,dA,bQ,gN,R,H=>cw P call N b dA ((id,dA)::bQ) gN R H
 | .loop b,_,bQ,gN,R,H=>zK (λdA R H=>cw P call N b dA bQ gN R H) N R H
 | .exit id,_,bQ,_,R,H=>look id bQ R H
 | .ret,_,_,gN,R,H=>gN R H
 | .label _,dA,_,_,R,H=>dA R H
 |_,_,_,_,_,_=>none
def Cy(P:Program)(H:J)(R:fb):List ResultVar->(List I->O)->O
 |[],k=>k []
 | .tmp t::rs,k=>Cy P H R rs λcl=>k (R t::cl)
 | .cell a t::rs,k=>(aj P H t (R a)).bind λv=>Cy P H R rs λcl=>k (v::cl)
def vR(P:Program)(rs:List ResultVar):il:=λR H=>Cy P H R rs λcl=>some (xN cl,H)
def cB:List I->fb
 |[],_=> .tuple []
 |v::_,0=>v
 |_::cl,n+1=>cB cl n
section
variable {P:Program}{ao:av}{call:av}{R ch:ci}{H:J}
theorem u4(x:Operand):gU R.get x=ey R x:=by cases x<;>rfl
theorem GA: ∀xs:List Operand,xx R.get xs=om R xs
 |[]=>rfl
 |x::xs=>by
  simp only[xx,om,u4,GA xs];cases ey R x<;>cases om R xs<;>rfl
theorem Kf: ∀xs:List (Nat×Operand),D4 R.get xs=qE R xs
 |[]=>rfl
 |(i,x)::xs=>by
  simp only[D4,qE,u4,Kf xs];cases ey R x<;>cases qE R xs<;>rfl
theorem ae5(x:Option Operand):Ec R.get x=sN R x:=by
 cases x with
 |none=>rfl
 |some x=>simp only[Ec,sN,u4];cases ey R x<;>rfl
theorem RJ(o:Op):He P o R.get=qL P o R:=by
 cases o<;>simp only[He,qL,u4,GA,Kf,ae5,afU]
 ·rename_i c a b;cases aS:ey R c with
  |none=>rfl
  |some v=>cases v<;>first|rfl|(rename_i t;cases t<;>rfl)
 ·rename_i c;cases c.callee<;>rfl
theorem Kw(o:Op):Ce P o R.get H=mO P o R H:=by
 cases o<;>simp only[Ce,mO,u4,GA]
 ·rename_i c;cases c.callee<;>rfl
theorem J5(v:I)(l:Nat)(b:dY)(ax:b.uu=true):zN (some (v,J.push ⟨.leaf,l⟩ b)) l=some (v,b):=by
 unfold zN;simp only[J.b2,if_true];have:(J.push ⟨.leaf,l⟩ b).get l=some b:=J.ca ⟨.leaf,l⟩ b;rw[this];simp[ax]
theorem Rw(l:Nat)(v:I):eK l v=zN (Cq ⟨.leaf,l⟩ v) l:=by
 unfold eK Cq;by_cases h:v.cells.all I.one=true
 ·rw[h,if_pos rfl];exact(J5 _ _ _ rfl).symm
 ·rw[if_neg h];simp only[Bool.not_eq_true] at h;rw[h];rfl
theorem acF(l:Nat)(t:TypeId)(n:Nat)(ew:List (Nat×I)):dK P l t n ew=zN (Dt P ⟨.leaf,l⟩ t n ew) l:=by
 unfold dK Dt;cases hu:P.underlying t with
 |none=>rfl
 |some d=>
  cases d<;>try rfl
  rename_i e;simp only
  cases aM:fs P e with
  |none=>rfl
  |some fY=>
  cases cn:j2 P e with
  |none=>rfl
  |some z=>
   simp only
   by_cases h:n*fY<=16777216/\z.cells.length=fY/\z.cells.all I.one=true
   ·rw[if_pos h,decide_eq_true h];simp only[bC];cases qx fY (List.replicate n z.cells) ew with
    |none=>rfl
    |some els=>exact(J5 _ _ _ rfl).symm
   ·rw[if_neg h,decide_eq_false h];rfl
theorem afV(o:Op)(l:Nat):L7 P o R.get l=rW P o R l:=by
 unfold rW;cases o<;>simp only[L7,zF,u4,Kf]<;>try rfl
 ·rename_i t;unfold GS;cases j2 P t with
  |none=>rfl
  |some v=>exact Rw l v
 ·rename_i t x;cases ey R x with
  |none=>rfl
  |some v=>exact Rw l v
 ·rename_i t n ew;cases qE R ew.toList with
  |none=>rfl
  |some v=>exact acF l t n v
 ·rename_i t r;cases r with
  |none=>exact(J5 _ _ _ rfl).symm
  |some r=>rfl
 ·rename_i t x c;cases ey R x with
  |none=>rfl
  |some u=>cases ey R c<;>rfl
theorem map_bind{α β:Type}(x:Option α)(f:α->β):x.bind (λa=>some (f a))=x.map f:=by cases x<;>rfl
theorem ac2(o:Op):Le P o R.get H=tM P o R H:=by
 cases o<;>simp only[Le,tM,u4,map_bind]
 ·rename_i c;cases aS:c.callee with
  |builtin b=>
   cases bV:c.args.toList with
   |nil=>cases b<;>rfl
   |cons s r=>
    cases r with
    |nil=>cases b<;>rfl
    |cons x r=>cases r<;>cases b<;>rfl
  |value f=>rfl
  |invoke r m=>rfl
theorem abl(c:Call):KO R.get c=u3 R c:=by
 unfold KO u3;cases aS:c.callee with
 |value f=>
  simp only[u4,GA];cases ey R f with
  |none=>rfl
  |some v=>
   cases bA:om R c.args.toList with
   |none=>
    simp only[Option.bind_some,Option.bind_none];split<;>first|rfl|(simp_all;done)
   |some cl=>
    simp only[Option.bind_some];unfold By;split
    ·rename_i g first captured;rfl
    ·rename_i dM;split
     ·rename_i g first captured he
      simp only[bF] at he;exact absurd he (dM _ _ _)
     ·rfl
 |invoke r m=>rfl
 |builtin b=>rfl
theorem VP(o:Op)(k:K->O):I7 P call o R.get H k=(step1 P call o R H).bind k:=by
 unfold I7 step1;cases CU:cls o with
 |pure=>simp only[RJ];cases qL P o R<;>rfl
 |read=>simp only[Kw];cases mO P o R H<;>rfl
 |both=>
  simp only[RJ,Kw];unfold iu;cases qL P o R with
  |some v=>rfl
  |none=>cases mO P o R H<;>rfl
 |new=>
  simp only[afV];unfold H5;cases rW P o R H.next<;>rfl
 |write=>
  simp only[ac2];unfold fk;cases h:tM P o R H with
  |none=>rfl
  |some r=>
   obtain⟨v,H'⟩:=r;simp only[Cw];by_cases aU:H.next<=H'.next
   ·rw[if_pos aU,decide_eq_true aU];rfl
   ·rw[if_neg aU,decide_eq_false aU];rfl
 |call=>
  cases o<;>try rfl
  rename_i c;simp only[abl];cases u3 R c with
  |none=>rfl
  |some p=>
   obtain⟨g,cl⟩:=p;simp only[Option.bind_some];unfold fk;cases h:call g cl H with
   |none=>rfl
   |some r=>
    obtain⟨v,H'⟩:=r;simp only[Cw];by_cases aU:H.next<=H'.next
    ·rw[if_pos aU,decide_eq_true aU];rfl
    ·rw[if_neg aU,decide_eq_false aU];rfl
theorem Um(ops:Array Oper)(o:Oper)(k:K->O):H8 P call ops o R.get H k=(nz P call ops o R H).bind k:=by
 unfold H8 nz tD;cases aZ:o.guard with
 |none=>exact VP o.op k
 |some p=>
  obtain⟨j,want⟩:=p;simp only
  cases bi:ops[j]? with
  |none=>rfl
  |some q=>
   simp only
   cases bd:q.dst with
   |none=>rfl
   |some d=>
    simp only
    cases bA:R.get d<;>try rfl
    rename_i t;simp only[dZ];cases b0:(t==want) with
    |true=>simp only[bC];exact VP o.op k
    |false=>rfl
theorem Vy{dst:Option Nat}{v:I}(h:R.put dst v=some ch):iL R.get dst v=ch.get:=by
 funext e
 rw[ci.DQ h];cases dst with
 |none=>simp[iL]
 |some d=>
  simp only[iL];by_cases he:e=d
  ·subst he;simp[Nat.beq_refl]
  ·have U:Nat.beq e d=false:=by rw[<-Bool.not_eq_true,Nat.beq_eq];exact he
   rw[U];simp[Ne.symm he]
def zH(n:Nat)(o:Oper):Bool:=match o.dst with
 |none=>true
 |some d=>decide (d<n)
theorem Vm{o:Oper}(h:zH R.size o=true)(v:I): ∃ch,R.put o.dst v=some ch/\ch.size=R.size:=by
 unfold zH at h;cases bd:o.dst with
 |none=>exact⟨R,rfl,rfl⟩
 |some d=>
  rw[bd] at h;exact⟨{R with t:=da.put v (d+1) R.t d},by simp only[ci.put];rw[if_pos (of_decide_eq_true h)],rfl⟩
theorem Ty(ops:Array Oper)(k:fb->J->O): ∀(os:List Oper) (R:ci) (H:J),os.all (zH R.size)=true->
  HV P call ops os R.get H k=(nv P call ops os R H).bind λp=>k p.1.get p.2
 |[],R,H,_=>rfl
 |o::os,R,H,h=>by
  simp only[List.all_cons,Bool.and_eq_true] at h;simp only[HV,nv,Um];cases ah:nz P call ops o R H with
  |none=>rfl
  |some x=>
   obtain⟨ch,U,aa⟩:=Vm h.1 x.val;simp only[Option.bind_some,U,Vy U];exact Ty ops k os ch _ (by rw[aa];exact h.2)
def dO.c(P:Program)(t:dO):ks:=⟨t.i,t.k,Ce P t.o.op t.R.get⟩
theorem Sp(ms:List Nat): ∀(T:List dO) (ids:List Nat),xO ms (T.map (dO.c P)) ids=qM ms T ids
 |[],_=>rfl
 |t::T,ids=>by
  simp only[List.map_cons,xO,qM,dO.c];cases t.k<;>simp only[Sp ms T]
theorem K4(ms:List Nat)(rd:J->Bool)(i:Nat): ∀(T:List dO) (H:J),x8 ms rd i (T.map (dO.c P)) H=rT ms rd i T H
 |[],_=>rfl
 |t::T,H=>by
  simp only[List.map_cons,x8,rT,dO.c];cases t.k.jm
  ·simp only[bj];exact K4 ms rd i T H
  ·simp only[bC,if_true];rw[K4 ms rd i T]
theorem Rx(ms:List Nat)(i:Nat): ∀(T:List dO) (s:Bool),zG ms i (T.map (dO.c P)) s=zd ms i T s
 |[],_=>rfl
 |t::T,s=>by
  simp only[List.map_cons,zG,zd,dO.c];cases t.k<;>simp only[Rx ms i T,List.all_map]<;>rfl
theorem Ti(ms:List Nat)(rd:J->Bool)(i:Nat): ∀(T:List dO) (H:J) (s:Bool),z7 ms rd i (T.map (dO.c P)) H s=sR ms rd i T H s
 |[],_,_=>rfl
 |t::T,H,s=>by
  simp only[List.map_cons,z7,sR,dO.c];cases t.k<;>simp only[Ti ms rd i T,List.all_map]<;>rfl
theorem ahd(ms:List Nat)(rd:J->Bool)(i:Nat)(T:List dO)(H:J):EK ms rd i (T.map (dO.c P)) H=Cm ms rd i T H:=by
 simp only[EK,Cm,Rx,Ti,K4]
theorem Sh(ms:List Nat)(Oa:List Nat)(hR:Nat->Bool)(T:List dO)(H:J): ∀(S:List dO),(∀t∈S,Oa.contains t.i=hR t.i)->xH ms Oa (T.map (dO.c P)) H (S.map (dO.c P))=uf P ms hR T H S
 |[],_=>rfl
 |t::S,h=>by
  simp only[List.map_cons,xH,uf,Sh ms Oa hR T H S λt bz=>h t (by simp[bz])]
  congr 1
  simp only[dO.c,h t (by simp)];cases t.k<;>try rfl
  simp only[ahd]
  congr 2
  funext H
  simp only[cj,zh,Kw];cases mO P t.o.op t.R H<;>rfl
theorem QS(ms:List Nat): ∀(T:List dO) (ids:List Nat),(∀t∈T,t.k.jm=false)->qM ms T ids=true
 |[],_,_=>rfl
 |t::T,ids,h=>by
  have bz:=h t (by simp);simp only[qM];have aT:=QS ms T ids λu hu=>h u (by simp[hu])
  cases ah:t.k<;>rw[ah] at bz<;>first|exact aT|(cases bz;done)
theorem QT(ms:List Nat)(hR:Nat->Bool)(T:List dO)(H:J): ∀(S:List dO),(∀t∈S,hR t.i=true)->uf P ms hR T H S=true
 |[],_=>rfl
 |t::S,h=>by
  simp only[uf,h t (by simp),QT ms hR T H S λt bz=>h t (by simp[bz]),Bool.true_or,Bool.and_true];cases t.k<;>rfl
theorem KN(ops:Array Oper): ∀(is:List Nat) (R:ci) (H:J) (k:List ks->fb->J->O),ops.toList.all (zH R.size)=true->
  En P call ops is R.get H k=(canRun P call ops is R H).bind λp=>k (p.1.map (dO.c P)) p.2.1.get p.2.2
 |[],R,H,k,_=>rfl
 |i::is,R,H,k,h=>by
  simp only[En,canRun];cases bt:ops[i]? with
  |none=>rfl
  |some o=>
   simp only[Um];cases ah:nz P call ops o R H with
   |none=>rfl
   |some x=>
    have hm:zH R.size o=true:=by
     rw[List.all_eq_true] at h;exact h o (by have:=Array.mem_of_getElem? bt;simpa using this)
    obtain⟨ch,U,aa⟩:=Vm hm x.val;simp only[Option.bind_some,U,Vy U];rw[KN ops is ch _ _ (by rw[aa];exact h)];cases canRun P call ops is ch (x.heap H) with
    |none=>rfl
    |some p=>obtain⟨T,iA,H1⟩:=p;rfl
theorem af6(ops:Array Oper)(d:Bool)(k:fb->J->O)(h:ops.toList.all (zH R.size)=true):Ms P call ops d R.get H k=(kk P call ops d R H).bind λp=>k p.1.get p.2:=by
 unfold Ms kk;cases d with
 |false=>exact Ty ops k _ R H h
 |true=>
  simp only
  rw[KN ops _ R H _ h,KN ops _ R H _ h];cases aS:canRun P call ops (order ops) R H with
  |none=>cases quiet ops<;>rfl
  |some p=>
   obtain⟨T,iA,H1⟩:=p;have be:=(tx aS).1;have HE: ∀t∈T,t.i∈order ops:=λt bz=>by rw[<-be];exact List.mem_map.2 ⟨t,bz,rfl⟩
   have aoB: ∀t∈T,(LX ops).contains t.i=tied ops (hh ops) (order ops) t.i:=λt bz=>by
    unfold LX;rw[Bool.eq_iff_iff,List.contains_iff_mem,List.mem_filter];exact⟨λh=>h.2,λh=>⟨HE t bz,h⟩⟩
   simp only[Option.bind_some];cases bi:quiet ops with
   |true=>
    have jf: ∀o∈ops.toList,zg o.op=false:=λo bt=>by
     unfold quiet at bi;rw[List.all_eq_true] at bi;simpa using bi o bt
    have aH: ∀t∈T,t.k.jm=false:=λt bz=>by
     obtain⟨A,B,anV⟩:=List.append_of_mem bz;have CS:=Kd (P:=P) (call:=call) (by rw[<-anV];exact aS);cases b0:t.k.jm with
     |false=>rfl
     |true=>
      have:=PV CS.2.2.1 b0;rw[jf t.o (by have:=Array.mem_of_getElem? CS.1;simpa using this)] at this;cases this
    have M4: ∀t∈T,tied ops (hh ops) (order ops) t.i=true:=λt _=>by
     unfold tied;rw[List.all_eq_true];intro j _;cases bH:ops[j]? with
     |none=>simp
     |some o=>simp[jf o (by have:=Array.mem_of_getElem? bH;simpa using this)]
    simp only[bC,QS (hh ops) T [] aH,QT (hh ops) _ T H T M4];rfl
   |false=>
    simp only[bj,oW,Sp,Sh _ _ _ T H T aoB];cases qM (hh ops) T [] with
    |false=>rfl
    |true=>
     cases uf P (hh ops) (tied ops (hh ops) (order ops)) T H T<;>rfl
def rC(n:Nat):Code->Bool
 | .region _ ops _=>ops.toList.all (zH n)
 | .seq a b=>rC n a&&rC n b
 | .cond _ a b=>rC n a&&rC n b
 | .block _ b=>rC n b
 | .loop b=>rC n b
 |_=>true
def Cs(r:Option (bp×ci×J))(dA:il)(bQ:List (Nat×il))(gN:il):O:=match r with
 |some (.normal,R,H)=>dA R.get H
 |some (.exit id,R,H)=>look id bQ R.get H
 |some (.ret,R,H)=>gN R.get H
 |none=>none
theorem Pu{ops:Array Oper}: ∀{os:List Oper} {R ch:ci} {H H':J},nv P call ops os R H=some (ch,H')->ch.size=R.size
 |[],R,ch,H,H',h=>by
  simp only[nv,bF,dw] at h;rw[h.1]
 |o::os,R,ch,H,H',h=>by
  simp only[nv] at h;split at h
  ·cases h
  ·split at h
   ·cases h
   ·rename_i iA U;rw[Pu h,ci.BF U]
theorem Ps{ops:Array Oper}: ∀{is:List Nat} {R ch:ci} {H H':J} {T:List dO},canRun P call ops is R H=some (T,ch,H')->ch.size=R.size
 |[],R,ch,H,H',T,h=>by
  simp only[canRun,bF,dw] at h;rw[h.2.1]
 |i::is,R,ch,H,H',T,h=>by
  simp only[canRun] at h;split at h
  ·cases h
  ·split at h
   ·cases h
   ·split at h
    ·cases h
    ·rename_i iA U;split at h
     ·cases h
     ·rename_i aa;simp only[bF,dw] at h;obtain⟨_,rfl,_⟩:=h;rw[Ps aa,ci.BF U]
theorem aa6{ops:Array Oper}{d:Bool}{R ch:ci}{H H':J}(h:kk P call ops d R H=some (ch,H')):ch.size=R.size:=by
 unfold kk at h;split at h
 ·exact Pu h
 ·split at h
  ·cases h
  ·rename_i U;split at h
   ·cases h
   ·split at h
    ·cases h
    ·simp only[bF,dw] at h;obtain⟨rfl,_⟩:=h;exact Ps U
theorem Q1{f:ci->J->Option (bp×ci×J)}(al: ∀R H ex ch H',f R H=some (ex,ch,H')->ch.size=R.size):
  ∀{n:Nat} {R:ci} {H:J} {ex:bp} {ch:ci} {H':J},iter f n R H=some (ex,ch,H')->ch.size=R.size
 |0,_,_,_,_,_,h=>by cases h
 |n+1,R,H,ex,ch,H',h=>by
  simp only[iter] at h;split at h
  ·rename_i iA H1 U;rw[Q1 al h,al _ _ _ _ _ U]
  ·exact al _ _ _ _ _ h
theorem Pt{N:Nat}: ∀(c:Code) {R:ci} {H:J} {ex:bp} {ch:ci} {H':J},fe (kk P call) N c R H=some (ex,ch,H')->ch.size=R.size:=by
 intro c
 induction c with
 |skip=>intro R H ex ch H' h;simp only[fe,bF,dw] at h;rw[h.2.1]
 |region id ops d=>
  intro R H ex ch H' h;simp only[fe] at h;split at h
  ·rename_i iA H1 U;simp only[bF,dw] at h;obtain⟨_,rfl,_⟩:=h;exact aa6 U
  ·cases h
 |seq a b jg j9=>
  intro R H ex ch H' h;simp only[fe] at h;split at h
  ·rename_i iA H1 U;rw[j9 h,jg U]
  ·exact jg h
 |cond c a b jg j9=>
  intro R H ex ch H' h;simp only[fe] at h;split at h
  ·exact jg h
  ·exact j9 h
  ·cases h
 |block id b aT=>
  intro R H ex ch H' h;simp only[fe] at h;split at h
  ·rename_i th iA H1 U;split at h<;>(simp only[bF,dw] at h;obtain⟨_,rfl,_⟩:=h;exact aT U)
  ·exact aT h
 |loop b aT=>
  intro R H ex ch H' h;simp only[fe] at h;exact Q1 (λ_ _ _ _ _ h=>aT h) h
 |exit id=>intro R H ex ch H' h;simp only[fe,bF,dw] at h;rw[h.2.1]
 |ret=>intro R H ex ch H' h;simp only[fe,bF,dw] at h;rw[h.2.1]
 |label l=>intro R H ex ch H' h;simp only[fe,bF,dw] at h;rw[h.2.1]
 |goto l=>intro R H ex ch H' h;cases h
 |scope b aT=>intro R H ex ch H' h;cases h
 |rangeFunc f ew a b jg j9=>intro R H ex ch H' h;cases h
 |refuse y=>intro R H ex ch H' h;cases h
theorem RL{f:ci->J->Option (bp×ci×J)}{b:il->il}{bQ:List (Nat×il)}{gN:il}(m:Nat)(aM: ∀R H ex ch H',f R H=some (ex,ch,H')->ch.size=R.size)
  (ax: ∀(R:ci) (H:J) (dA:il),R.size=m->b dA R.get H=Cs (f R H) dA bQ gN) (dA:il): ∀(n:Nat) (R:ci) (H:J),R.size=m->zK b n R.get H=Cs (iter f n R H) dA bQ gN
 |0,R,H,_=>rfl
 |n+1,R,H,ce=>by
  simp only[zK,iter];rw[ax R H _ ce];cases h:f R H with
  |none=>rfl
  |some x=>
   obtain⟨ex,iA,H1⟩:=x;cases ex with
   |normal=>exact RL m aM ax dA n iA H1 (by rw[aM _ _ _ _ _ h];exact ce)
   |exit id=>rfl
   |ret=>rfl
theorem Ry{N:Nat}: ∀(c:Code) (R:ci) (H:J) (dA:il) (bQ:List (Nat×il)) (gN:il),rC R.size c=true->cw P call N c dA bQ gN R.get H=Cs (fe (kk P call) N c R H) dA bQ gN:=by
 intro c
 induction c with
 |skip=>intro R H dA bQ gN _;rfl
 |region id ops d=>
  intro R H dA bQ gN h;simp only[cw,fe];rw[af6 ops d dA h];cases kk P call ops d R H<;>rfl
 |seq a b jg j9=>
  intro R H dA bQ gN h;simp only[rC,Bool.and_eq_true] at h;simp only[cw,fe];rw[jg R H _ bQ gN h.1];cases he:fe (kk P call) N a R H with
  |none=>rfl
  |some x=>
   obtain⟨ex,iA,H1⟩:=x;cases ex with
   |normal=>exact j9 iA H1 dA bQ gN (by rw[Pt a he];exact h.2)
   |exit id=>rfl
   |ret=>rfl
 |cond c a b jg j9=>
  intro R H dA bQ gN h;simp only[rC,Bool.and_eq_true] at h;simp only[cw,fe,u4];unfold bO;cases ey R c with
  |none=>rfl
  |some v=>
   cases v<;>try rfl
   rename_i t;cases t
   ·exact j9 R H dA bQ gN h.2
   ·exact jg R H dA bQ gN h.1
 |block id b aT=>
  intro R H dA bQ gN h;simp only[cw,fe];rw[aT R H dA _ gN h];cases he:fe (kk P call) N b R H with
  |none=>rfl
  |some x=>
   obtain⟨ex,iA,H1⟩:=x;cases ex with
   |normal=>rfl
   |ret=>rfl
   |exit th=>
    simp only[Cs,look];by_cases hid:th=id
    ·subst hid;simp[Nat.beq_refl]
    ·have U:Nat.beq th id=false:=by rw[<-Bool.not_eq_true,Nat.beq_eq];exact hid
     rw[U,if_neg hid];rfl
 |loop b aT=>
  intro R H dA bQ gN h;simp only[cw,fe];exact RL R.size (λ_ _ _ _ _ h=>Pt b h) (λiA H1 dA MV=>aT iA H1 dA bQ gN (by rw[MV];exact h)) dA N R H rfl
 |exit id=>intro R H dA bQ gN _;rfl
 |ret=>intro R H dA bQ gN _;rfl
 |label l=>intro R H dA bQ gN _;rfl
 |goto l=>intro R H dA bQ gN _;rfl
 |scope b aT=>intro R H dA bQ gN _;rfl
 |rangeFunc f ew a b jg j9=>intro R H dA bQ gN _;rfl
 |refuse y=>intro R H dA bQ gN _;rfl
theorem GQ{R:ci}{H:J}: ∀(rs:List ResultVar) (k:List I->O),Cy P H R.get rs k=(nA P R H rs).bind k
 |[],k=>rfl
 | .tmp t::rs,k=>by
  simp only[Cy,nA,Cb];rw[GQ rs];cases nA P R H rs<;>rfl
 | .cell a t::rs,k=>by
  simp only[Cy,nA,Cb];cases aj P H t (R.get a) with
  |none=>rfl
  |some v=>
   simp only[Option.bind_some];rw[GQ rs];cases nA P R H rs<;>rfl
theorem Re(n:Nat)(args:List I):(ci.enter n args).get=cB args:=by
 have h: ∀(args:List I) (d:Nat),cB args d=(args[d]?).getD (.tuple []):=by
  intro args
  induction args with
  |nil=>intro d;cases d<;>rfl
  |cons v cl aT=>
   intro d;cases d with
   |zero=>rfl
   |succ d=>simpa [cB] using aT d
 funext d
 rw[h];unfold ci.get ci.enter;simp only[Kz];by_cases bd:d<args.length
 ·rw[if_pos Z];simp[bd]
 ·rw[if_neg Z,da.DL];simp[bd]
theorem ae2{f:Nat}{args:List I}{H:J}{fn:Func}{c:Code}{M:Nat}{r:I×J}(tr:ao f args H=none)(al:P.funcs[f]? =some fn)(ax:fn.body=some c)(bd:rC fn.ntmps c=true)(aU:Nat.ble args.length fn.ntmps=true)
  (h:cw P (aq P ao) M c (vR P fn.results.toList) [] (vR P fn.results.toList) (cB args) H=some r):aq P ao f args H=some r:=by
 have aM:(ci.enter fn.ntmps args).size=fn.ntmps:=by have:=Nat.le_of_ble_eq_true aU;simp only[ci.enter];omega
 rw[<-Re fn.ntmps,Ry c _ _ _ _ _ (by rw[aM];exact bd)] at h;unfold Cs at h;have fin: ∀(R:ci) (H':J),vR P fn.results.toList R.get H'=some r-> ∃cl,nA P R H' fn.results.toList=some cl/\r=(xN cl,H'):=by
  intro R H' b0;unfold vR at b0;rw[GQ] at b0;cases bV:nA P R H' fn.results.toList with
  |none=>rw[bV] at b0;cases b0
  |some cl=>rw[bV] at b0;exact⟨cl,rfl,(Option.some.inj b0).symm⟩
 split at h
 ·rename_i R H' he;obtain⟨cl,U,rfl⟩:=fin R H' h;exact Qt tr al ax he (λid=>by intro b0;cases b0) U
 ·cases h
 ·rename_i R H' he;obtain⟨cl,U,rfl⟩:=fin R H' h;exact Qt tr al ax he (λid=>by intro b0;cases b0) U
 ·cases h
end
end
end Go.gd
namespace Go
def Code.fst:Code->Code
 | .seq a _=>a
 | .cond _ a _=>a
 | .block _ b=>b
 | .loop b=>b
 |c=>c
def Code.snd:Code->Code
 | .seq _ b=>b
 | .cond _ _ b=>b
 |c=>c
def Code.test:Code->Operand
 | .cond c _ _=>c
 |_=> .tmp 0
def Code.num:Code->Nat
 | .block id _=>id
 | .exit id=>id
 |_=>0
def Code.akx:Code->Bool| .seq _ _=>true|_=>false
def Code.ahz:Code->Bool| .cond _ _ _=>true|_=>false
def Code.afX:Code->Bool| .block _ _=>true|_=>false
def Code.ahA:Code->Bool| .loop _=>true|_=>false
end Go
namespace Go.gd
section
section
variable {P:Program}{call:av}{N:Nat}{q_ nd:il}{nf:List (Nat×il)}
theorem bk{c:Code}{k T:il}(aS:c.akx=true)(cV: ∀R H,cw P call N c.snd q_ nf nd R H=k R H)(ag: ∀R H,cw P call N c.fst k nf nd R H=T R H):
  ∀R H,cw P call N c q_ nf nd R H=T R H:=by
 cases c<;>first|cases aS|skip
 rename_i a b;intro R H;rw[<-ag];show cw P call N a (λR H=>cw P call N b q_ nf nd R H) nf nd R H=_;rw[show(λR H=>cw P call N b q_ nf nd R H)=k from funext λR=>funext λH=>cV R H];rfl
theorem qw{c:Code}{A B:il}(aS:c.ahz=true)(bV: ∀R H,cw P call N c.fst q_ nf nd R H=A R H)(ax: ∀R H,cw P call N c.snd q_ nf nd R H=B R H):
  ∀R H,cw P call N c q_ nf nd R H=bO (gU R c.test) (A R H) (B R H):=by
 cases c<;>first|cases aS|skip
 intro R H;rw[<-bV,<-ax];rfl
theorem fy{c:Code}{T:il}(aS:c.afX=true)(ax: ∀R H,cw P call N c.fst q_ ((c.num,q_)::nf) nd R H=T R H): ∀R H,cw P call N c q_ nf nd R H=T R H:=by
 cases c<;>first|cases aS|skip
 intro R H;rw[<-ax];rfl
theorem gg{c:Code}{k:Nat->il}(aS:c.ahA=true)(aY: ∀R H,k 0 R H=none)(aM: ∀n R H,cw P call N c.fst (k n) nf nd R H=k (n+1) R H): ∀R H,cw P call N c q_ nf nd R H=k N R H:=by
 cases c<;>first|cases aS|skip
 rename_i b;have key: ∀n R H,zK (λdA R H=>cw P call N b dA nf nd R H) n R H=k n R H:=by
  intro n
  induction n with
  |zero=>intro R H;exact(aY R H).symm
  |succ n aT=>
   intro R H;rw[<-aM n R H];show cw P call N b (λR H=>zK _ n R H) nf nd R H=_;rw[show(λR H=>zK (λdA R H=>cw P call N b dA nf nd R H) n R H)=k n from funext λR=>funext λH=>aT R H];rfl
 intro R H;exact key N R H
theorem aL(c:Code): ∀R H,cw P call N c q_ nf nd R H=cw P call N c q_ nf nd R H:=λ_ _=>rfl
def ab(r:Option I)(k:I->O):O:=match r with
 |some v=>k v
 |none=>none
def aO(H:J)(r:O)(k:I->J->O):O:=match r with
 |some (v,H')=>bif decide (H.next<=H'.next) then k v H' else none
 |none=>none
def a7(H:J)(r:Option J)(k:J->O):O:=aO H (r.bind λH'=>some (.tuple [],H')) λ_ H'=>k H'
def dv(H:J)(r:Option (I×dY))(k:I->J->O):O:=match r with
 |some (v,b)=>k v (H.push b)
 |none=>none
def cy(H:J)(cs:List I)(k:I->J->O):O:=k (.ptr H.next 0 0) (H.push (.row false cs.length [cs]))
def c6(fn:Func):Code:=match fn.body with
 |some c=>c
 |none=> .skip
def bg(P:Program)(b:Builtin)(ts:List TypeId)(cl:List I)(H:J)(k:I->O):O:=match dF P .empty b ts cl with
 |some v=>k v
 |none=>(dF P H b ts cl).bind k
def L1(P:Program)(s d:TypeId)(v:I)(H:J)(k:I->O):O:=match B_ P s d v with
 |some v=>k v
 |none=>(Du P H s d v).bind k
def qJ(call:av)(H:J)(f:I)(cl:List I)(k:I->J->O):O:=(By f cl).bind λp=>aO H (call p.1 p.2 H) k
def di(v:I)(q:K->O):O:=q (.pure v)
def bh(r:Option I)(q:K->O):O:=r.bind λv=>q (.pure v)
def qr(r:Option I)(q:K->O):O:=r.bind λv=>q (.read v)
def aD(b:I)(want:Bool)(H:J)(m:(K->O)->O)(k:I->J->O):O:=dZ b want m λx=>k x.val (x.heap H)
end
end
end Go.gd
set_option linter.unusedVariables false
namespace Go.gd
section
def W(m:O)(Q:I->J->Prop):Prop:= ∃v H,m=some (v,H)/\Q v H
theorem a_{v:I}{H:J}{Q:I->J->Prop}:W (some (v,H)) Q↔Q v H:=by
 constructor
 ·rintro⟨dr,H',h,q⟩;simp only[bF,dw] at h;obtain⟨rfl,rfl⟩:=h;exact q
 ·exact λq=>⟨v,H,rfl,q⟩
theorem W.mono{m:O}{Q yy:I->J->Prop}(h:W m Q)(bi: ∀v H,Q v H->yy v H):W m yy:=by
 obtain⟨v,H,e,q⟩:=h;exact⟨v,H,e,bi v H q⟩
theorem a6{r:O}{H:J}{k:I->J->O}{Q yy:I->J->Prop}(h:W r yy)(ah: ∀v H',yy v H'->H.next<=H'.next/\W (k v H') Q):W (aO H r k) Q:=by
 obtain⟨v,H',e,q⟩:=h;obtain⟨U,aa⟩:=ah v H' q;rw[e];simp only[aO,decide_eq_true U,bC];exact aa
theorem afD{call:av}{f:Nat}{a c cl:List I}{H:J}{k:I->J->O}{Q:I->J->Prop}(h:W (aO H (call f (a++cl++c) H) k) Q):W (qJ call H (.func (.func f) a c) cl k) Q:=h
theorem gP{r:O}{H:J}{q:K->O}{Q yy:I->J->Prop}(h:W r yy)(ah: ∀v H',yy v H'->H.next<=H'.next/\W (q (.hx v H')) Q):W (fk H r q) Q:=by
 obtain⟨v,H',e,Jc⟩:=h;obtain⟨U,aa⟩:=ah v H' Jc;rw[e];simp only[fk,decide_eq_true U,bC];exact aa
theorem lB{r:O}{H:J}{x:I}{k:I->J->O}{Q:I->J->Prop}(h:W r λv H'=>v=x/\H'=H)(ah:W (k x H) Q):W (aO H r k) Q:=by
 refine a6 h ?_;rintro _ H' ⟨rfl,e⟩;rw[e];exact⟨bN _,ah⟩
theorem rA{r:O}{H:J}{x:I}{q:K->O}{Q:I->J->Prop}(h:W r λv H'=>v=x/\H'=H)(ah:W (q (.hx x H)) Q):W (fk H r q) Q:=by
 refine gP h ?_;rintro _ H' ⟨rfl,e⟩;rw[e];exact⟨bN _,ah⟩
theorem cP{m fr:O}{Q:I->J->Prop}(a8: ∀r,m=some r->fr=some r)(h:W m Q):W fr Q:=by
 obtain⟨v,H,e,q⟩:=h;exact⟨v,H,a8 _ e,q⟩
def mH:Nat:=0
def apt:Nat:=0
theorem ZC:mH=apt:=rfl
def Dl(v:I)(H:J)(k:I->J->O):O:=k v H
section
variable {r hT:Option I}{o Dk:O}{m fr:Option (I×dY)}{h bZ:Option J}{H H':J}{a eg:I}{b fq:Bool}{z:Nat}
 @[congr] theorem apO {k:I->J->O} (e:a=eg) (d:H=H') (y:mH=z):Dl a H k=Dl eg H' k:=by rw[e,d]
theorem Q9(H:J)(cs:List I)(k:I->J->O):cy H cs k=Dl (.ptr H.next 0 0) (H.push (.row false cs.length [cs])) k:=rfl
theorem Wz(v:I)(H:J)(k:I->J->O):Dl v H k=k v H:=rfl
 @[congr] theorem apM {k:I->O} (e:r=hT) (y:mH=z):ab r k=ab hT k:=by rw[e]
 @[congr] theorem apy {k:I->J->O} (d:H=H') (e:o=Dk) (y:mH=z):aO H o k=aO H' Dk k:=by rw[d,e]
 @[congr] theorem apC {k:K->O} (d:H=H') (e:o=Dk) (y:mH=z):fk H o k=fk H' Dk k:=by rw[d,e]
 @[congr] theorem apw {k:J->O} (d:H=H') (e:h=bZ) (y:mH=z):a7 H h k=a7 H' bZ k:=by rw[d,e]
 @[congr] theorem apz {k:I->J->O} (d:H=H') (e:m=fr) (y:mH=z):dv H m k=dv H' fr k:=by rw[d,e]
 @[congr] theorem apD {k:K->O} (e:m=fr) (y:mH=z):H5 m k=H5 fr k:=by rw[e]
 @[congr] theorem apF {p q:O} (e:r=hT) (y:mH=z):bO r p q=bO hT p q:=by rw[e]
 @[congr] theorem apA {p q:O} (e:b=fq) (y:mH=z):cond b p q=cond fq p q:=by rw[e]
 @[congr] theorem apN {w:Bool} {f:(K->O)->O} {k:I->J->O} (e:a=eg) (y:mH=z):aD a w H f k=aD eg w H f k:=by rw[e]
 @[congr] theorem apv {w:Bool} {f:(K->O)->O} {k:K->O} (e:a=eg) (y:mH=z):dZ a w f k=dZ eg w f k:=by rw[e]
 @[congr] theorem apx {s s':Option I} {k:K->O} (e:r=hT) (d:s=s') (y:mH=z):iu r s k=iu hT s' k:=by rw[d,e]
 @[congr] theorem apJ {q:K->O} (e:r=hT) (y:mH=z):bh r q=bh hT q:=by rw[e]
 @[congr] theorem apK {q:K->O} (e:r=hT) (y:mH=z):qr r q=qr hT q:=by rw[e]
 @[congr] theorem apL {q:K->O} (e:a=eg) (y:mH=z):di a q=di eg q:=by rw[e]
theorem Tp(v:I)(q:K->O):bh (some v) q=q (.pure v):=rfl
theorem Tq(v:I)(q:K->O):qr (some v) q=q (.read v):=rfl
theorem Wc(v:I)(q:K->O):di v q=q (.pure v):=rfl
end
theorem R2(k:IntKind)(n:Int):cj (some (.int k n)) (.int k n)=true:=by simp[cj,I.beq]
theorem R3(x:List UInt8):cj (some (.str x)) (.str x)=true:=by simp[cj,I.beq]
theorem QU(x:Bool):cj (some (.bool x)) (.bool x)=true:=by simp[cj,I.beq]
theorem u7(l i n e:Nat)(c:Option Nat):cj (some (.aN l i n e c)) (.aN l i n e c)=true:=by simp[cj,I.beq]
theorem J9:cj (some .ap) .ap=true:=rfl
theorem Tr(x:List UInt8)(k:IntKind)(n:Int):cj (some (.agg [.str x,.int k n])) (.agg [.str x,.int k n])=true:=by simp[cj,I.beq,jR.beq]
theorem J.yP(H:J)(b:dY)(l:Nat):(H.push b).get l=if l=H.next then some b else H.get l:=by
 split
 ·rename_i h;subst h;exact J.ca H b
 ·rename_i h;exact J.gD h
theorem da.Gu{α:Type}(x y:α): ∀(p:List uV) (t:da α),da.hH y p (da.hH x p t)=da.hH y p t
 |[],.leaf=>rfl
 |[],.node .. =>rfl
 |d::p,.leaf=>by cases d<;>simp[da.hH,da.Gu x y p]
 |d::p,.node .. =>by cases d<;>simp[da.hH,da.Gu x y p]
theorem J.nW(H:J)(b c:dY):(H.push b).set H.next c=H.push c:=by
 simp only[J.push,J.set,da.put,da.Gu]
theorem J.set_set(H:J)(l:Nat)(b c:dY):(H.set l b).set l c=H.set l c:=by
 simp only[J.set,da.put,da.Gu]
theorem J.wI{H:J}{b:dY}{l:Nat}(h:l<=H.next)(bZ:H.next<=l):(H.push b).get l=some b:=by
 obtain rfl:l=H.next:=Z
 exact J.ca H b
theorem J.Pj{H:J}{b c:dY}{l:Nat}(h:l<=H.next)(bZ:H.next<=l):(H.push b).set l c=H.push c:=by
 obtain rfl:l=H.next:=Z
 exact J.nW H b c
def dC(S:Nat->Prop)(H H':J):Prop:=H.next<=H'.next/\ ∀l,l<H.next-> ¬S l->H'.get l=H.get l
def aR(H H':J):Prop:=H.next<=H'.next/\ ∀l,l<H.next->H'.get l=H.get l
theorem aR.refl(H:J):aR H H:=⟨bN _,λ_ _=>rfl⟩
theorem aR.trans{H H1 bm:J}(h:aR H H1)(k:aR H1 bm):aR H bm:=⟨Nat.le_trans h.1 k.1,λl az=>(k.2 l (Nat.lt_of_lt_of_le az h.1)).trans (h.2 l az)⟩
theorem aR.push(H:J)(b:dY):aR H (H.push b):=⟨by simp,λl az=>J.gD Z⟩
theorem aR.bX{H H1:J}(h:aR H H1)(b:dY):aR H (H1.push b):=h.trans (aR.push H1 b)
theorem aR.db{H H1:J}(h:aR H H1){l:Nat}(az:H.next<=l)(b:dY):aR H (H1.set l b):=
 ⟨h.1,λj bH=>by rw[J.get_set_other Z];exact h.2 j bH⟩
theorem aR.get{H H':J}(h:aR H H'){l:Nat}{b:dY}(ax:H.get l=some b):H'.get l=some b:=by rw[h.2 l (J.aX ax)];exact ax
theorem aR.mut{H H':J}(h:aR H H')(S:Nat->Prop):dC S H H':=⟨h.1,λl az _=>h.2 l az⟩
theorem dC.refl(S:Nat->Prop)(H:J):dC S H H:=(aR.refl H).mut S
theorem dC.trans{S:Nat->Prop}{H H1 bm:J}(h:dC S H H1)(k:dC S H1 bm):dC S H bm:=⟨Nat.le_trans h.1 k.1,λl az aM=>(k.2 l (Nat.lt_of_lt_of_le az h.1) aM).trans (h.2 l az aM)⟩
theorem dC.bX{S:Nat->Prop}{H H1:J}(h:dC S H H1)(b:dY):dC S H (H1.push b):=h.trans ((aR.push H1 b).mut S)
theorem dC.db{S:Nat->Prop}{H H1:J}(h:dC S H H1){l:Nat}(az:S l\/H.next<=l)(b:dY):dC S H (H1.set l b):=
 ⟨h.1,λj bH aM=>by rw[J.get_set_other (by rintro rfl;exact az.elim aM Z)];exact h.2 j bH aM⟩
theorem dC.get{S:Nat->Prop}{H H':J}(h:dC S H H'){l:Nat}{b:dY}(ax:H.get l=some b)(aM: ¬S l):H'.get l=some b:=by rw[h.2 l (J.aX ax) aM];exact ax
section
variable {P:Program}{H:J}
theorem TA(v:I)(k:I->O):ab (some v) k=k v:=rfl
theorem iE(b:Bool)(x y:O):bO (some (.bool b)) x y=bif b then x else y:=rfl
theorem kx{v:I}{H':J}{k:I->J->O}(h:H.next<=H'.next):aO H (some (v,H')) k=k v H':=by
 simp only[aO,decide_eq_true h,bC]
theorem lz{H':J}{k:J->O}(h:H.next<=H'.next):a7 H (some H') k=k H':=by
 simp only[a7,Option.bind_some];exact kx h
theorem yI(v:I)(b:dY)(k:I->J->O):dv H (some (v,b)) k=k v (H.push b):=rfl
theorem Wy(m:(K->O)->O)(k:I->J->O):aD (.bool true) true H m k=m (λx=>Dl x.val (x.heap H) k):=rfl
theorem Wu(m:(K->O)->O)(k:I->J->O):aD (.bool false) false H m k=m (λx=>Dl x.val (x.heap H) k):=rfl
theorem Wx(m:(K->O)->O)(k:I->J->O):aD (.bool true) false H m k=k (.tuple []) H:=rfl
theorem Wv(m:(K->O)->O)(k:I->J->O):aD (.bool false) true H m k=k (.tuple []) H:=rfl
theorem Ww(w:Bool)(m:(K->O)->O)(k:I->J->O):aD (.tuple []) w H m k=k (.tuple []) H:=rfl
theorem Qi(v:I)(b:Option I)(k:K->O):iu (some v) b k=k (.pure v):=rfl
theorem RY(a b:Option I):cX (.bool true) a b=a:=rfl
theorem RX(a b:Option I):cX (.bool false) a b=b:=rfl
theorem Sm(b:Bool):eY .not (.bool b)=some (.bool (!b)):=rfl
theorem Rc(l i c:Nat):b5 (.ptr l i c)=some (.ptr l i c):=rfl
theorem Py(v:I):(K.pure v).val=v:=rfl
theorem Pz(v:I):(K.read v).val=v:=rfl
theorem Qk(v:I)(b:dY):(K.new v b).val=v:=rfl
theorem Qj(v:I)(H':J):(K.hx v H').val=v:=rfl
theorem PA:K.skip.val= .tuple []:=rfl
theorem F8(v:I):(K.pure v).heap H=H:=rfl
theorem F9(v:I):(K.read v).heap H=H:=rfl
theorem Px(v:I)(b:dY):(K.new v b).heap H=H.push b:=rfl
theorem Gb(v:I)(H':J):(K.hx v H').heap H=H':=rfl
theorem OY:K.skip.heap H=H:=rfl
theorem Oo(cl:List I)(i:Nat):gT (.tuple cl) i=cl[i]? :=rfl
theorem RA(t:TypeId)(c:Bool)(k:IntKind)(a b:Int):aW P .add t c (.int k a) (.int k b)=some (.int k (k.wrap (a+b))):=by simp[aW,pH]
theorem RH(t:TypeId)(c:Bool)(k:IntKind)(a b:Int):aW P .sub t c (.int k a) (.int k b)=some (.int k (k.wrap (a-b))):=by simp[aW,pH]
theorem ae3(t:TypeId)(c:Bool)(k:IntKind)(a b:Int):aW P .mul t c (.int k a) (.int k b)=some (.int k (k.wrap (a*b))):=by simp[aW,pH]
theorem RB(t:TypeId)(c:Bool)(k:IntKind)(a b:Int):aW P .eql t c (.int k a) (.int k b)=some (.bool (a==b)):=by simp[aW,pH]
theorem RG(t:TypeId)(c:Bool)(k:IntKind)(a b:Int):aW P .neq t c (.int k a) (.int k b)=some (.bool (a != b)):=by simp[aW,pH]
theorem RF(t:TypeId)(c:Bool)(k:IntKind)(a b:Int):aW P .lss t c (.int k a) (.int k b)=some (.bool (decide (a<b))):=by simp[aW,pH]
theorem RE(t:TypeId)(c:Bool)(k:IntKind)(a b:Int):aW P .leq t c (.int k a) (.int k b)=some (.bool (decide (a<=b))):=by simp[aW,pH]
theorem RD(t:TypeId)(c:Bool)(k:IntKind)(a b:Int):aW P .gtr t c (.int k a) (.int k b)=some (.bool (decide (b<a))):=by simp[aW,pH]
theorem RC(t:TypeId)(c:Bool)(k:IntKind)(a b:Int):aW P .geq t c (.int k a) (.int k b)=some (.bool (decide (b<=a))):=by simp[aW,pH]
theorem Qv(t:TypeId)(c:Bool)(a b:List UInt8):aW P .eql t c (.str a) (.str b)=some (.bool (a==b)):=rfl
theorem Qw(t:TypeId)(c:Bool)(a b:List UInt8):aW P .neq t c (.str a) (.str b)=some (.bool (!(a==b))):=rfl
theorem Lr{t:TypeId}{n:Nat}(aU:fs P t=some n){l i c esz:Nat}{els:List (List I)}{e:List I}{v:I}(h:H.get l=some (.row false esz els))(he:els[i]? =some e)(bA:v.cells.length=n)(bt:v.cells.all I.one=true)(aS:c+n<=esz):
  aQ P H t (.ptr l i c) v=some (H.set l (.row false esz (els.set i (eF e c v.cells)))):=by
 simp only[aQ,h,he];rw[if_pos ⟨by rw[aU,bA],by rw[bA];exact aS,bt⟩]
theorem iF(k:IntKind)(n:Int):(I.int k n).one=true:=rfl
theorem jO(x:List UInt8):(I.str x).one=true:=rfl
theorem yQ(x:Bool):(I.bool x).one=true:=rfl
theorem KU(l i c:Nat):(I.ptr l i c).one=true:=rfl
theorem Ln(l i n e:Nat)(c:Option Nat):(I.aN l i n e c).one=true:=rfl
theorem Bv:I.ap.one=true:=rfl
theorem KB(f:Fn)(a c:List I):(I.func f a c).one=true:=rfl
theorem kb{v:I}(h:v.one=true):v.cells=[v]:=by cases v<;>first|rfl|cases h
theorem h8(l:Nat)(cs:List I)(h:cs.all I.one=true):eK l (.agg cs)=some (.ptr l 0 0,.row false cs.length [cs]):=by
 simp only[eK,I.cells,h,bC]
end
end
end Go.gd
namespace Go.Proofs.YtghmbpmaafnodaaGreatDoor
open Go.gd
noncomputable def P:Program:=Tryz.prog
noncomputable abbrev bY(f:Func):il:=vR P f.results.toList
noncomputable abbrev bn(f:Func)(G:av)(N:Nat):il:=cw P G N (c6 f) (bY f) [] (bY f)
theorem dj{A B C:il}(h: ∀R H,A R H=B R H)(aa: ∀R H,B R H=C R H): ∀R H,A R H=C R H:=λR H=>(h R H).trans (aa R H)
theorem cL{A B:il}{R:fb}{H:J}{t:O}(h: ∀R H,A R H=B R H)(aa:B R H=t):A R H=t:=(h R H).trans aa
def FN(H:J)(r:Option J)(k:I->J->O):O:=aO H (r.bind λH'=>some (.tuple [],H')) k
theorem afC{H H':J}{k:I->J->O}(h:H.next<=H'.next):FN H (some H') k=k (.tuple []) H':=by
 simp only[FN,Option.bind_some];exact kx h
 @[congr] theorem apG {H bm:J} {h bZ:Option J} {z:Nat} {k:I->J->O} (d:H=bm) (e:h=bZ) (Zl:mH=z):FN H h k=FN bm bZ k:=by rw[d,e]
def sZ:List (List I):=Lib.asciiSpaceTab.map λn=>[.int .u8 n]
def uW:Env:=λl=>match l with
 |0=>some ⟨0,0,1,256⟩
 |1=>some ⟨4,0,1,1⟩
 |_=>none
def xW:List (List I):=[[.iface 191 (.ptr 2 0 0)]]
open Classical in
noncomputable def ao:av:=λf args H=>match f,args with
 |66,[.str s,.int .u8 c]=>some (.int .i64 (Lib.indexByte s c.toNat.toUInt8),H)
 |100,[.str s]=>if s.length<4294967281/\(∀(j:Nat) b,s[j]? =some b->b.toNat<128)/\H.get 0=some (.row true 1 sZ) then
  some (.aN H.next 0 (Lib.fields s).length 1 (some (Lib.fields s).length),H.push (.row false 1 ((Lib.fields s).map λl=>[.str l]))) else none
 |99,[.str s]=>if s.length<=281474976710656/\H.get 1=some (.row true 1 xW) then
  (match Lib.atoiAll s with
  | .ok v=>some (.tuple [.int .i64 v,.nilIface],H)
  | .range=>some (.tuple [.int .i64 (Lib.atoiSat s),.iface 152 (.ptr H.next 0 0)],H.push .dead)
  |_=>none) else none
 |_,_=>none
theorem cQ{f:Nat}{fn:Func}{N:Nat}{args:List I}{H:J}{r:I×J}(tr:ao f args H=none)(al:P.funcs[f]? =some fn)(ax:fn.body=some (c6 fn))(bd:rC fn.ntmps (c6 fn)=true)(aU:Nat.ble args.length fn.ntmps=true)(h:bn fn (aq P ao) N (cB args) H=some r):aq P ao f args H=some r:=ae2 tr al ax bd aU h
end Go.Proofs.YtghmbpmaafnodaaGreatDoor
namespace Go.gd
section
theorem da.Kl{α:Type}(x y:α): ∀(p q:List uV) (t:da α),p≠q->da.hH x p (da.hH y q t)=da.hH y q (da.hH x p t)
 |[],[],_,h=>absurd rfl h
 |[],d::q,.leaf,_=>by cases d<;>simp[da.hH]
 |[],d::q,.node ..,_=>by cases d<;>simp[da.hH]
 |d::p,[],.leaf,_=>by cases d<;>simp[da.hH]
 |d::p,[],.node ..,_=>by cases d<;>simp[da.hH]
 |d::p,e::q,.leaf,h=>by
  by_cases bd:d=e
  ·subst bd;have aT:=da.Kl x y p q .leaf (λb0=>h (by rw[b0]));cases d<;>simp[da.hH,aT]
  ·cases d<;>cases e<;>first|exact absurd rfl bd|simp[da.hH]
 |d::p,e::q,.node v c0 bM c2 c3 c4 c5 qj qk,h=>by
  by_cases bd:d=e
  ·subst bd;have aT:=λc=>da.Kl x y p q c (λb0=>h (by rw[b0]))
   cases d<;>simp[da.hH,aT]
  ·cases d<;>cases e<;>first|exact absurd rfl bd|simp[da.hH]
theorem J.io{H:J}{b c:dY}{l:Nat}(h:l<H.next):(H.push b).set l c=(H.set l c).push b:=by
 simp only[J.push,J.set,da.put];rw[da.Kl _ _ _ _ _ (λe=>by have:=RW e;omega)]
theorem rl(m:(K->O)->O)(k:K->O):dZ (.bool true) true m k=m k:=rfl
theorem rh(m:(K->O)->O)(k:K->O):dZ (.bool false) false m k=m k:=rfl
theorem rk(m:(K->O)->O)(k:K->O):dZ (.bool true) false m k=k .skip:=rfl
theorem ri(m:(K->O)->O)(k:K->O):dZ (.bool false) true m k=k .skip:=rfl
theorem rj(w:Bool)(m:(K->O)->O)(k:K->O):dZ (.tuple []) w m k=k .skip:=rfl
theorem vI{c:Bool}{a b:O}{Q:I->J->Prop}(aS:c=true)(h:W a Q):W (bif c then a else b) Q:=by rw[aS];exact h
def vG:List ks->J->List J
 |[],H=>[H]
 |t::ts,H=>H::vG ts (t.k.heap H)
theorem Q7{ms:List Nat}{rd:J->Bool}{i:Nat}: ∀(T:List ks) (H:J),(∀H'∈vG T H,rd H'=true)->x8 ms rd i T H=true
 |[],H,h=>h H (by simp[vG])
 |t::ts,H,h=>by
  have aY:=h H (by simp[vG]);have aT:=Q7 (ms:=ms) (rd:=rd) (i:=i) ts (t.k.heap H) (λH' hm=>h H' (by simp[vG,hm]));rw[x8];cases ah:t.k.jm with
  |true=>simp[aY,aT]
  |false=>
   have:t.k.heap H=H:=by cases b0:t.k<;>simp[b0,K.jm,K.heap] at ah ⊢
   rw[this] at aT;simp[aT]
theorem aeD{ms:List Nat}{rd:J->Bool}{i:Nat}{T:List ks}{H:J}(h: ∀H'∈vG T H,rd H'=true):EK ms rd i T H=true:=by
 rw[EK,Q7 T H h];cases zG ms i T false<;>rfl
def rU(hR:List Nat)(T:List ks)(H:J):List ks->Prop
 |[]=>True
 |t::ts=>(∀v,t.k= .read v->hR.contains t.i=true\/ ∀H'∈vG T H,cj (t.rd H') v=true)/\rU hR T H ts
theorem Qh{ms hR:List Nat}{T:List ks}{H:J}: ∀S:List ks,rU hR T H S->xH ms hR T H S=true
 |[],_=>rfl
 |t::ts,h=>by
  rw[rU] at h;rw[xH,Qh ts h.2,Bool.and_true];split
  ·rename_i v ah;rcases h.1 v ah with U|U
   ·rw[U,Bool.true_or]
   ·rw[aeD U,Bool.or_true]
  ·rfl
theorem wL{ms hR:List Nat}{T:List ks}{H:J}(U:xO ms T []=true)(aa:rU hR T H T):oW ms hR T H=true:=by
 rw[oW,U,Qh T aa];rfl
section
variable {E:Env}{P:Program}{ao:av}
theorem PQ(po:zb P){G:av}(I9:ry E P G){N f:Nat}{args:List I}{H H1:J}{fn:Func}{c:Code}{ex:bp}{R:ci}{cl:List I}
  (jr:P.funcs[f]? =some fn) (aS:fn.body=some c) (pb:fe (kk P G) N c (ci.enter fn.ntmps args) H=some (ex,R,H1)) (dM: ∀id,ex≠ .exit id) (tf:nA P R H1 fn.results.toList=some cl):wP E P f args H (xN cl) H1:=by
 intro ρ w xs ce al oT aU next rN
 have LB:=OQ (N:=N) Pk (OU po.mixed I9) c (po.Wb _ _ _ jr aS);have zJ:(fn.name== "runtime.NumGoroutine")=false:=po.names fn (Array.mem_of_getElem? jr);have oy:(callFunc f xs.toArray).run P w= .ok (.enter f xs.toArray) w:=by
  unfold callFunc;simp[jr,aS];intro b0;simp[b0] at zJ
 unfold zT;rw[oy];simp only
 refine calls_of_wp jr aS (LB _ _ _ _ _ pb ρ w _ _ ce al (Qs oT fn.ntmps) λcY eg b4 U aa=> ?_);obtain⟨x,aI,bc⟩:=OH aa.rel U tf;have s9:=rN x b4 cY bc aa;cases ex with
 |normal=>exact⟨U.none,x,aI,s9⟩
 |ret=>exact⟨U.none,x,aI,s9⟩
 |exit id=>exact absurd rfl (dM id)
theorem aeZ(po:zb P){G:av}(I9:ry E P G){f:Nat}{args:List I}{H:J}{fn:Func}{c:Code}{M:Nat}{r:I×J}(al:P.funcs[f]? =some fn)(ax:fn.body=some c)(bd:rC fn.ntmps c=true)(aU:Nat.ble args.length fn.ntmps=true)
  (h:cw P G M c (vR P fn.results.toList) [] (vR P fn.results.toList) (cB args) H=some r):wP E P f args H r.1 r.2:=by
 have aM:(ci.enter fn.ntmps args).size=fn.ntmps:=by have:=Nat.le_of_ble_eq_true aU;simp only[ci.enter];omega
 rw[<-Re fn.ntmps,Ry c _ _ _ _ _ (by rw[aM];exact bd)] at h;unfold Cs at h;have fin: ∀(R:ci) (H':J),vR P fn.results.toList R.get H'=some r-> ∃cl,nA P R H' fn.results.toList=some cl/\r=(xN cl,H'):=by
  intro R H' b0;unfold vR at b0;rw[GQ] at b0;cases bV:nA P R H' fn.results.toList with
  |none=>rw[bV] at b0;cases b0
  |some cl=>rw[bV] at b0;exact⟨cl,rfl,(Option.some.inj b0).symm⟩
 split at h
 ·rename_i R H' he;obtain⟨cl,U,rfl⟩:=fin R H' h;exact PQ po I9 al ax he (λid=>by intro b0;cases b0) U
 ·cases h
 ·rename_i R H' he;obtain⟨cl,U,rfl⟩:=fin R H' h;exact PQ po I9 al ax he (λid=>by intro b0;cases b0) U
 ·cases h
theorem Rel.Tc{ρ:Env}{H:J}{w b4:World}(h:Rel ρ H w)(ah: ∀b,b<w.heap.size->b4.heap[b]? =w.heap[b]?):Rel ρ H b4:=by
 have key: ∀b x,w.heap[b]? =some x->b4.heap[b]? =some x:=λb x e=>by
  rw[ah b ?_];exact e;exact(Array.getElem?_eq_some_iff.1 e).1
 refine⟨λl ro esz els e=> ?_,λl es e=> ?_,h.apart⟩
 ·obtain⟨loc,U,aa,c,t,ie,ae,am⟩:=h.row l ro esz els e;exact⟨loc,U,aa,c,t,ie,key _ _ ae,am⟩
 ·obtain⟨loc,U,ents,clock,ae,am⟩:=h.map l es e;exact⟨loc,U,ents,clock,key _ _ ae,am⟩
theorem J.Gk(l:Nat):J.empty.get l=none:=by
 cases h:J.empty.get l with
 |none=>rfl
 |some b=>exact absurd (J.aX h) (Nat.not_lt_zero l)
theorem adl(w:World):Rel (λ_=>none) J.empty w:=by
 refine⟨λl ro esz els e=> ?_,λl es e=> ?_,λl l' loc dz _ _ _ h=> ?_⟩
 ·rw[J.Gk] at e;cases e
 ·rw[J.Gk] at e;cases e
 ·cases h
end
end
end Go.gd
namespace Go.Proofs.YtghmbpmaafnodaaGreatDoor
open Go.gd
def af2(eD:List Func):Bool:=eD.all λfn=> !(fn.name== "runtime.NumGoroutine")
def aeX(eD:List Func):Bool:=eD.all λfn=>match fn.body with
 |some c=>sB c
 |none=>true
theorem adh{P:Program}(U:P.follows .mixedOrders=true)(aa:af2 P.funcs.toList=true)(ae:aeX P.funcs.toList=true):zb P:=by
 refine⟨U,λfn jr=> ?_,λf fn c al aS=> ?_⟩
 ·have:=List.all_eq_true.1 aa fn (Array.mem_toList_iff.2 jr);simpa using this
 ·have:=List.all_eq_true.1 ae fn (Array.mem_toList_iff.2 (Array.mem_of_getElem? al));simpa [aS] using this
set_option maxRecDepth 1000000
theorem GZ:zb P:=adh ad ad ad
end Go.Proofs.YtghmbpmaafnodaaGreatDoor
