/-
  Texts of one proof, laid together: Rd ShPa Re Rf Rg ShT V1 V2.
-/
import Derived.Test.YtghmbpmaafnodaaGreatDoorMS
import Derived.Test.YtghmbpmaafnodaaGreatDoorMD
import Derived.Test.YtghmbpmaafnodaaGreatDoorML
import Derived.Test.YtghmbpmaafnodaaGreatDoorMJ
import Derived.Test.YtghmbpmaafnodaaGreatDoorMN
set_option linter.unusedVariables false
set_option linter.unusedSimpArgs false
namespace Go.Proofs.YtghmbpmaafnodaaGreatDoor
open Go.gd
open Nat (reduceAdd reduceLeDiff)
section
section
variable {T:List Tok}{s t:aA}
theorem wG(h:s.aC≠0)(N n:Nat)(g:eA):oi T N (n+1) g s=some (g,s):=by
 have ax:(s.aC==0)=false:=by simpa using h
 rw[oi,ax,Bool.false_and,bj]
theorem wH(h:s.aC≠0)(N n:Nat)(g:eA):mo T N (n+1) g s=some (g,s):=by
 have ax:(s.aC==0)=false:=by simpa using h
 rw[mo,ax,Bool.false_and,bj]
theorem Ki{n:Nat}{m:Int}(hm:m<=n):gY T true n m s=cS T 4 s:=by
 unfold gY;rw[show decide (m<=(n:Int))=true from decide_eq_true hm];rfl
theorem aak(g:eA)(az:g.el.length=12): ∃p,wV T 800000000 g s=some p/\(s.aC=0->p.2.aC≠0/\(cS T 4 s).aC=p.2.aC/\(cS T 4 s).cv=p.2.cv):=by
 have U:(cS T 4 s).aC≠0:=iZ cm;have aa:(aF (cS T 4 s)).aC≠0:=U;obtain⟨bf,a2⟩:=JB (T:=T) aa;have ae:(h2 T (aF (cS T 4 s))).2.aC≠0:=by rw[bf];exact aa
 unfold wV;rw[Ki (by rw[az];decide),sv ae,show(800000000:Nat)=799999999+1 from rfl,yE ae];refine⟨_,rfl,λ_=> ?_⟩;simp only[sv ae];exact⟨ae,bf.symm,a2.symm⟩
theorem aad(g:eA)(az:g.globals.length=8):(k8 T g s).2.aC≠0/\(cS T 4 s).aC=(k8 T g s).2.aC/\(cS T 4 s).cv=(k8 T g s).2.cv:=by
 have U:(cS T 4 s).aC≠0:=iZ cm;have aa:(aF (cS T 4 s)).aC≠0:=U;obtain⟨bf,a2⟩:=Dp (T:=T) aa;have ae:(i6 T (aF (cS T 4 s))).2.aC≠0:=by rw[bf];exact aa
 unfold k8;rw[Ki (by rw[az];decide)];simp only[sv ae];exact⟨ae,bf.symm,a2.symm⟩
theorem ZJ(h:s.aC≠0): ∃p,yN T 800000000 s=some p/\p.2.aC=s.aC/\p.2.cv=s.cv:=by
 unfold yN;rw[ma h,bj];unfold me;rw[Pe h];obtain⟨bf,a2⟩:=Dp (T:=T) h;have aa:(i6 T s).2.aC≠0:=by rw[bf];exact h
 rw[show(800000000:Nat)=799999999+1 from rfl,Dm aa];exact⟨_,rfl,bf,a2⟩
theorem aac(h:s.aC≠0):(j3 T s).2=s:=by
 unfold j3;rw[sv h,OX h];rfl
theorem ZN(g:eA)(az:g.funcs.length=16): ∃p,wN T 800000000 g s=some p/\p.2.aC≠0/\(cS T 4 s).aC=p.2.aC/\(cS T 4 s).cv=p.2.cv:=by
 have U:(cS T 4 s).aC≠0:=iZ cm;have aa:(aF (cS T 4 s)).aC≠0:=U;obtain⟨bf,a2⟩:=JB (T:=T) aa;have ae:(h2 T (aF (cS T 4 s))).2.aC≠0:=by rw[bf];exact aa
 unfold wN;rw[Ki (by rw[az];decide),sv ae];obtain⟨p,e,df,cU⟩:=ZJ (T:=T) ae;have am:p.2.aC≠0:=by rw[df];exact ae
 rw[e];refine⟨_,rfl,?_⟩;rw[aac am];unfold oq;rw[if_pos am];exact⟨am,(df.trans bf).symm,(cU.trans a2).symm⟩
theorem GP(aH:hG T): ∀(k:Nat) (s:aA) (g:eA),(s.aC=0->hJ T s/\(T.length:Int)-s.at_<=k/\g.el.length<=12/\g.globals.length<=8/\g.funcs.length<=16)-> ∀n cg,k+1<=n->k+1<=cg-> ∃p q,oi T 800000000 n g s=some p/\mo T 800000000 cg g s=some q/\e8 p q
 |k,s,g,h,0,_,aU,_=>Z
 |k,s,g,h,_,0,_,aU=>Z
 |k,s,g,h,n+1,cg+1,aU,hz=>by
  by_cases al:s.aC=0
  ·obtain⟨gs,ah,eG,fA,gS⟩:=h al;have qa:(s.aC==0)=true:=by rw[al];rfl
   have ax:=gs.b;have bV:=gs.a;obtain⟨n,rfl⟩: ∃m,n=m+1:=⟨n-1,Z⟩;obtain⟨cg,rfl⟩: ∃m,cg=m+1:=⟨cg-1,Z⟩;have vM: ∀e:Int,e≠0->(cS T e s).aC≠0:=λe he=>iZ he
   rw[oi,mo,qa,Bool.true_and];cases ag:(ar T s.at_).kind != 0 with
   |false=>exact⟨_,_,rfl,rfl,.rfl' _⟩
   |true=>
    have AB:(ar T s.at_).kind≠0:=by simpa using ag
    rw[bC,bC];unfold isRec ui isFun;rw[LN s (x:=[114,101,99,111,114,100]) cm,LN s (x:=[103,108,111,98,97,108]) cm,LN s (x:=[102,117,110,99]) cm];cases a8:b7 T s 3 [114,101,99,111,114,100] with
    |true=>
     rw[Gm a8 (y:=[103,108,111,98,97,108]) cm,Gm a8 (y:=[102,117,110,99]) cm];simp only[Bool.true_and,Bool.false_and,Bool.or_false,bC];by_cases az:g.el.length=12
     ·rw[show(g.el.length==12)=true by simpa using az,bC,wH (vM 4 cm)];obtain⟨p,e,aI⟩:=aak (T:=T) (s:=s) g az;obtain⟨U,aa,ae⟩:=aI al;rw[e,Option.bind_some,wG U];exact⟨_,_,rfl,rfl,.inr ⟨U,aa,ae⟩⟩
     ·rw[show(g.el.length==12)=false by simpa using az,bj];obtain⟨p,q,f1,f2,f3,f4⟩:=adk aH g gs AB Z;rw[f1,f2,Option.bind_some,Option.bind_some];rcases f3 with⟨U,aa⟩|⟨U,aa,ae⟩
      ·obtain⟨g2,cU⟩:=f4 U;rw[<-aa] at U g2 cU ⊢;exact GP aH (k-1) q.2 {g with el:=g.el++[q.1]} (λ_=>⟨g2,by simp only at cU;omega,by simp;omega,fA,gS⟩) (n+1) (cg+1) (by simp only at cU;omega) (by simp only at cU;omega)
      ·have am:q.2.aC≠0:=by rw[aa];exact U
       rw[wG U,wH am];exact⟨_,_,rfl,rfl,.inr ⟨U,aa,ae⟩⟩
    |false=>
     cases aZ:b7 T s 3 [103,108,111,98,97,108] with
     |true=>
      rw[Gm aZ (y:=[102,117,110,99]) cm];simp only[Bool.true_and,Bool.false_and,Bool.or_false,Bool.false_or,bC,bj];by_cases az:g.globals.length=8
      ·rw[show(g.globals.length==8)=true by simpa using az,bC,wH (vM 4 cm)];obtain⟨U,aa,ae⟩:=aad (T:=T) (s:=s) g az;rw[wG U];exact⟨_,_,rfl,rfl,.inr ⟨U,aa,ae⟩⟩
      ·rw[show(g.globals.length==8)=false by simpa using az,bj];obtain⟨f3,f4⟩:=ac3 aH g gs AB Z;rcases f3 with⟨U,aa⟩|⟨U,aa,ae⟩
       ·obtain⟨g2,cU⟩:=f4 U;rw[<-aa] at U g2 cU ⊢;exact GP aH (k-1) (cr T [59] (hV T (aF s)).2) {g with globals:=g.globals++[(hV T (aF s)).1]} (λ_=>⟨g2,by simp only at cU;omega,eG,by simp;omega,gS⟩) (n+1) (cg+1) (by simp only at cU;omega) (by simp only at cU;omega)
       ·have am:(cr T [59] (hV T (aF s)).2).aC≠0:=λh=>U (aa.symm.trans h)
        rw[wG U,wH am];exact⟨_,_,rfl,rfl,.inr ⟨U,aa,ae⟩⟩
     |false=>
      cases aS:b7 T s 3 [102,117,110,99] with
      |true=>
       simp only[Bool.true_and,Bool.false_and,Bool.or_false,Bool.false_or,bC,bj];by_cases az:g.funcs.length=16
       ·rw[show(g.funcs.length==16)=true by simpa using az,bC,wH (vM 4 cm)];obtain⟨p,e,U,aa,ae⟩:=ZN (T:=T) (s:=s) g az;rw[e,Option.bind_some,wG U];exact⟨_,_,rfl,rfl,.inr ⟨U,aa,ae⟩⟩
       ·rw[show(g.funcs.length==16)=false by simpa using az,bj];obtain⟨p,q,f1,f2,f3,f4⟩:=aaI aH g gs AB Z;rw[f1,f2,Option.bind_some,Option.bind_some];rcases f3 with⟨U,aa⟩|⟨U,aa,ae⟩
        ·obtain⟨g2,cU,-⟩:=f4 U;rw[<-aa] at U g2 cU ⊢;exact GP aH (k-1) q.2 {g with funcs:=g.funcs++[q.1]} (λ_=>⟨g2,by simp only at cU;omega,eG,fA,by simp;omega⟩) (n+1) (cg+1) (by simp only at cU;omega) (by simp only at cU;omega)
        ·have am:q.2.aC≠0:=λh=>U (aa.symm.trans h)
         rw[wG U,wH am];exact⟨_,_,rfl,rfl,.inr ⟨U,aa,ae⟩⟩
      |false=>
       simp only[Bool.false_and,Bool.or_false,bj];rw[wG (vM 2 cm),wH (vM 2 cm)];exact⟨_,_,rfl,rfl,.rfl' _⟩
  ·rw[wG al,wH al];exact⟨_,_,rfl,rfl,.rfl' _⟩
theorem abN(aH:hG T)(aY:0<T.length): ∃p q,oi T 800000000 800000000 .none ⟨0,0,0,0⟩=some p/\mo T 800000000 800000000 .none ⟨0,0,0,0⟩=some q/\xB p.1 p.2=xB q.1 q.2:=by
 have aU:=aH.n;obtain⟨p,q,U,aa,ae⟩:=GP aH T.length ⟨0,0,0,0⟩ .none (λ_=>⟨⟨rfl,Int.le_refl 0,by show(0:Int)<T.length;omega,rfl,rfl⟩,by show(T.length:Int)-0<=T.length;omega,cm,cm,cm⟩) 800000000 800000000 Z Z;refine⟨p,q,U,aa,?_⟩;unfold xB;rcases ae with⟨ae,rfl⟩|⟨ae,am,aB⟩
 ·rfl
 ·rw[if_neg ae,if_neg (λh=>ae (am.symm.trans h)),am,aB]
end
end
section
set_option maxRecDepth 100000
noncomputable section
def xD(G:av)(N:Nat)(an ay:I)(bu bx:I)(H:J):O:=
 aO H (G 25 [bu] H) λvX U=>
 ab (eY .not vX) λH3=>
 bO (some H3) (a7 U (aQ P U 26 an (.agg [I.ap,I.ap,I.ap])) λaa=>
 ab (b5 bu) λEU=>
 ab (aE P 63 EU 3) λAj=>
 ab (aj P aa 29 Aj) λvY=>
 a7 aa (aQ P aa 29 ay vY) λae=>
 bif ((cj (aj P U 29 Aj) vY&&(cj (aj P aa 29 Aj) vY&&true))&&true) then(ab (aj P ae 26 an) λr=>
 ab (aj P ae 29 ay) λmz=>
 some (.tuple [r,mz],ae)) else none) (ab (aj P U 26 bx) λEV=>
 a7 U (aQ P U 26 an EV) λaa=>
 a7 aa (aQ P aa 29 ay (.agg [(.int .i64 0),(.int .i64 0)])) λae=>
 ab (aj P ae 26 an) λr=>
 ab (aj P ae 29 ay) λmz=>
 some (.tuple [r,mz],ae))
theorem afs(G:av)(N:Nat): ∀R H,cw P G N (Code.snd (Code.snd (Code.snd (Code.snd (Code.snd (Code.snd (c6 Tryz.f9))))))) (bY Tryz.f9) [] (bY Tryz.f9) R H=xD G N (R 2) (R 3) (R 6) (R 7) H:=by
 refine dj (aL _) λR H=> ?_
 delta xD;kernel_rfl
def rR(G:av)(N:Nat)(bD:I->I->I->I->J->O)(an ay:I)(bu bx eC:I)(H:J):O:=
 bO (some eC) (aO H (G 28 [bu,(.int .i64 4)] H) λsj U=>
 bD an ay bu bx U) (aO H (G 27 [bu,(.str [114,101,99,111,114,100])] H) λjW U=>
 bO (some jW) (ab (b5 bu) λiV=>
 ab (aE P 63 iV 1) λl6=>
 ab (aj P U 3 l6) λnM=>
 ab (aW P .add 3 true nM (.int .i64 1)) λkS=>
 ab (b5 bu) λl7=>
 ab (aE P 63 l7 1) λnb=>
 a7 U (aQ P U 3 nb kS) λaa=>
 aO aa (G 29 [bu] aa) λnN ae=>
 ab (aE P 26 bx 0) λfD=>
 ab (aj P ae 22 fD) λkq=>
 dv ae (dK P (ae).next 22 1 [(0,nN)]) λph am=>
 aO am (fQ P am [22,22] kq ph) λnc aB=>
 ab (aE P 26 bx 0) λnO=>
 a7 aB (aQ P aB 22 nO nc) λaG=>
 bif ((cj (aj P aa 22 fD) kq&&(cj (aj P ae 22 fD) kq&&(cj (aj P am 22 fD) kq&&true)))&&true) then(bD an ay bu bx aG) else none) (aO U (G 27 [bu,(.str [103,108,111,98,97,108])] U) λuR aa=>
 bO (some uR) (ab (b5 bu) λuS=>
 ab (aE P 63 uS 1) λqg=>
 ab (aj P aa 3 qg) λq8=>
 ab (aW P .add 3 true q8 (.int .i64 1)) λq9=>
 ab (b5 bu) λAV=>
 ab (aE P 63 AV 1) λiy=>
 a7 aa (aQ P aa 3 iy q9) λae=>
 aO ae (G 30 [bu] ae) λwx am=>
 ab (aE P 26 bx 1) λqh=>
 ab (aj P am 23 qh) λyu=>
 dv am (dK P (am).next 23 1 [(0,wx)]) λuT aB=>
 aO aB (fQ P aB [23,23] yu uT) λoI aG=>
 ab (aE P 26 bx 1) λNK=>
 a7 aG (aQ P aG 23 NK oI) λaP=>
 bif ((cj (aj P ae 23 qh) yu&&(cj (aj P am 23 qh) yu&&(cj (aj P aB 23 qh) yu&&true)))&&true) then(aO aP (G 31 [bu,(.str [59])] aP) λFK bq=>
 bD an ay bu bx bq) else none) (aO aa (G 27 [bu,(.str [102,117,110,99])] aa) λAX ae=>
 bO (some AX) (ab (b5 bu) λqi=>
 ab (aE P 63 qi 1) λFM=>
 ab (aj P ae 3 FM) λr4=>
 ab (aW P .add 3 true r4 (.int .i64 1)) λAh=>
 ab (b5 bu) λEP=>
 ab (aE P 63 EP 1) λCL=>
 a7 ae (aQ P ae 3 CL Ah) λam=>
 aO am (G 32 [bu] am) λAi aB=>
 ab (aE P 26 bx 2) λx9=>
 ab (aj P aB 24 x9) λr5=>
 dv aB (dK P (aB).next 24 1 [(0,Ai)]) λEQ aG=>
 aO aG (fQ P aG [24,24] r5 EQ) λER aP=>
 ab (aE P 26 bx 2) λES=>
 a7 aP (aQ P aP 24 ES ER) λbq=>
 bif ((cj (aj P am 24 x9) r5&&(cj (aj P aB 24 x9) r5&&(cj (aj P aG 24 x9) r5&&true)))&&true) then(bD an ay bu bx bq) else none) (aO ae (G 28 [bu,(.int .i64 2)] ae) λcF am=>
 bD an ay bu bx am))))
theorem aft(G:av)(N:Nat)(bD:I->I->I->I->J->O): ∀R H,cw P G N (Code.snd (Code.fst (Code.fst (Code.snd (Code.fst (Code.fst (Code.fst (Code.snd (Code.snd (Code.snd (Code.snd (Code.snd (c6 Tryz.f9))))))))))))) (λR H=>bD (R 2) (R 3) (R 6) (R 7) H) [(2,(λR H=>bD (R 2) (R 3) (R 6) (R 7) H)),(1,(λR H=>bD (R 2) (R 3) (R 6) (R 7) H)),(0,(λR H=>xD G N (R 2) (R 3) (R 6) (R 7) H))] (bY Tryz.f9) R H=rR G N bD (R 2) (R 3) (R 6) (R 7) (R 31) H:=by
 refine dj (aL _) λR H=> ?_
 delta rR;kernel_rfl
def Hs(G:av)(N:Nat)(bD:I->I->I->I->J->O)(an ay:I)(bu bx:I)(H:J):O:=
 aO H (G 25 [bu] H) λcz U=>
 aD cz true U (di bu) λc1 aa=>
 aD cz true aa (λq=>fk aa (G 26 [c1] aa) q) λdn ae=>
 aD cz true ae (bh (d8 P 57 dn 0)) λdt am=>
 aD cz true am (bh (aW P .neq 3 true dt (.int .i64 0))) λdc aB=>
 ab (cX cz (some dc) (some (.bool false))) λdT=>
 bO (some dT) (aO aB (G 27 [bu,(.str [114,101,99,111,114,100])] aB) λei aG=>
 aD ei true aG (bh (aE P 26 bx 0)) λej aP=>
 aD ei true aP (qr (aj P aP 22 ej)) λdW bq=>
 aD ei true bq (λq=>iu (dF P .empty .len [22] [dW]) (dF P bq .len [22] [dW]) q) λef bJ=>
 aD ei true bJ (bh (aW P .eql 3 true ef (.int .i64 12))) λfo co=>
 ab (cX ei (some fo) (some (.bool false))) λfv=>
 bO (some fv) (rR G N bD an ay bu bx fv co) (aO co (G 27 [bu,(.str [103,108,111,98,97,108])] co) λfU ds=>
 aD fU true ds (bh (aE P 26 bx 1)) λgM dV=>
 aD fU true dV (qr (aj P dV 23 gM)) λe4 eN=>
 aD fU true eN (λq=>iu (dF P .empty .len [23] [e4]) (dF P eN .len [23] [e4]) q) λgR fI=>
 aD fU true fI (bh (aW P .eql 3 true gR (.int .i64 8))) λgB f0=>
 ab (cX fU (some gB) (some (.bool false))) λhB=>
 bO (some hB) (rR G N bD an ay bu bx hB f0) (aO f0 (G 27 [bu,(.str [102,117,110,99])] f0) λh6 hk=>
 aD h6 true hk (bh (aE P 26 bx 2)) λhQ iv=>
 aD h6 true iv (qr (aj P iv 24 hQ)) λgk hZ=>
 aD h6 true hZ (λq=>iu (dF P .empty .len [24] [gk]) (dF P hZ .len [24] [gk]) q) λjU mv=>
 aD h6 true mv (bh (aW P .eql 3 true jU (.int .i64 16))) λjV jq=>
 ab (cX h6 (some jV) (some (.bool false))) λj_=>
 rR G N bD an ay bu bx j_ jq))) (xD G N an ay bu bx aB)
def vK(G:av)(N:Nat):Nat->I->I->I->I->J->O
 |0,_,_,_,_,_=>none
 |n+1,an,ay,bu,bx,H=>Hs G N (vK G N n) an ay bu bx H
theorem afr(G:av)(N:Nat)(bD:I->I->I->I->J->O): ∀R H,cw P G N (Code.fst (Code.fst (Code.fst (Code.snd (Code.snd (Code.snd (Code.snd (Code.snd (c6 Tryz.f9))))))))) (λR H=>bD (R 2) (R 3) (R 6) (R 7) H) [(0,(λR H=>xD G N (R 2) (R 3) (R 6) (R 7) H))] (bY Tryz.f9) R H=Hs G N bD (R 2) (R 3) (R 6) (R 7) H:=by
 refine dj ((bk ad ((fy ad ((fy ad ((bk ad (aft G N bD) (aL _))))))) (aL _))) λR H=> ?_
 delta Hs;generalize xD G N=a1;generalize rR G N bD=l8;revert a1 l8;refine id ?_;intro a1 l8;kernel_rfl
def jN(G:av)(N:Nat)(Y:I)(H:J):O:=
 cy H [I.ap,I.ap,I.ap] λan U=>
 cy U [(.int .i64 0),(.int .i64 0)] λay aa=>
 aO aa (G 24 [Y] aa) λcq ae=>
 ab (gT cq 0) λb1=>
 ab (gT cq 1) λcb=>
 cy ae [(.int .i64 0),(.int .i64 0)] λbb am=>
 a7 am (aQ P am 29 bb cb) λaB=>
 ab (aE P 29 bb 0) λb6=>
 ab (aj P aB 27 b6) λbT=>
 ab (aW P .neq 27 true bT (.int .i64 0)) λbW=>
 bO (some bW) (a7 aB (aQ P aB 26 an (.agg [I.ap,I.ap,I.ap])) λaG=>
 ab (aj P aG 29 bb) λcc=>
 a7 aG (aQ P aG 29 ay cc) λaP=>
 bif ((cj (aj P aB 29 bb) cc&&(cj (aj P aG 29 bb) cc&&true))&&true) then(ab (aj P aP 26 an) λr=>
 ab (aj P aP 29 ay) λmz=>
 some (.tuple [r,mz],aP)) else none) (ab (cO P 63 [(0,b1)]) λcM=>
 dv aB (eK (aB).next cM) λcA aG=>
 cy aG [I.ap,I.ap,I.ap] λbx aP=>
 vK G N N an ay cA bx aP)
theorem al1(G:av)(N:Nat)(Y:I)(H:J):bn Tryz.f9 G N (cB [Y]) H=jN G N Y H:=by
 refine cL (A:=bn Tryz.f9 G N) ((bk ad ((bk ad ((bk ad ((bk ad ((bk ad ((bk ad (afs G N) ((fy ad ((gg (k:=λm R H=>vK G N m (R 2) (R 3) (R 6) (R 7) H) ad (λR H=>ad) (λm=>afr G N (vK G N m)))))))) (aL _))) (aL _))) (aL _))) (aL _))) (aL _))) ?_;delta jN;generalize vK G N N=a1;revert a1;refine id ?_;intro a1;kernel_rfl
theorem anh(N:Nat){Y:I}{H:J}{r:I×J}(h:jN (aq P ao) N Y H=some r):aq P ao 9 [Y] H=some r:=
 cQ ad Tryz.func9 ad ad ad ((al1 (aq P ao) N Y H).trans h)
def vm(G:av)(N:Nat)(Y an ay:I)(H:J):O:=
 aO H (G 31 [Y,(.str [125])] H) λgb U=>
 ab (aj P U 41 ay) λgM=>
 a7 U (aQ P U 41 an gM) λaa=>
 ab (aj P aa 41 an) λr=>
 some (r,aa)
theorem adJ(G:av)(N:Nat): ∀R H,cw P G N (Code.snd (Code.snd (Code.snd (Code.snd (Code.snd (c6 Tryz.f29)))))) (bY Tryz.f29) [] (bY Tryz.f29) R H=vm G N (R 0) (R 2) (R 3) H:=by
 refine dj (aL _) λR H=> ?_
 delta vm;kernel_rfl
def G3(G:av)(N:Nat)(bD:I->I->I->J->O)(Y an ay:I)(H:J):O:=
 aO H (G 25 [Y] H) λbT U=>
 aD bT true U (di Y) λbG aa=>
 aD bT true aa (λq=>fk aa (G 27 [bG,(.str [125])] aa) q) λcc ae=>
 aD bT true ae (bh (eY .not cc)) λcK am=>
 ab (cX bT (some cK) (some (.bool false))) λcM=>
 bO (some cM) (aO am (G 26 [Y] am) λcx aB=>
 ab (d8 P 57 cx 0) λcz=>
 ab (aW P .eql 3 true cz (.int .i64 1)) λcH=>
 aD cH true aB (bh (aE P 41 ay 1)) λdn aG=>
 aD cH true aG (qr (aj P aG 23 dn)) λdt aP=>
 aD cH true aP (λq=>iu (dF P .empty .len [23] [dt]) (dF P aP .len [23] [dt]) q) λdc bq=>
 aD cH true bq (bh (aW P .eql 3 true dc (.int .i64 8))) λdT bJ=>
 ab (cX cH (some dT) (some (.bool false))) λdJ=>
 bO (some dJ) (aO bJ (G 28 [Y,(.int .i64 4)] bJ) λeC co=>
 vm G N Y an ay co) (aO bJ (G 30 [Y] bJ) λej co=>
 ab (aE P 41 ay 1) λdy=>
 ab (aj P co 23 dy) λei=>
 dv co (dK P (co).next 23 1 [(0,ej)]) λdW ds=>
 aO ds (fQ P ds [23,23] ei dW) λef dV=>
 ab (aE P 41 ay 1) λfo=>
 a7 dV (aQ P dV 23 fo ef) λeN=>
 bif ((cj (aj P bJ 23 dy) ei&&(cj (aj P co 23 dy) ei&&(cj (aj P ds 23 dy) ei&&true)))&&true) then(aO eN (G 31 [Y,(.str [59])] eN) λfi fI=>
 bD Y an ay fI) else none)) (vm G N Y an ay am)
def xi(G:av)(N:Nat):Nat->I->I->I->J->O
 |0,_,_,_,_=>none
 |n+1,Y,an,ay,H=>G3 G N (xi G N n) Y an ay H
theorem adI(G:av)(N:Nat)(bD:I->I->I->J->O): ∀R H,cw P G N (Code.fst (Code.fst (Code.fst (Code.snd (Code.snd (Code.snd (Code.snd (c6 Tryz.f29)))))))) (λR H=>bD (R 0) (R 2) (R 3) H) [(0,(λR H=>vm G N (R 0) (R 2) (R 3) H))] (bY Tryz.f29) R H=G3 G N bD (R 0) (R 2) (R 3) H:=by
 refine dj (aL _) λR H=> ?_
 delta G3;generalize vm G N=a1;revert a1;refine id ?_;intro a1;kernel_rfl
def IE(G:av)(N:Nat)(Y:I)(H:J):O:=
 cy H [(.str []),I.ap,(.int .i64 0)] λan U=>
 aO U (G 26 [Y] U) λbb aa=>
 ab (d8 P 57 bb 3) λbu=>
 ab (cO P 41 [(2,bu)]) λbx=>
 cy aa [(.str []),I.ap,(.int .i64 0)] λay ae=>
 a7 ae (aQ P ae 41 ay bx) λam=>
 aO am (G 59 [Y] am) λbE aB=>
 ab (aE P 41 ay 0) λcq=>
 a7 aB (aQ P aB 9 cq bE) λaG=>
 aO aG (G 31 [Y,(.str [123])] aG) λcb aP=>
 xi G N N Y an ay aP
theorem aiY(G:av)(N:Nat)(Y:I)(H:J):bn Tryz.f29 G N (cB [Y]) H=IE G N Y H:=by
 refine cL (A:=bn Tryz.f29 G N) ((bk ad ((bk ad ((bk ad ((bk ad ((bk ad (adJ G N) ((fy ad ((gg (k:=λm R H=>xi G N m (R 0) (R 2) (R 3) H) ad (λR H=>ad) (λm=>adI G N (xi G N m)))))))) (aL _))) (aL _))) (aL _))) (aL _))) ?_;delta IE;generalize xi G N N=a1;revert a1;refine id ?_;intro a1;kernel_rfl
theorem ak1(N:Nat){Y:I}{H:J}{r:I×J}(h:IE (aq P ao) N Y H=some r):aq P ao 29 [Y] H=some r:=
 cQ ad Tryz.func29 ad ad ad ((aiY (aq P ao) N Y H).trans h)
def IF(G:av)(Y:I)(H:J):O:=
 cy H [(.str []),(.str []),(.int .i64 0),(.int .i64 0)] λan U=>
 aO U (G 26 [Y] U) λbb aa=>
 ab (d8 P 57 bb 3) λbu=>
 ab (cO P 66 [(2,bu)]) λbx=>
 cy aa [(.str []),(.str []),(.int .i64 0),(.int .i64 0)] λay ae=>
 a7 ae (aQ P ae 66 ay bx) λam=>
 aO am (G 59 [Y] am) λbE aB=>
 ab (aE P 66 ay 0) λcq=>
 a7 aB (aQ P aB 9 cq bE) λaG=>
 aO aG (G 31 [Y,(.str [58])] aG) λcb aP=>
 aO aP (G 60 [Y] aP) λbT bq=>
 ab (aE P 66 ay 1) λbW=>
 a7 bq (aQ P bq 43 bW bT) λbJ=>
 ab (aj P bJ 66 ay) λbG=>
 a7 bJ (aQ P bJ 66 an bG) λco=>
 ab (aj P co 66 an) λr=>
 some (r,co)
theorem aiZ(G:av)(N:Nat)(Y:I)(H:J):bn Tryz.f30 G N (cB [Y]) H=IF G Y H:=by
 refine cL (A:=bn Tryz.f30 G N) (aL _) ?_;delta IF;kernel_rfl
theorem ak2(N:Nat){Y:I}{H:J}{r:I×J}(h:IF (aq P ao) Y H=some r):aq P ao 30 [Y] H=some r:=
 cQ ad Tryz.func30 ad ad ad ((aiZ (aq P ao) N Y H).trans h)
def zp(G:av)(N:Nat)(Y an ay:I)(H:J):O:=
 aO H (G 61 [Y] H) λnM U=>
 ab (aE P 46 ay 4) λkS=>
 a7 U (aQ P U 44 kS nM) λaa=>
 ab (aj P aa 46 ay) λl7=>
 a7 aa (aQ P aa 46 an l7) λae=>
 ab (aj P ae 46 an) λr=>
 some (r,ae)
theorem adM(G:av)(N:Nat): ∀R H,cw P G N (Code.snd (Code.snd (Code.snd (Code.snd (Code.snd (Code.snd (Code.snd (c6 Tryz.f32)))))))) (bY Tryz.f32) [] (bY Tryz.f32) R H=zp G N (R 0) (R 2) (R 3) H:=by
 refine dj (aL _) λR H=> ?_
 delta zp;kernel_rfl
def tR(G:av)(N:Nat)(Y an ay:I)(H:J):O:=
 aO H (G 31 [Y,(.str [41])] H) λh6 U=>
 aO U (G 27 [Y,(.str [58])] U) λhQ aa=>
 bO (some hQ) (ab (b5 Y) λjU=>
 ab (aE P 63 jU 1) λjV=>
 ab (aj P aa 3 jV) λj_=>
 ab (aW P .add 3 true j_ (.int .i64 1)) λlr=>
 ab (b5 Y) λsj=>
 ab (aE P 63 sj 1) λkR=>
 a7 aa (aQ P aa 3 kR lr) λae=>
 ab (aE P 46 ay 2) λl5=>
 a7 ae (aQ P ae 4 l5 (.bool true)) λam=>
 aO am (G 60 [Y] am) λoH aB=>
 ab (aE P 46 ay 3) λiV=>
 a7 aB (aQ P aB 43 iV oH) λaG=>
 zp G N Y an ay aG) (zp G N Y an ay aa)
theorem adL(G:av)(N:Nat): ∀R H,cw P G N (Code.snd (Code.snd (Code.snd (Code.snd (Code.snd (c6 Tryz.f32)))))) (bY Tryz.f32) [] (bY Tryz.f32) R H=tR G N (R 0) (R 2) (R 3) H:=by
 refine dj ((bk ad ((bk ad (adM G N) (aL _))) (aL _))) λR H=> ?_
 delta tR;generalize zp G N=a1;revert a1;refine id ?_;intro a1;kernel_rfl
def G4(G:av)(N:Nat)(hC:I->I->I->J->O)(Y an ay:I)(H:J):O:=
 aO H (G 25 [Y] H) λbT U=>
 aD bT true U (di Y) λbG aa=>
 aD bT true aa (λq=>fk aa (G 27 [bG,(.str [41])] aa) q) λcc ae=>
 aD bT true ae (bh (eY .not cc)) λcK am=>
 ab (cX bT (some cK) (some (.bool false))) λcM=>
 bO (some cM) (aO am (G 26 [Y] am) λcx aB=>
 ab (d8 P 57 cx 0) λcz=>
 ab (aW P .eql 3 true cz (.int .i64 1)) λcH=>
 aD cH true aB (bh (aE P 46 ay 1)) λdn aG=>
 aD cH true aG (qr (aj P aG 23 dn)) λdt aP=>
 aD cH true aP (λq=>iu (dF P .empty .len [23] [dt]) (dF P aP .len [23] [dt]) q) λdc bq=>
 aD cH true bq (bh (aW P .eql 3 true dc (.int .i64 6))) λdT bJ=>
 ab (cX cH (some dT) (some (.bool false))) λdJ=>
 bO (some dJ) (aO bJ (G 28 [Y,(.int .i64 4)] bJ) λeC co=>
 tR G N Y an ay co) (aO bJ (G 30 [Y] bJ) λej co=>
 ab (aE P 46 ay 1) λdy=>
 ab (aj P co 23 dy) λei=>
 dv co (dK P (co).next 23 1 [(0,ej)]) λdW ds=>
 aO ds (fQ P ds [23,23] ei dW) λef dV=>
 ab (aE P 46 ay 1) λfo=>
 a7 dV (aQ P dV 23 fo ef) λeN=>
 bif ((cj (aj P bJ 23 dy) ei&&(cj (aj P co 23 dy) ei&&(cj (aj P ds 23 dy) ei&&true)))&&true) then(aO eN (G 27 [Y,(.str [41])] eN) λfi fI=>
 ab (eY .not fi) λfU=>
 bO (some fU) (aO fI (G 31 [Y,(.str [44])] fI) λgM f0=>
 aO f0 (G 27 [Y,(.str [41])] f0) λgR hk=>
 bO (some gR) (aO hk (G 28 [Y,(.int .i64 2)] hk) λhB iv=>
 hC Y an ay iv) (hC Y an ay hk)) (hC Y an ay fI)) else none)) (tR G N Y an ay am)
def tS(G:av)(N:Nat):Nat->I->I->I->J->O
 |0,_,_,_,_=>none
 |n+1,Y,an,ay,H=>G4 G N (tS G N n) Y an ay H
theorem adK(G:av)(N:Nat)(hC:I->I->I->J->O): ∀R H,cw P G N (Code.fst (Code.fst (Code.fst (Code.snd (Code.snd (Code.snd (Code.snd (c6 Tryz.f32)))))))) (λR H=>hC (R 0) (R 2) (R 3) H) [(0,(λR H=>tR G N (R 0) (R 2) (R 3) H))] (bY Tryz.f32) R H=G4 G N hC (R 0) (R 2) (R 3) H:=by
 refine dj (aL _) λR H=> ?_
 delta G4;generalize tR G N=a1;revert a1;refine id ?_;intro a1;kernel_rfl
def IG(G:av)(N:Nat)(Y:I)(H:J):O:=
 cy H [(.str []),I.ap,(.bool false),(.str []),(.int .i64 0),I.ap,(.int .i64 0)] λan U=>
 aO U (G 26 [Y] U) λbb aa=>
 ab (d8 P 57 bb 3) λbu=>
 ab (cO P 46 [(5,bu)]) λbx=>
 cy aa [(.str []),I.ap,(.bool false),(.str []),(.int .i64 0),I.ap,(.int .i64 0)] λay ae=>
 a7 ae (aQ P ae 46 ay bx) λam=>
 aO am (G 59 [Y] am) λbE aB=>
 ab (aE P 46 ay 0) λcq=>
 a7 aB (aQ P aB 9 cq bE) λaG=>
 aO aG (G 31 [Y,(.str [40])] aG) λcb aP=>
 tS G N N Y an ay aP
theorem ai1(G:av)(N:Nat)(Y:I)(H:J):bn Tryz.f32 G N (cB [Y]) H=IG G N Y H:=by
 refine cL (A:=bn Tryz.f32 G N) ((bk ad ((bk ad ((bk ad ((bk ad ((bk ad (adL G N) ((fy ad ((gg (k:=λm R H=>tS G N m (R 0) (R 2) (R 3) H) ad (λR H=>ad) (λm=>adK G N (tS G N m)))))))) (aL _))) (aL _))) (aL _))) (aL _))) ?_;delta IG;generalize tS G N N=a1;revert a1;refine id ?_;intro a1;kernel_rfl
theorem ak4(N:Nat){Y:I}{H:J}{r:I×J}(h:IG (aq P ao) N Y H=some r):aq P ao 32 [Y] H=some r:=
 cQ ad Tryz.func32 ad ad ad ((ai1 (aq P ao) N Y H).trans h)
end
end
section
section
variable {H H':J}{r:Nat}{T:List Tok}{ak:I}{s s':aA}
theorem JR(h:c_ H r T ak s):W (aq P ao 30 [.ptr r 0 0] H) λv H'=>v= .agg (hV T s).1.cells/\cC r H H'/\c_ H' r T ak (hV T s).2:=by
 refine cP (λ_=>ak2 0) ?_;have az:=h.rd.lt;have en:=aR.push H (.row false 4 [[.str [],.str [],.int .i64 0,.int .i64 0]]);have ax:=J.ca H (.row false 4 [[.str [],.str [],.int .i64 0,.int .i64 0]]);simp-implicitDefEqProofs(disch:=try exact af) only[IF,bg,bL,List.length_cons,List.length_nil,Nat.zero_add,Nat.reduceAdd];refine a6 (nV (h.rd.aK en) (h.aK en).cf) ?_;rintro _ H1 ⟨rfl,aV⟩;refine⟨aV.1,?_⟩;have fB:=aV.1;simp only[J.b2] at fB;have U:=(h.aK en).aK aV;have dQ:=aV.get ax;unfold hV gh;generalize ar T s.at_=q;obtain⟨k,x,z,p⟩:=q;have aJ:=aR.push H1 (.row false 4 [[.str [],.str [],.int .i64 0,.int .i64 p]])
 have lZ:=J.ca H1 (.row false 4 [[.str [],.str [],.int .i64 0,.int .i64 p]]);simp-implicitDefEqProofs(disch:=try exact af) only[bg,bL,fH,aj,dx,aQ,dx,Nat.reduceAdd,Nat.reduceLeDiff,reduceIte,I.cells,eF,fu,dB,J.io,Tok.v];refine a6 (wJ (U.aK aJ)) ?_;rintro _ cT ⟨rfl,m3,ae⟩;refine⟨m3.1,?_⟩;have jC:=m3.1;simp only[J.b2] at jC;have eO:=m3.get (aJ.get dQ) Z;have mw:=m3.get lZ Z;have gS:=J.aX mw;generalize dk T s=o at ae ⊢;obtain⟨nm,iO⟩:=o;simp only at ae ⊢;have Fx:=((((en.mut (· =r)).trans (aV.mut _)).trans (aJ.mut _)).trans m3);have yj:=Fx.db (l:=H1.next) (.inr Z) (.row false 4 [[.str nm,.str [],.int .i64 0,.int .i64 p]])
 have am:=h.mut yj (show c7 _ r ak iO by unfold c7;rw[J.get_set_other Z];exact ae.rd);have fV:(cT.set H1.next (.row false 4 [[.str nm,.str [],.int .i64 0,.int .i64 p]])).get H.next=some (.row false 4 [[.str [],.str [],.int .i64 0,.int .i64 0]]):=by rw[J.get_set_other Z];exact eO
 have iI:(cT.set H1.next (.row false 4 [[.str nm,.str [],.int .i64 0,.int .i64 p]])).get H1.next=some (.row false 4 [[.str nm,.str [],.int .i64 0,.int .i64 p]]):=J.get_set_same gS
 simp-implicitDefEqProofs(disch:=try exact af) only[bg,bL,fH,aj,dx,aQ,dx,Nat.reduceAdd,Nat.reduceLeDiff,reduceIte,I.cells,eF,fu,dB,mw];refine a6 (lA am [58] (by simp)) ?_;rintro _ dp ⟨rfl,m5,aB⟩;refine⟨m5.1,?_⟩;have nS:=m5.1;simp only[J.e9] at nS;have gz:=m5.get fV Z;have jJ:=m5.get iI Z;generalize cr T [58] iO=mG at aB ⊢;simp-implicitDefEqProofs(disch:=try exact af) only[bg,bL];refine a6 (DN aB) ?_;rintro _ fW ⟨rfl,m6,aG⟩;refine⟨m6.1,?_⟩;have A8:=m6.1;have p_:=m6.get gz Z;have r_:=m6.get jJ Z;have FX:=J.aX p_;have aqL:=J.aX r_;generalize fm T mG=o at aG ⊢;obtain⟨⟨y,d⟩,Bb⟩:=o;simp only at aG ⊢
 have ao2:=(yj.trans m5).trans m6;have ao3:=ao2.db (l:=H1.next) (.inr Z) (.row false 4 [[.str nm,.str y,.int .i64 d,.int .i64 p]]);have Fy:=ao3.db (l:=H.next) (.inr (bN _)) (.row false 4 [[.str nm,.str y,.int .i64 d,.int .i64 p]]);simp-implicitDefEqProofs(disch:=try exact af) only[reduceAdd,reduceLeDiff,reduceIte,aw,p_,r_];exact a_.2 ⟨rfl,Fy,h.mut Fy (by unfold c7;rw[J.get_set_other Z,J.get_set_other Z];exact aG.rd)⟩
end
end
section
section
variable {H H' H1:J}{r:Nat}{T:List Tok}{ak:I}{s s':aA}
theorem c_.zU{s0:aA}(h:c_ H1 r T ak s0)(m:nP r H1.next H1 H')(bd:c7 H' r ak s'):c_ H' r T ak s':=
 ⟨bd,h.cf.bo λl ro els e=>m.get e (by
  have:=J.aX e;rintro(rfl|b0)
  ·rw[h.rd] at e;simp only[bF,dY.row.injEq] at e;omega
  ·omega)⟩
structure lu(H1 H:J)(r b c n2 esz:Nat)(T:List Tok)(ak:I)(z:List I)(x:I)(rest:List I)(l:List ec)(v:I)(s:aA):Prop where
 dm:c_ H r T ak s
 two:H.get b=some (.row false esz [z])
 cell:H.get c=some (.row false esz [x::v::rest])
 hD:fJ fz (bI n2) H l v
 m:nP r H1.next H1 H
 cR:r<H1.next
 dd:H1.next<=b
 nU:b<c
 dG:c<n2
 eM:n2<=H.next
variable {b c n2 esz:Nat}{z:List I}{x:I}{rest:List I}{l:List ec}{v:I}
theorem lu.mut(h:lu H1 H r b c n2 esz T ak z x rest l v s)(m:cC r H H')(dm:c_ H' r T ak s'):lu H1 H' r b c n2 esz T ak z x rest l v s':=by
 have cR:=h.cR;have dd:=h.dd;have dG:=h.dG;have eM:=h.eM;have nU:=h.nU;exact⟨dm,m.get h.two Z,m.get h.cell Z,h.hD.bo (eb.mut m λk ah=>by unfold bI at ah;omega),h.m.trans m.A7,cR,dd,nU,dG,by have:=m.1;omega⟩
theorem lu.add{s0:aA}(U:c_ H1 r T ak s0)(h:lu H1 H r b c n2 esz T ak z x rest l v s)(az:l.length<=1000000000)(p:ec):
  ∃dr H',fQ P (H.push (.row false 4 [p.cells])) [23,23] v (.aN H.next 0 1 4 (some 1))=some (dr,H')/\H.next+1<=H'.next/\dr.one=true/\H'.get c=some (.row false esz [x::v::rest])/\(H.push (.row false 4 [p.cells])).get c=some (.row false esz [x::v::rest])/\lu H1 (H'.set c (.row false esz [x::dr::rest])) r b c n2 esz T ak z x rest (l++[p]) dr s:=by
 have cR:=h.cR;have dd:=h.dd;have dG:=h.dG;have eM:=h.eM;have nU:=h.nU;obtain⟨dr,H',a,kt,q,d⟩:=h.hD.pm p (by unfold bI;omega) az;have gc:H'.get c=some (.row false esz [x::v::rest]):=by rw[d c Z (by unfold bI;omega)];exact h.cell
 have lc:=J.aX gc;have fK:nP r H1.next H1 (H'.set c (.row false esz [x::dr::rest])):=h.m.trans ⟨by simp;omega,λk ah aM=>by
  have Ay:k≠r:=λe=>aM (.inl e)
  have Fh: ¬H1.next<=k:=λe=>aM (.inr e)
  rw[J.get_set_other Z,d k ah (by unfold bI;omega)]⟩
 refine⟨dr,H',a,q,kt.one,gc,(aR.push _ _).get h.cell,?_,by rw[J.get_set_other Z,d b Z (by unfold bI;omega)];exact h.two,J.get_set_same lc,kt.bo λk x ah g=>⟨ah,by unfold bI at ah;rw[J.get_set_other Z];exact g⟩,fK,cR,dd,nU,dG,by simp;omega⟩;exact U.zU fK (by unfold c7;rw[J.get_set_other Z,d r Z (by unfold bI;omega)];exact h.dm.rd)
theorem OV{N:Nat}{Q:I->J->Prop}{nm:bl}{ew:Int}{s0:aA}(U:c_ H1 r T ak s0){l':List ec}
  (ek: ∀H v,lu H1 H r b c n2 3 T ak z (.str nm) [.int .i64 ew] l' v s'->W (vm (aq P ao) N (.ptr r 0 0) (.ptr b 0 0) (.ptr c 0 0) H) Q):
  ∀(n m:Nat) (H:J) (s:aA) (l:List ec) (v:I),n<m->l.length+n<=1000000000->lu H1 H r b c n2 3 T ak z (.str nm) [.int .i64 ew] l v s->wU T n l s=some (l',s')->W (xi (aq P ao) N m (.ptr r 0 0) (.ptr b 0 0) (.ptr c 0 0) H) Q
 |_,0,_,_,_,_,aU,_,_,_=>Z
 |0,m+1,_,_,_,_,_,_,_,al=>by cases al
 |n+1,m+1,H,s,l,v,aU,ax,h,al=>by
  rw[wU] at al;rw[xi];unfold G3;refine a6 (tB h.dm.rd) ?_;rintro _ bm ⟨rfl,rfl⟩;refine⟨bN _,?_⟩;by_cases aY:s.aC=0
  ·have ii:(s.aC==0)=true:=by simpa using aY
   simp-implicitDefEqProofs(disch:=try exact af) only[bg,bL,ii];refine gP (gO h.dm.rd h.dm.cf [125] (by simp)) ?_;rintro _ cT ⟨rfl,bB⟩;refine⟨bB.1,?_⟩;have ae:=h.mut (bB.mut _) (h.dm.aK bB);rw[ii,Bool.true_and] at al;cases ag:cd T s [125] with
   |true=>
    rw[ag] at al;cases al;simp-implicitDefEqProofs(disch:=try exact af) only[bg,bL,ii,Bool.not_true];exact ek _ _ ae
   |false=>
    rw[ag,Bool.not_false,bC] at al;simp-implicitDefEqProofs(disch:=try exact af) only[bg,bL,ii,Bool.not_false];refine a6 (nV ae.dm.rd ae.dm.cf) ?_;rintro _ ct ⟨rfl,bK⟩;refine⟨bK.1,?_⟩;have am:=ae.mut (bK.mut _) (ae.dm.aK bK);have je:=λH'=>am.hD.qN H'
    have cp:=am.hD.rd;have iI:=am.cell;have anb:=am.hD.one;have go:((ar T s.at_).kind==1&&l.length==8)=true->W (aO ct (aq P ao 28 [.ptr r 0 0,.int .i64 4] ct) λeC co=>vm (aq P ao) N (.ptr r 0 0) (.ptr b 0 0) (.ptr c 0 0) co) Q:=λhm=>by
     rw[hm,bC] at al;cases al;refine a6 (sw am.dm 4) ?_;rintro _ dp ⟨rfl,m5,iC⟩;exact⟨m5.1,ek _ _ (am.mut m5 iC)⟩
    have on:((ar T s.at_).kind==1&&l.length==8)=false->W (aO ct (aq P ao 30 [.ptr r 0 0] ct) λej co=>
      ab (aE P 41 (.ptr c 0 0) 1) λdy=>ab (aj P co 23 dy) λei=>dv co (dK P (co).next 23 1 [(0,ej)]) λdW ds=>aO ds (fQ P ds [23,23] ei dW) λef dV=>ab (aE P 41 (.ptr c 0 0) 1) λfo=>a7 dV (aQ P dV 23 fo ef) λeN=>
      bif ((cj (aj P ct 23 dy) ei&&(cj (aj P co 23 dy) ei&&(cj (aj P ds 23 dy) ei&&true)))&&true) then(aO eN (aq P ao 31 [.ptr r 0 0,.str [59]] eN) λfi fI=>xi (aq P ao) N m (.ptr r 0 0) (.ptr b 0 0) (.ptr c 0 0) fI) else none) Q:=λhm=>by
     rw[hm,bj] at al;refine a6 (JR am.dm) ?_;rintro _ fW ⟨rfl,m6,wC⟩;refine⟨m6.1,?_⟩;have aG:=am.mut m6 wC;have r_:=aG.cell;have z1:=aG.hD.rd;generalize hV T s=q at aG al;obtain⟨p,Bb⟩:=q;obtain⟨dr,fX,hg,pk,im,aI,bc,aP⟩:=aG.add U Z p;have ff:=uc vJ fW.next (cs:=p.cells) rfl rfl
     have uB:(fW.push (.row false 4 [p.cells])).next<=fX.next:=by simp only[J.b2];exact pk
     have hr:=kb im;simp only[I.cells] at hr;simp-implicitDefEqProofs(disch:=try exact af) only[bg,bL,fH,aj,dx,aQ,dx,Nat.reduceAdd,Nat.reduceLeDiff,reduceIte,I.cells,eF,fu,dB,hr,r_,ff,hg,kx,aI,bc,im,z1,iI];refine a6 (lA aP.dm [59] (by simp)) ?_;rintro _ jX ⟨rfl,m8,N8⟩;refine⟨m8.1,?_⟩;exact OV U ek n m jX _ _ dr Z (by simp;omega) (aP.mut m8 N8) al
    cases ah:(ar T s.at_).kind==1 with
    |true=>
     rw[ah] at go on;cases az:l.length==8 with
     |true=>
      have dD:((l.length:Int)==8)=true:=by
       have:l.length=8:=by simpa using az
       simp;omega
      rw[az] at go;simp-implicitDefEqProofs(disch:=try exact af) only[reduceAdd,reduceLeDiff,reduceIte,aw,Tok.v,iI,je,ah,dD];exact go rfl
     |false=>
      have dD:((l.length:Int)==8)=false:=by
       have:l.length≠8:=by simpa using az
       simp;omega
      rw[az] at on;simp-implicitDefEqProofs(disch:=try exact af) only[reduceAdd,reduceLeDiff,reduceIte,aw,Tok.v,iI,je,ah,dD];exact on rfl
    |false=>
     rw[ah] at on;simp-implicitDefEqProofs(disch:=try exact af) only[reduceAdd,reduceLeDiff,reduceIte,aw,Tok.v,iI,je,ah];exact on rfl
  ·have ii:(s.aC==0)=false:=by simpa using aY
   rw[ii] at al;cases al;simp-implicitDefEqProofs(disch:=try exact af) only[bg,bL,ii];exact ek _ _ h
end
end
section
section
variable {H H' H1:J}{r:Nat}{T:List Tok}{ak:I}{s s':aA}
theorem nP.mt(m:nP r H.next H H'):cC r H H':=⟨m.1,λl az aM=>m.2 l az λe=>by
 rcases e with e|e
 ·exact aM e
 ·omega⟩
theorem aal{n:Nat}(aU:n<=1000000000)(h:c_ H r T ak s){x:jY}(al:yT T n s=some (x,s')):W (aq P ao 29 [.ptr r 0 0] H) λv H'=>(∃cs,v= .agg cs/\gA.V H' (bI H.next) x cs)/\cC r H H'/\c_ H' r T ak s':=by
 refine cP (λ_=>ak1 (n+1)) ?_;have az:=h.rd.lt;unfold yT at al;obtain⟨⟨l',mG⟩,wc,we⟩:=eW.1 al;simp only[bF,dw] at we;obtain⟨rfl,rfl⟩:=we;have en:=aR.push H (.row false 3 [[.str [],.ap,.int .i64 0]]);have ax:=J.ca H (.row false 3 [[.str [],.ap,.int .i64 0]]);simp-implicitDefEqProofs(disch:=try exact af) only[IE,bg,bL,List.length_cons,List.length_nil,Nat.zero_add,Nat.reduceAdd];refine a6 (nV (h.rd.aK en) (h.aK en).cf) ?_;rintro _ H1 ⟨rfl,aV⟩;refine⟨aV.1,?_⟩;have fB:=aV.1;simp only[J.b2] at fB;have U:=(h.aK en).aK aV;have dQ:=aV.get ax;generalize ar T s.at_=q;obtain⟨k,x,z,p⟩:=q;have aJ:=aR.push H1 (.row false 3 [[.str [],.ap,.int .i64 p]])
 have lZ:=J.ca H1 (.row false 3 [[.str [],.ap,.int .i64 p]]);simp-implicitDefEqProofs(disch:=try exact af) only[bg,bL,fH,aj,dx,aQ,dx,Nat.reduceAdd,Nat.reduceLeDiff,reduceIte,I.cells,eF,fu,dB,J.io,Tok.v];refine a6 (wJ (U.aK aJ)) ?_;rintro _ cT ⟨rfl,m3,ae⟩;refine⟨m3.1,?_⟩;have jC:=m3.1;simp only[J.b2] at jC;have eO:=m3.get (aJ.get dQ) Z;have mw:=m3.get lZ Z;have gS:=J.aX mw;generalize dk T s=o at ae wc ⊢;obtain⟨nm,iO⟩:=o;simp only at ae wc ⊢;have Fx:=((((en.mut (· =r)).trans (aV.mut _)).trans (aJ.mut _)).trans m3);have yj:=Fx.db (l:=H1.next) (.inr Z) (.row false 3 [[.str nm,.ap,.int .i64 p]]);have am:=h.mut yj (show c7 _ r ak iO by unfold c7;rw[J.get_set_other Z];exact ae.rd)
 have fV:(cT.set H1.next (.row false 3 [[.str nm,.ap,.int .i64 p]])).get H.next=some (.row false 3 [[.str [],.ap,.int .i64 0]]):=by rw[J.get_set_other Z];exact eO
 have iI:(cT.set H1.next (.row false 3 [[.str nm,.ap,.int .i64 p]])).get H1.next=some (.row false 3 [[.str nm,.ap,.int .i64 p]]):=J.get_set_same gS
 simp-implicitDefEqProofs(disch:=try exact af) only[bg,bL,fH,aj,dx,aQ,dx,Nat.reduceAdd,Nat.reduceLeDiff,reduceIte,I.cells,eF,fu,dB,mw];refine a6 (lA am [123] (by simp)) ?_;rintro _ dp ⟨rfl,m5,aB⟩;refine⟨m5.1,?_⟩;have nS:=m5.1;simp only[J.e9] at nS;have gz:=m5.get fV Z;have jJ:=m5.get iI Z;have oJ:lu H dp r H.next H1.next dp.next 3 T ak [.str [],.ap,.int .i64 0] (.str nm) [.int .i64 p] [] .ap (cr T [123] iO):=⟨aB,gz,jJ,.nil,cC.A7 (yj.trans m5),az,bN _,Z,Z,bN _⟩
 refine OV h (s':=mG) (l':=l') (λfW v aG=> ?_) n (n+1) dp _ [] .ap (Nat.lt_succ_self _) (by simpa using aU) oJ wc;unfold vm;refine a6 (lA aG.dm [125] (by simp)) ?_;rintro _ fX ⟨rfl,m7,iD⟩;refine⟨m7.1,?_⟩;have aP:=aG.mut m7 iD;have s6:=aP.two;have an4:=aP.cell;have F1:=aP.hD.one;have aqP:=J.aX s6;have hr:=kb F1;simp only[I.cells] at hr;have Fy:nP r H.next H (fX.set H.next (.row false 3 [[.str nm,v,.int .i64 p]])):=aP.m.db (.inr (bN _)) _
 have bq:=h.zU Fy (s':=cr T [125] mG) (by unfold c7;rw[J.get_set_other Z];exact aP.dm.rd);have r8:fJ fz (bI H.next) (fX.set H.next (.row false 3 [[.str nm,v,.int .i64 p]])) l' v:=aP.hD.bo λk x ah g=>⟨by unfold bI at ah ⊢;omega,by have:=aP.eM;unfold bI at ah;rw[J.get_set_other Z];exact g⟩
 simp-implicitDefEqProofs(disch:=try exact af) only[bg,bL,fH,aj,dx,aQ,dx,Nat.reduceAdd,Nat.reduceLeDiff,reduceIte,I.cells,eF,fu,dB,s6,an4,F1];exact a_.2 ⟨⟨_,rfl,v,rfl,r8.aN⟩,Fy.mt,bq⟩
end
end
section
set_option maxRecDepth 100000
noncomputable section
def zy(G:av)(N:Nat)(Y ay:I)(H:J):O:=
 aO H (G 85 [Y,(.str [125])] H) λcM U=>
 some (ay,U)
theorem aee(G:av)(N:Nat): ∀R H,cw P G N (Code.snd (Code.snd (Code.snd (Code.snd (c6 Tryz.f61))))) (bY Tryz.f61) [] (bY Tryz.f61) R H=zy G N (R 0) (R 3) H:=by
 refine dj (aL _) λR H=> ?_
 delta zy;kernel_rfl
def G5(G:av)(N:Nat)(bD:I->I->J->O)(Y ay:I)(H:J):O:=
 aO H (G 25 [Y] H) λbx U=>
 aD bx true U (di Y) λbE aa=>
 aD bx true aa (λq=>fk aa (G 27 [bE,(.str [125])] aa) q) λcq ae=>
 aD bx true ae (bh (eY .not cq)) λb1 am=>
 ab (cX bx (some b1) (some (.bool false))) λcb=>
 bO (some cb) (aO am (G 84 [Y] am) λbW aB=>
 dv aB (dK P (aB).next 44 1 [(0,bW)]) λbG aG=>
 aO aG (fQ P aG [44,44] ay bG) λcc aP=>
 bD Y cc aP) (zy G N Y ay am)
def zz(G:av)(N:Nat):Nat->I->I->J->O
 |0,_,_,_=>none
 |n+1,Y,ay,H=>G5 G N (zz G N n) Y ay H
theorem aed(G:av)(N:Nat)(bD:I->I->J->O): ∀R H,cw P G N (Code.fst (Code.fst (Code.fst (Code.snd (Code.snd (Code.snd (c6 Tryz.f61))))))) (λR H=>bD (R 0) (R 3) H) [(0,(λR H=>zy G N (R 0) (R 3) H))] (bY Tryz.f61) R H=G5 G N bD (R 0) (R 3) H:=by
 refine dj (aL _) λR H=> ?_
 delta G5;generalize zy G N=a1;revert a1;refine id ?_;intro a1;kernel_rfl
def IQ(G:av)(N:Nat)(Y:I)(H:J):O:=
 aO H (G 83 [Y,(.str [123])] H) λbb U=>
 zz G N N Y I.ap U
theorem ajq(G:av)(N:Nat)(Y:I)(H:J):bn Tryz.f61 G N (cB [Y]) H=IQ G N Y H:=by
 refine cL (A:=bn Tryz.f61 G N) ((bk ad ((bk ad ((bk ad ((bk ad (aee G N) ((fy ad ((gg (k:=λm R H=>zz G N m (R 0) (R 3) H) ad (λR H=>ad) (λm=>aed G N (zz G N m)))))))) (aL _))) (aL _))) (aL _))) ?_;delta IQ;generalize zz G N N=a1;revert a1;refine id ?_;intro a1;kernel_rfl
theorem alu(N:Nat){Y:I}{H:J}{r:I×J}(h:IQ (aq P ao) N Y H=some r):aq P ao 61 [Y] H=some r:=
 cQ ad Tryz.func61 ad ad ad ((ajq (aq P ao) N Y H).trans h)
def lH(G:av)(an ba:I)(H:J):O:=
 ab (aj P H 98 ba) λanq=>
 a7 H (aQ P H 98 an anq) λU=>
 ab (aj P U 98 an) λr=>
 some (r,U)
theorem aet(G:av)(N:Nat): ∀R H,cw P G N (Code.snd (Code.snd (Code.snd (Code.snd (c6 Tryz.f84))))) (bY Tryz.f84) [] (bY Tryz.f84) R H=lH G (R 2) (R 4) H:=by
 refine dj (aL _) λR H=> ?_
 delta lH;kernel_rfl
def zD(G:av)(Y an ba:I)(H:J):O:=
 aO H (G 31 [Y,(.str [59])] H) λgR U=>
 lH G an ba U
theorem aev(G:av)(N:Nat): ∀R H,cw P G N (Code.snd (Code.snd (Code.snd (Code.snd (Code.snd (Code.snd (Code.fst (Code.snd (Code.fst (Code.fst (Code.snd (Code.snd (Code.snd (c6 Tryz.f84)))))))))))))) (λR H=>lH G (R 2) (R 4) H) [(0,(λR H=>lH G (R 2) (R 4) H))] (bY Tryz.f84) R H=zD G (R 0) (R 2) (R 4) H:=by
 refine dj (aL _) λR H=> ?_
 delta zD;generalize lH G=a1;revert a1;refine id ?_;intro a1;kernel_rfl
def zE(G:av)(Y an ba:I)(H:J):O:=
 aO H (G 31 [Y,(.str [59])] H) λH3 U=>
 lH G an ba U
theorem aew(G:av)(N:Nat): ∀R H,cw P G N (Code.snd (Code.snd (Code.snd (Code.fst (Code.snd (Code.snd (Code.snd (Code.snd (Code.snd (Code.snd (Code.snd (Code.fst (Code.fst (Code.snd (Code.snd (Code.snd (c6 Tryz.f84))))))))))))))))) (λR H=>lH G (R 2) (R 4) H) [(0,(λR H=>lH G (R 2) (R 4) H))] (bY Tryz.f84) R H=zE G (R 0) (R 2) (R 4) H:=by
 refine dj (aL _) λR H=> ?_
 delta zE;generalize lH G=a1;revert a1;refine id ?_;intro a1;kernel_rfl
def vA(G:av)(Y an:I)(ay ba b6:I)(H:J):O:=
 bO (some b6) (ab (b5 Y) λcM=>
 ab (aE P 63 cM 1) λcA=>
 ab (aj P H 3 cA) λcx=>
 ab (aW P .add 3 true cx (.int .i64 1)) λcz=>
 ab (b5 Y) λcH=>
 ab (aE P 63 cH 1) λc1=>
 a7 H (aQ P H 3 c1 cz) λU=>
 ab (aE P 98 ba 0) λdn=>
 a7 U (aQ P U 3 dn (.int .i64 1)) λaa=>
 aO aa (G 59 [Y] aa) λdc ae=>
 ab (aE P 98 ba 1) λdT=>
 a7 ae (aQ P ae 9 dT dc) λam=>
 aO am (G 31 [Y,(.str [58])] am) λcF aB=>
 aO aB (G 60 [Y] aB) λdy aG=>
 ab (aE P 98 ba 2) λei=>
 a7 aG (aQ P aG 43 ei dy) λaP=>
 ab (aE P 57 ay 1) λfh=>
 ab (aj P aP 9 fh) λej=>
 ab (aW P .eql 9 true ej (.str [108,101,116])) λdW=>
 bO (some dW) (ab (aE P 98 ba 0) λef=>
 a7 aP (aQ P aP 3 ef (.int .i64 2)) λbq=>
 aO bq (G 31 [Y,(.str [61])] bq) λfv bJ=>
 aO bJ (G 109 [Y,(.int .i64 0)] bJ) λfU co=>
 dv co (dK P (co).next 96 1 [(0,fU)]) λgb ds=>
 ab (aE P 98 ba 3) λgM=>
 a7 ds (aQ P ds 96 gM gb) λdV=>
 zD G Y an ba dV) (zD G Y an ba aP)) (aO H (G 27 [Y,(.str [105,102])] H) λjy U=>
 bO (some jy) (ab (b5 Y) λix=>
 ab (aE P 63 ix 1) λhQ=>
 ab (aj P U 3 hQ) λgk=>
 ab (aW P .add 3 true gk (.int .i64 1)) λjU=>
 ab (b5 Y) λjV=>
 ab (aE P 63 jV 1) λj_=>
 a7 U (aQ P U 3 j_ jU) λaa=>
 ab (aE P 98 ba 0) λlr=>
 a7 aa (aQ P aa 3 lr (.int .i64 5)) λae=>
 aO ae (G 109 [Y,(.int .i64 0)] ae) λkR am=>
 dv am (dK P (am).next 96 1 [(0,kR)]) λl5 aB=>
 ab (aE P 98 ba 3) λjW=>
 a7 aB (aQ P aB 96 jW l5) λaG=>
 aO aG (G 61 [Y] aG) λiV aP=>
 ab (aE P 98 ba 4) λl6=>
 a7 aP (aQ P aP 44 l6 iV) λbq=>
 aO bq (G 27 [Y,(.str [101,108,115,101])] bq) λkS bJ=>
 bO (some kS) (ab (b5 Y) λnb=>
 ab (aE P 63 nb 1) λfD=>
 ab (aj P bJ 3 fD) λkq=>
 ab (aW P .add 3 true kq (.int .i64 1)) λAT=>
 ab (b5 Y) λnN=>
 ab (aE P 63 nN 1) λph=>
 a7 bJ (aQ P bJ 3 ph AT) λco=>
 aO co (G 61 [Y] co) λnO ds=>
 ab (aE P 98 ba 5) λww=>
 a7 ds (aQ P ds 44 ww nO) λdV=>
 lH G an ba dV) (lH G an ba bJ)) (aO U (G 27 [Y,(.str [119,104,105,108,101])] U) λAU aa=>
 bO (some AU) (ab (b5 Y) λqg=>
 ab (aE P 63 qg 1) λq8=>
 ab (aj P aa 3 q8) λq9=>
 ab (aW P .add 3 true q9 (.int .i64 1)) λAV=>
 ab (b5 Y) λiy=>
 ab (aE P 63 iy 1) λqh=>
 a7 aa (aQ P aa 3 qh AV) λae=>
 ab (aE P 98 ba 0) λyu=>
 a7 ae (aQ P ae 3 yu (.int .i64 6)) λam=>
 aO am (G 109 [Y,(.int .i64 0)] am) λwx aB=>
 dv aB (dK P (aB).next 96 1 [(0,wx)]) λuT aG=>
 ab (aE P 98 ba 3) λoI=>
 a7 aG (aQ P aG 96 oI uT) λaP=>
 aO aP (G 61 [Y] aP) λAW bq=>
 ab (aE P 98 ba 4) λFK=>
 a7 bq (aQ P bq 44 FK AW) λbJ=>
 lH G an ba bJ) (aO aa (G 27 [Y,(.str [114,101,116,117,114,110])] aa) λAX ae=>
 bO (some AX) (ab (b5 Y) λqi=>
 ab (aE P 63 qi 1) λFM=>
 ab (aj P ae 3 FM) λr4=>
 ab (aW P .add 3 true r4 (.int .i64 1)) λAh=>
 ab (b5 Y) λEP=>
 ab (aE P 63 EP 1) λCL=>
 a7 ae (aQ P ae 3 CL Ah) λam=>
 ab (aE P 98 ba 0) λx9=>
 a7 am (aQ P am 3 x9 (.int .i64 7)) λaB=>
 aO aB (G 27 [Y,(.str [59])] aB) λMA aG=>
 ab (eY .not MA) λAi=>
 bO (some Ai) (aO aG (G 109 [Y,(.int .i64 0)] aG) λER aP=>
 dv aP (dK P (aP).next 96 1 [(0,ER)]) λES bq=>
 ab (aE P 98 ba 3) λET=>
 a7 bq (aQ P bq 96 ET ES) λbJ=>
 zE G Y an ba bJ) (zE G Y an ba aG)) (aO ae (G 27 [Y,(.str [112,114,105,110,116])] ae) λEU am=>
 bO (some EU) (ab (b5 Y) λvY=>
 ab (aE P 63 vY 1) λEV=>
 ab (aj P am 3 EV) λEW=>
 ab (aW P .add 3 true EW (.int .i64 1)) λMB=>
 ab (b5 Y) λMC=>
 ab (aE P 63 MC 1) λann=>
 a7 am (aQ P am 3 ann MB) λaB=>
 ab (aE P 98 ba 0) λano=>
 a7 aB (aQ P aB 3 ano (.int .i64 8)) λaG=>
 aO aG (G 109 [Y,(.int .i64 0)] aG) λEX aP=>
 dv aP (dK P (aP).next 96 1 [(0,EX)]) λEY bq=>
 ab (aE P 98 ba 3) λMD=>
 a7 bq (aQ P bq 96 MD EY) λbJ=>
 aO bJ (G 31 [Y,(.str [59])] bJ) λaqi co=>
 lH G an ba co) (ab (aj P am 98 ba) λb1=>
 aO am (G 110 [Y,b1] am) λcb aB=>
 a7 aB (aQ P aB 98 an cb) λaG=>
 ab (aj P aG 98 an) λr=>
 some (r,aG))))))
theorem aeu(G:av)(N:Nat): ∀R H,cw P G N (Code.snd (Code.fst (Code.fst (Code.snd (Code.snd (Code.snd (c6 Tryz.f84))))))) (λR H=>lH G (R 2) (R 4) H) [(0,(λR H=>lH G (R 2) (R 4) H))] (bY Tryz.f84) R H=vA G (R 0) (R 2) (R 3) (R 4) (R 13) H:=by
 refine dj ((qw ad ((bk ad ((bk ad ((bk ad ((bk ad ((bk ad ((bk ad (aev G N) (aL _))) (aL _))) (aL _))) (aL _))) (aL _))) (aL _))) ((bk ad ((qw ad (aL _) ((bk ad ((qw ad (aL _) ((bk ad ((qw ad ((bk ad ((bk ad ((bk ad (aew G N) (aL _))) (aL _))) (aL _))) (aL _))) (aL _))))) (aL _))))) (aL _))))) λR H=> ?_
 delta vA;generalize zE G=a1;generalize lH G=l8;generalize zD G=Zj;revert a1 l8 Zj;refine id ?_;intro a1 l8 Zj;kernel_rfl
def FF(G:av)(Y:I)(H:J):O:=
 cy H [(.int .i64 0),(.str []),(.str []),(.int .i64 0),I.ap,I.ap,I.ap,(.int .i64 0),(.int .i64 0)] λan U=>
 aO U (G 26 [Y] U) λbu aa=>
 cy aa [(.int .i64 0),(.str []),(.int .i64 0),(.int .i64 0)] λay ae=>
 a7 ae (aQ P ae 57 ay bu) λam=>
 ab (aE P 57 ay 3) λbx=>
 ab (aj P am 3 bx) λbS=>
 ab (cO P 98 [(6,bS)]) λbE=>
 cy am [(.int .i64 0),(.str []),(.str []),(.int .i64 0),I.ap,I.ap,I.ap,(.int .i64 0),(.int .i64 0)] λba aB=>
 a7 aB (aQ P aB 98 ba bE) λaG=>
 aO aG (G 27 [Y,(.str [118,97,114])] aG) λbW aP=>
 bO (some bW) (vA G Y an ay ba bW aP) (aO aP (G 27 [Y,(.str [108,101,116])] aP) λcc bq=>
 vA G Y an ay ba cc bq)
theorem ajL(G:av)(N:Nat)(Y:I)(H:J):bn Tryz.f84 G N (cB [Y]) H=FF G Y H:=by
 refine cL (A:=bn Tryz.f84 G N) ((bk ad ((bk ad ((bk ad ((bk ad (aet G N) ((fy ad ((bk ad (aeu G N) (aL _))))))) (aL _))) (aL _))) (aL _))) ?_;delta FF;generalize vA G=a1;revert a1;refine id ?_;intro a1;kernel_rfl
theorem alP(N:Nat){Y:I}{H:J}{r:I×J}(h:FF (aq P ao) Y H=some r):aq P ao 84 [Y] H=some r:=
 cQ ad Tryz.func84 ad ad ad ((ajL (aq P ao) N Y H).trans h)
def w1(G:av)(Y ay:I)(ba bb:I)(H:J):O:=
 aO H (G 31 [Y,(.str [61])] H) λe4 U=>
 aO U (G 109 [Y,(.int .i64 0)] U) λgB aa=>
 cy aa [(.int .i64 0),(.int .i64 0),(.str []),(.str []),(.int .i64 0),I.ap,(.int .i64 0),(.int .i64 0),(.int .i64 0),(.int .i64 0),(.int .i64 0)] λbu ae=>
 a7 ae (aQ P ae 103 bu gB) λam=>
 aO am (G 31 [Y,(.str [59])] am) λjy aB=>
 ab (aE P 103 bb 0) λh6=>
 ab (aj P aB 3 h6) λix=>
 ab (aW P .eql 3 true ix (.int .i64 4)) λhQ=>
 bO (some hQ) (ab (aE P 98 ay 0) λgk=>
 a7 aB (aQ P aB 3 gk (.int .i64 3)) λaG=>
 ab (aE P 103 bb 2) λjU=>
 ab (aj P aG 9 jU) λjV=>
 ab (aE P 98 ay 1) λj_=>
 a7 aG (aQ P aG 9 j_ jV) λaP=>
 ab (aj P aP 103 bu) λlr=>
 dv aP (dK P (aP).next 96 1 [(0,lr)]) λsj bq=>
 ab (aE P 98 ay 3) λkR=>
 a7 bq (aQ P bq 96 kR sj) λbJ=>
 ab (aj P bJ 98 ay) λl5=>
 a7 bJ (aQ P bJ 98 ba l5) λco=>
 ab (aj P co 98 ba) λr=>
 some (r,co)) (ab (aE P 98 ay 0) λjW=>
 a7 aB (aQ P aB 3 jW (.int .i64 4)) λaG=>
 ab (aj P aG 103 bb) λoH=>
 ab (aj P aG 103 bu) λiV=>
 dv aG (dK P (aG).next 96 2 [(0,oH),(1,iV)]) λl6 aP=>
 ab (aE P 98 ay 3) λnM=>
 a7 aP (aQ P aP 96 nM l6) λbq=>
 ab (aj P bq 98 ay) λkS=>
 a7 bq (aQ P bq 98 ba kS) λbJ=>
 ab (aj P bJ 98 ba) λr=>
 some (r,bJ))
theorem ab3(G:av)(N:Nat): ∀R H,cw P G N (Code.snd (Code.snd (Code.snd (Code.snd (c6 Tryz.f110))))) (bY Tryz.f110) [] (bY Tryz.f110) R H=w1 G (R 0) (R 3) (R 4) (R 5) H:=by
 refine dj (aL _) λR H=> ?_
 delta w1;kernel_rfl
def BK(G:av)(Y ay:I)(ba bb:I)(H:J):O:=
 ab (aE P 103 bb 0) λdT=>
 ab (aj P H 3 dT) λdJ=>
 ab (aW P .neq 3 true dJ (.int .i64 4)) λcF=>
 aD cF true H (bh (aE P 103 bb 0)) λdy U=>
 aD cF true U (qr (aj P U 3 dy)) λei aa=>
 aD cF true aa (bh (aW P .neq 3 true ei (.int .i64 5))) λfh ae=>
 ab (cX cF (some fh) (some (.bool false))) λej=>
 aD ej true ae (bh (aE P 103 bb 0)) λef am=>
 aD ej true am (qr (aj P am 3 ef)) λfo aB=>
 aD ej true aB (bh (aW P .neq 3 true fo (.int .i64 6))) λfv aG=>
 ab (cX ej (some fv) (some (.bool false))) λfi=>
 bO (some fi) (aO aG (G 28 [Y,(.int .i64 2)] aG) λgb aP=>
 w1 G Y ay ba bb aP) (w1 G Y ay ba bb aG)
theorem ab2(G:av)(N:Nat): ∀R H,cw P G N (Code.snd (Code.snd (Code.snd (c6 Tryz.f110)))) (bY Tryz.f110) [] (bY Tryz.f110) R H=BK G (R 0) (R 3) (R 4) (R 5) H:=by
 refine dj ((bk ad (ab3 G N) (aL _))) λR H=> ?_
 delta BK;generalize w1 G=a1;revert a1;refine id ?_;intro a1;kernel_rfl
def w2(G:av)(Y ay ba:I)(H:J):O:=
 aO H (G 31 [Y,(.str [59])] H) λdt U=>
 ab (aj P U 98 ay) λdc=>
 a7 U (aQ P U 98 ba dc) λaa=>
 ab (aj P aa 98 ba) λr=>
 some (r,aa)
theorem ab4(G:av)(N:Nat): ∀R H,cw P G N (Code.snd (Code.snd (Code.snd (Code.fst (Code.snd (Code.fst (Code.snd (Code.snd (c6 Tryz.f110))))))))) (λR H=>BK G (R 0) (R 3) (R 4) (R 5) H) [] (bY Tryz.f110) R H=w2 G (R 0) (R 3) (R 4) H:=by
 refine dj (aL _) λR H=> ?_
 delta w2;kernel_rfl
def r0(G:av)(Y ai:I)(H:J):O:=
 dv H (eK (H).next ai) λay U=>
 cy U [(.int .i64 0),(.str []),(.str []),(.int .i64 0),I.ap,I.ap,I.ap,(.int .i64 0),(.int .i64 0)] λba aa=>
 aO aa (G 109 [Y,(.int .i64 0)] aa) λbS ae=>
 cy ae [(.int .i64 0),(.int .i64 0),(.str []),(.str []),(.int .i64 0),I.ap,(.int .i64 0),(.int .i64 0),(.int .i64 0),(.int .i64 0),(.int .i64 0)] λbb am=>
 a7 am (aQ P am 103 bb bS) λaB=>
 aO aB (G 27 [Y,(.str [61])] aB) λcq aG=>
 ab (eY .not cq) λb1=>
 bO (some b1) (ab (aE P 98 ay 0) λcb=>
 a7 aG (aQ P aG 3 cb (.int .i64 9)) λaP=>
 ab (aj P aP 103 bb) λb6=>
 dv aP (dK P (aP).next 96 1 [(0,b6)]) λbT bq=>
 ab (aE P 98 ay 3) λbW=>
 a7 bq (aQ P bq 96 bW bT) λbJ=>
 aO bJ (G 27 [Y,(.str [59])] bJ) λcc co=>
 aD cc true co (bh (aE P 103 bb 0)) λcM ds=>
 aD cc true ds (qr (aj P ds 3 cM)) λcA dV=>
 aD cc true dV (bh (aW P .neq 3 true cA (.int .i64 7))) λcx eN=>
 ab (cX cc (some cx) (some (.bool false))) λcz=>
 bO (some cz) (aO eN (G 28 [Y,(.int .i64 2)] eN) λc1 fI=>
 w2 G Y ay ba fI) (w2 G Y ay ba eN)) (BK G Y ay ba bb aG)
theorem agi(G:av)(N:Nat)(Y:I)(ai:I)(H:J):bn Tryz.f110 G N (cB [Y,ai]) H=r0 G Y ai H:=by
 refine cL (A:=bn Tryz.f110 G N) ((bk ad ((bk ad ((bk ad (ab2 G N) ((bk ad ((qw ad ((bk ad ((bk ad ((bk ad (ab4 G N) (aL _))) (aL _))) (aL _))) (aL _))) (aL _))))) (aL _))) (aL _))) ?_;delta r0;generalize BK G=a1;generalize w2 G=l8;revert a1 l8;refine id ?_;intro a1 l8;kernel_rfl
theorem ahQ(N:Nat){Y ai:I}{H:J}{r:I×J}(h:r0 (aq P ao) Y ai H=some r):aq P ao 110 [Y,ai] H=some r:=
 cQ ad Tryz.func110 ad ad ad ((agi (aq P ao) N Y ai H).trans h)
end
end
section
theorem Bs{H:J}{r:Nat}{T:List Tok}{ak:I}{s:aA}(aH:T.length<=20000000)(ag:c_ H r T ak s):W (aq P ao 109 [.ptr r 0 0,.int .i64 0] H) (hn H r T ak (dE T s).1 (dE T s).2):=by
 obtain⟨p,q,-,aa,-,-⟩:=Gv (T:=T) Z T.length s (DR _ _) 0 800000000 800000000 Z Z Z;have:dE T s=q:=by simp only[dE,aa]
 rw[this];exact(Sk 800000000 Z 800000000 (bN _)).expr ag 0 Z q.1 q.2 aa
theorem abR{H0 H:J}{r:Nat}{T:List Tok}{ak:I}{s0 s:aA}(bs:c_ H0 r T ak s0)(bP:cC r H0 H)(cp:c7 H r ak s){a:dH}{es:List bp}{ev:I}(ah:dP H (bI (H0.next+2)) es ev)(g3:H.get H0.next=some (.row false 9 [a.cells ev .ap .ap]))(g4:H.get (H0.next+1)=some (.row false 9 [[.int .i64 0,.str [],.str [],.int .i64 0,.ap,.ap,.ap,.int .i64 0,.int .i64 0]])):
  W (w2 (aq P ao) (.ptr r 0 0) (.ptr H0.next 0 0) (.ptr (H0.next+1) 0 0) H) (gJ H0 r T ak (.mk a es [] []) (cr T [59] s)):=by
 have az:=bs.rd.lt;have N2:=J.aX g4;have bt:=ah.gi;rw[w2];refine a6 (lA (bs.mut bP cp) [59] (by simp)) ?_;rintro _ H1 ⟨rfl,m1,du⟩;refine⟨m1.1,?_⟩;have ae:=m1.get g3 Z;have am:=m1.get g4 Z;have h7:=J.aX am;simp only[dH.cells] at ae;simp-implicitDefEqProofs(disch:=try exact af) only[r0,reduceAdd,reduceLeDiff,reduceIte,aw,d_,ae,am,bt];exact a_.2 (gJ.fin (a:=a) bs (bP.trans m1) du.rd (ah.bo (e_.mut m1 (by unfold bI;omega) λ_ h=>h)) (ez.nil _ _) (ez.nil _ _) Z (lo:=H0.next+2) Z _)
theorem gJ.two{H ct dR:J}{r:Nat}{T:List Tok}{ak:I}{s s':aA}{a:dH}{es:List bp}{ev:I}(ag:c_ H r T ak s)(sn:cC r H ct)(bd:c7 ct r ak s')(aU:ct.next<=dR.next)(al: ∀l,l<ct.next->l≠H.next->l≠H.next+1->dR.get l=ct.get l)
  (ah:e_ ct (bI (H.next+2)) dR (bI H.next)->dP dR (bI H.next) es ev):gJ H r T ak (.mk a es [] []) s' (.agg (a.cells ev .ap .ap)) dR:=by
 have az:=ag.rd.lt;have am:=sn.1;have m:cC r H dR:=⟨Z,λl U aa=>by rw[al l Z Z Z];exact sn.2 l U aa⟩;refine⟨m,ag.mut m ?_,rz.2 ⟨ev,.ap,.ap,rfl,ah λl ro els h g=>⟨by unfold bI at*;omega,?_⟩,ez.nil _ _,ez.nil _ _⟩⟩
 ·have:=bd.lt;unfold c7 at bd ⊢;rw[al r Z Z Z];exact bd
 ·have:=J.aX g;unfold bI at h;rw[al l Z Z Z];exact g
theorem adn{H0 H:J}{r:Nat}{T:List Tok}{ak:I}{s0 s:aA}(aH:T.length<=20000000)(bs:c_ H0 r T ak s0)(bP:cC r H0 H)(cp:c7 H r ak s){pos:Int}{a:f6}{bQ:List bp}{kv:I}{b:Nat}(he:ea H (λl=>H0.next+2<=l/\l<b) (.mk a bQ) (.agg (a.cells kv)))(ax:H0.next+2<=b)
  (g3:H.get H0.next=some (.row false 9 [dH.cells {kind:=0,pos:=pos} .ap .ap .ap])) (g4:H.get (H0.next+1)=some (.row false 9 [[.int .i64 0,.str [],.str [],.int .i64 0,.ap,.ap,.ap,.int .i64 0,.int .i64 0]])) (g5:H.get b=some (.row false 11 [a.cells kv])):
  W (w1 (aq P ao) (.ptr r 0 0) (.ptr H0.next 0 0) (.ptr (H0.next+1) 0 0) (.ptr b 0 0) H) (gJ H0 r T ak (cE.at pos (bif a.kind==4 then .mk {kind:=3,name:=a.name} [(dE T (cr T [61] s)).1] [] [] else .mk {kind:=4} [.mk a bQ,(dE T (cr T [61] s)).1] [] [])) (cr T [59] (dE T (cr T [61] s)).2)):=by
 have az:=bs.rd.lt;have aoS:=J.aX g5;rw[w1];refine a6 (lA (bs.mut bP cp) [61] (by simp)) ?_;rintro _ H1 ⟨rfl,m1,du⟩;refine⟨m1.1,?_⟩;have fB:=m1.1;generalize cr T [61] s=s1 at du ⊢;simp-implicitDefEqProofs(disch:=try exact af) only[r0,reduceAdd,reduceLeDiff,reduceIte,aw,d_];refine a6 (Bs aH du) ?_;rintro v bm ⟨m2,cJ,bA⟩;refine⟨m2.1,?_⟩;have n2:=m2.1;obtain⟨cs,rfl,bM,cR⟩:=bA.cells;generalize dE T s1=bc at cJ bA ⊢;simp-implicitDefEqProofs(disch:=try exact af) only[r0,reduceAdd,reduceLeDiff,reduceIte,aw,d_,bM,cR,List.append_nil];have bB:=aR.push bm (.row false 11 [cs]);refine a6 (lA (cJ.aK bB) [59] (by simp)) ?_
 rintro _ ct ⟨rfl,m4,fa⟩;refine⟨m4.1,?_⟩;have mF:=m4.1;simp only[J.b2] at mF;have oJ:=cJ.rd.lt;have dL:=m4.get (bB.get (m2.get (m1.get g3 Z) Z)) Z;have gf:=m4.get (bB.get (m2.get (m1.get g4 Z) Z)) Z;have tt:=m4.get (bB.get (m2.get (m1.get g5 Z) Z)) Z;have j0:=m4.get (J.ca bm (.row false 11 [cs])) Z;have aoU:=J.aX dL;have Nx:=J.aX gf;have m24:=(bB.mut (· =r)).trans m4;have sn:=(((bP.trans m1).trans m2).trans m24);have t1:List.take 11 cs=cs:=List.take_of_length_le Z;have Fj:=bA.mut (ok':=bI (H0.next+2)) m24 (by unfold bI;have:=du.rd.lt;omega) λl h=>by unfold bI at*;omega
 have jc:ea ct (bI (H0.next+2)) (.mk a bQ) (.agg (a.cells kv)):=he.mut ((m1.trans m2).trans m24) Z λl h=>by unfold bI;omega
 obtain⟨Nv,wh,M_⟩:=lD.1 he;have Ev:=M_.gi;have ik:Nv=kv:=by
  have:=congrArg (λv=>match v with|I.agg cs=>cs[5]? |_=>none) wh;simpa [f6.cells] using this.symm
 rw[ik] at Ev;have A9:(a.cells kv).all I.one=true:=by simp only[f6.cells,List.all_cons,List.all_nil,iF,jO,Ev,Bool.and_self]
 simp only[dH.cells] at dL;cases ah:a.kind==4 with
 |true=>
  have aM: ∀l,dK P l 96 1 [(0,.agg cs)]=some (.aN l 0 1 11 (some 1),.row false 11 [cs]):=λl=>jP l cs bM cR
  simp only[f6.cells] at tt;simp-implicitDefEqProofs(disch:=try exact af) only[r0,reduceAdd,reduceLeDiff,reduceIte,aw,d_,dL,gf,tt,j0,ah,t1,aM,J.io];refine a_.2 (gJ.two (a:={kind:=3,name:=a.name,pos:=pos}) bs sn fa.rd ?_ ?_ λk=>dP.qF (ro:=false) ?_ (by unfold bI;omega) (ea.bo k _ _ Fj))
  ·simp only[J.b2,J.e9];omega
  ·intro l cD cu eH;simp-implicitDefEqProofs(disch:=try exact af) only[dB]
  ·simp-implicitDefEqProofs(disch:=try exact af) only[dB]
 |false=>
  have aM: ∀l,dK P l 96 2 [(0,.agg (a.cells kv)),(1,.agg cs)]=some (.aN l 0 2 11 (some 2),.row false 11 [a.cells kv,cs]):=λl=>B7 l (a.cells kv) cs rfl A9 bM cR
  have YO:=tt;simp only[f6.cells] at YO aM;simp-implicitDefEqProofs(disch:=try exact af) only[r0,reduceAdd,reduceLeDiff,reduceIte,aw,d_,dL,gf,YO,j0,ah,t1,aM,J.io];refine a_.2 (gJ.two (a:={kind:=4,pos:=pos}) bs sn fa.rd ?_ ?_ λk=>dP.B8 (ro:=false) ?_ (by unfold bI;omega) (ea.bo k _ _ jc) (ea.bo k _ _ Fj))
  ·simp only[J.b2,J.e9];omega
  ·intro l cD cu eH;simp-implicitDefEqProofs(disch:=try exact af) only[dB]
  ·simp-implicitDefEqProofs(disch:=try exact af) only[dB,f6.cells]
theorem aaZ{H:J}{r:Nat}{T:List Tok}{ak:I}{s:aA}(aH:T.length<=20000000)(ag:c_ H r T ak s)(pos:Int):W (aq P ao 110 [.ptr r 0 0,.agg (dH.cells {kind:=0,pos:=pos} .ap .ap .ap)] H) (gJ H r T ak ((qG T s).1.at pos) (qG T s).2):=by
 refine cP (λ_=>ahQ 0) ?_;have az:=ag.rd.lt;have ij: ∀l,eK l (.agg (dH.cells {kind:=0,pos:=pos} .ap .ap .ap))=some (.ptr l 0 0,.row false 9 [dH.cells {kind:=0,pos:=pos} .ap .ap .ap]):=λl=>h8 l _ rfl
 have aV:=(aR.push H (.row false 9 [dH.cells {kind:=0,pos:=pos} .ap .ap .ap])).bX (.row false 9 [[.int .i64 0,.str [],.str [],.int .i64 0,.ap,.ap,.ap,.int .i64 0,.int .i64 0]]);simp-implicitDefEqProofs(disch:=try exact af) only[r0,reduceAdd,reduceLeDiff,reduceIte,aw,d_,ij];refine a6 (Bs aH (ag.aK aV)) ?_;rintro v bm ⟨m2,cJ,he⟩;refine⟨m2.1,?_⟩;have n2:=m2.1;simp only[J.b2] at n2;unfold qG;obtain⟨cs,rfl,bM,cR⟩:=he.cells;have t1:List.take 11 cs=cs:=List.take_of_length_le Z;have g3:bm.get H.next=some (.row false 9 [dH.cells {kind:=0,pos:=pos} .ap .ap .ap]):=m2.get (by simp-implicitDefEqProofs(disch:=try exact af) only[dB]) Z
 have g4:=m2.get (J.ca (H.push (.row false 9 [dH.cells {kind:=0,pos:=pos} .ap .ap .ap])) (.row false 9 [[.int .i64 0,.str [],.str [],.int .i64 0,.ap,.ap,.ap,.int .i64 0,.int .i64 0]])) (by simp only[J.b2];omega);simp only[J.b2] at g4;generalize dE T s=bc at cJ he ⊢;simp-implicitDefEqProofs(disch:=try exact af) only[r0,reduceAdd,reduceLeDiff,reduceIte,aw,d_,bM,cR,List.append_nil];have bB:=aR.push bm (.row false 11 [cs]);refine a6 (gO (cJ.rd.aK bB) (cJ.cf.aK bB) [61] (by simp)) ?_;rintro _ ct ⟨rfl,bK⟩;refine⟨bK.1,?_⟩;have mF:=bK.1;simp only[J.b2] at mF;have pf:=bB.trans bK;have dL:=pf.get g3;have gf:=pf.get g4
 have jB:=bK.get (J.ca bm (.row false 11 [cs]));have aoU:=J.aX dL;have aqT:=J.aX jB;have jc:ea ct (λl=>H.next+2<=l/\l<bm.next) bc.1 (.agg cs):=ea.bo (e_.aK pf λl h=>by simpa only[bI,J.b2] using h) _ _ he.below;have bP:=((aV.mut (· =r)).trans m2).trans (pf.mut _);have fa:=cJ.aK pf;cases ax:cd T bc.2 [61] with
 |true=>
  simp-implicitDefEqProofs(disch:=try exact af) only[r0,reduceAdd,reduceLeDiff,reduceIte,aw,d_,Bool.not_true];unfold Ht;have fin: ∀(dp:J) (a:f6) (bQ:List bp) (kv:I),ea dp (λl=>H.next+2<=l/\l<bm.next) (.mk a bQ) (.agg (a.cells kv))->cC r H dp->c7 dp r ak (bif jH (.mk a bQ) then cS T 2 bc.2 else bc.2)->dp.get H.next=some (.row false 9 [dH.cells {kind:=0,pos:=pos} .ap .ap .ap])->dp.get (H.next+1)=some (.row false 9 [[.int .i64 0,.str [],.str [],.int .i64 0,.ap,.ap,.ap,.int .i64 0,.int .i64 0]])->dp.get bm.next=some (.row false 11 [a.cells kv])->
    W (w1 (aq P ao) (.ptr r 0 0) (.ptr H.next 0 0) (.ptr (H.next+1) 0 0) (.ptr bm.next 0 0) dp) (gJ H r T ak (cE.at pos (bif (bp.mk a bQ).kind==4 then .mk {kind:=3,name:=(bp.mk a bQ).name} [(dE T (oA T (.mk a bQ) bc.2)).1] [] [] else .mk {kind:=4} [.mk a bQ,(dE T (oA T (.mk a bQ) bc.2)).1] [] [])) (cr T [59] (dE T (oA T (.mk a bQ) bc.2)).2)):=
   λdp a bQ kv h m5 d5 eH eE eR=>adn aH ag m5 d5 h Z eH eE eR
  rcases fR:bc.1 with⟨a,bQ⟩;rw[fR] at jc;obtain⟨kv,jb,-⟩:=lD.1 jc;simp only[I.agg.injEq] at jb;subst jb;have C6:=jB;simp only[f6.cells] at C6;simp-implicitDefEqProofs(disch:=try exact af) only[BK,reduceAdd,reduceLeDiff,reduceIte,aw,C6];have L5:=λ(h:jH (.mk a bQ)=false)=>fin ct a bQ kv jc bP (by rw[h];exact fa.rd) dL gf jB
  cases eE:(a.kind != 4) with
  |false=>
   simp-implicitDefEqProofs(disch:=try exact af) only[reduceAdd,reduceLeDiff,reduceIte,aw,C6];exact L5 (by simp only[jH,bp.kind,eE,Bool.false_and])
  |true=>
   cases eR:(a.kind != 5) with
   |false=>
    simp-implicitDefEqProofs(disch:=try exact af) only[reduceAdd,reduceLeDiff,reduceIte,aw,C6,eR];exact L5 (by simp only[jH,bp.kind,eE,eR,Bool.false_and,Bool.and_false])
   |true=>
    cases gI:(a.kind != 6) with
    |false=>
     simp-implicitDefEqProofs(disch:=try exact af) only[reduceAdd,reduceLeDiff,reduceIte,aw,C6,eR,gI];exact L5 (by simp only[jH,bp.kind,eE,eR,gI,Bool.and_false])
    |true=>
     simp-implicitDefEqProofs(disch:=try exact af) only[reduceAdd,reduceLeDiff,reduceIte,aw,C6,eR,gI];refine a6 (sw fa 2) ?_;rintro _ dp ⟨rfl,m5,fg⟩;refine⟨m5.1,?_⟩;exact fin dp a bQ kv (jc.mut m5 Z λ_ h=>h) (bP.trans m5) (by rw[show jH (.mk a bQ)=true by simp only[jH,bp.kind,eE,eR,gI,Bool.and_self]];exact fg.rd) (m5.get dL Z) (m5.get gf Z) (m5.get jB Z)
 |false=>
  have aM: ∀l,dK P l 96 1 [(0,.agg cs)]=some (.aN l 0 1 11 (some 1),.row false 11 [cs]):=λl=>jP l cs bM cR
  have Ft:=dL;simp only[dH.cells] at Ft;simp-implicitDefEqProofs(disch:=try exact af) only[r0,reduceAdd,reduceLeDiff,reduceIte,aw,d_,Bool.not_false,Ft,gf,jB,t1,aM,J.io];have al: ∀l,l<ct.next->l≠H.next->((ct.set H.next (.row false 9 [dH.cells {kind:=9,pos:=pos} (.aN ct.next 0 1 11 (some 1)) .ap .ap])).push (.row false 11 [cs])).get l=ct.get l:=λl U aa=>by simp-implicitDefEqProofs(disch:=try exact af) only[dB]
  have m5:cC r H ((ct.set H.next (.row false 9 [dH.cells {kind:=9,pos:=pos} (.aN ct.next 0 1 11 (some 1)) .ap .ap])).push (.row false 11 [cs])):=(bP.db (.inr (bN _)) _).bX _;have d5:c7 ((ct.set H.next (.row false 9 [dH.cells {kind:=9,pos:=pos} (.aN ct.next 0 1 11 (some 1)) .ap .ap])).push (.row false 11 [cs])) r ak bc.2:=by
   have h:=fa.rd;have:=h.lt;unfold c7 at h ⊢;rw[al r Z Z];exact h
  have Nw:dP ((ct.set H.next (.row false 9 [dH.cells {kind:=9,pos:=pos} (.aN ct.next 0 1 11 (some 1)) .ap .ap])).push (.row false 11 [cs])) (bI (H.next+2)) [bc.1] (.aN ct.next 0 1 11 (some 1)):=
   dP.qF (ro:=false) (by simp-implicitDefEqProofs(disch:=try exact af) only[dB]) (by unfold bI;omega) (ea.bo (λl ro els h g=>⟨by unfold bI;omega,by rw[al l Z Z];exact g⟩) _ _ jc)
  have eH:((ct.set H.next (.row false 9 [dH.cells {kind:=9,pos:=pos} (.aN ct.next 0 1 11 (some 1)) .ap .ap])).push (.row false 11 [cs])).get H.next=some (.row false 9 [dH.cells {kind:=9,pos:=pos} (.aN ct.next 0 1 11 (some 1)) .ap .ap]):=by simp-implicitDefEqProofs(disch:=try exact af) only[dB]
  have eE:=(al (H.next+1) Z Z).trans gf;have eR:=(al bm.next Z Z).trans jB;simp only[dH.cells] at m5 d5 Nw eH eE eR;generalize (ct.set H.next (.row false 9 [[I.int .i64 9,.str [],.str [],.int .i64 0,.aN ct.next 0 1 11 (some 1),.ap,.ap,.int .i64 pos,.int .i64 0]])).push (.row false 11 [cs])=dp at m5 d5 Nw eH eE eR ⊢;have fg:=ag.mut m5 d5;refine a6 (gO d5 fg.cf [59] (by simp)) ?_;rintro _ fW ⟨rfl,fc⟩;refine⟨fc.1,?_⟩;have fin: ∀(fX:J) (pr:aA),cC r fW fX->c7 fX r ak pr->W (w2 (aq P ao) (.ptr r 0 0) (.ptr H.next 0 0) (.ptr (H.next+1) 0 0) fX) (gJ H r T ak (.mk {kind:=9,pos:=pos} [bc.1] [] []) (cr T [59] pr)):=λfX pr m7 d7=>
   abR ag ((m5.trans (fc.mut _)).trans m7) d7 (Nw.bo (e_.mut ((fc.mut _).trans m7) (by unfold bI;omega) λ_ h=>h)) (m7.get (fc.get eH) Z) (m7.get (fc.get eE) Z)
  have hO:=fg.aK fc;cases Ib:cd T bc.2 [59] with
  |false=>
   simp-implicitDefEqProofs(disch:=try exact af) only[reduceAdd,reduceLeDiff,reduceIte,aw];simp only[Bool.false_and,bj];exact fin fW _ (dC.refl _ _) hO.rd
  |true=>
   have gI:=fc.get eR;rcases fR:bc.1 with⟨a,bQ⟩;rw[fR] at jc fin;obtain⟨kv,jb,-⟩:=lD.1 jc;simp only[I.agg.injEq] at jb;subst jb;simp only[f6.cells] at gI;cases ah:(a.kind != 7) with
   |false=>
    simp-implicitDefEqProofs(disch:=try exact af) only[reduceAdd,reduceLeDiff,reduceIte,aw,gI,ah];simp only[bp.kind,ah,Bool.and_false,bj];exact fin fW _ (dC.refl _ _) hO.rd
   |true=>
    simp-implicitDefEqProofs(disch:=try exact af) only[reduceAdd,reduceLeDiff,reduceIte,aw,gI,ah];simp only[bp.kind,ah,Bool.and_self,bC];refine a6 (sw hO 2) ?_;rintro _ fX ⟨rfl,m7,oE⟩;refine⟨m7.1,?_⟩;exact fin fX _ m7 oE.rd
end
section
def GG(n:Nat):Prop:= ∀{H:J} {r:Nat} {T:List Tok} {ak:I} {s:aA},T.length<=20000000->c_ H r T ak s-> ∀(e:cE) (s':aA),xG T n s=some (e,s')->W (aq P ao 84 [.ptr r 0 0] H) (gJ H r T ak e s')
def Gx(n:Nat):Prop:= ∀{H:J} {r:Nat} {T:List Tok} {ak:I} {s:aA},T.length<=20000000->c_ H r T ak s-> ∀(l:List cE) (s':aA),lE T n s=some (l,s')->W (aq P ao 61 [.ptr r 0 0] H) λv H'=>cC r H H'/\c_ H' r T ak s'/\ez H' (bI H.next) l v
theorem P6{M:Nat}{H0 H:J}{r:Nat}{T:List Tok}{ak:I}{s0 s:aA}(bs:c_ H0 r T ak s0)(bP:cC r H0 H)(cp:c7 H r ak s){l:List cE}{v:I}(bA:ez H (bI H0.next) l v):
  W (zy (aq P ao) M (.ptr r 0 0) v H) λdr H'=>cC r H0 H'/\c_ H' r T ak (gp T [125] s)/\ez H' (bI H0.next) l dr:=by
 have az:=bs.rd.lt;rw[zy];refine a6 (Bg (bs.mut bP cp) [125] (by simp)) ?_;rintro _ H1 ⟨rfl,m1,du⟩;refine⟨m1.1,?_⟩;exact a_.2 ⟨bP.trans m1,du,bA.bo (fG.mut m1 (by unfold bI;omega) λ_ h=>h)⟩
theorem Wd{N M:Nat}(aT: ∀k,k<N->GG k){H0:J}{r:Nat}{T:List Tok}{ak:I}{s0:aA}(aH:T.length<=20000000)(bs:c_ H0 r T ak s0):
  ∀(n m:Nat),n<=N->n<m-> ∀(H:J) (s:aA) (l:List cE) (v:I),cC r H0 H->c7 H r ak s->l.length+n<=1000000000->ur H0.next H l v-> ∀(l':List cE) (s':aA),pS T n l s=some (l',s')->
   W (zz (aq P ao) M m (.ptr r 0 0) v H) λdr H'=>cC r H0 H'/\c_ H' r T ak (gp T [125] s')/\ez H' (bI H0.next) l' dr
 |0,m,dU,hm,H,s,l,v,bP,cp,hlen,ax,l',s',h=>by simp[pS] at h
 |n+1,0,dU,hm,H,s,l,v,bP,cp,hlen,ax,l',s',h=>Z
 |n+1,m+1,dU,hm,H,s,l,v,bP,cp,hlen,ax,l',s',h=>by
  have az:=bs.rd.lt;have hle:=bP.1;have ag:=bs.mut bP cp;simp only[pS] at h;simp only[zz];rw[G5];refine a6 (tB cp) ?_;rintro _ H1 ⟨rfl,rfl⟩;refine⟨bN _,?_⟩;by_cases al:s.aC=0
  ·have e1:(s.aC==0)=true:=by simp[al]
   simp-implicitDefEqProofs(disch:=try exact af) only[reduceAdd,reduceLeDiff,reduceIte,aw,e1];refine gP (gO cp ag.cf [125] (by simp)) ?_;rintro _ bm ⟨rfl,aJ⟩;refine⟨aJ.1,?_⟩;have ck:=ax.mut (aJ.mut (· =r)) az;cases be:cd T s [125] with
   |true=>
    simp only[e1,be,Bool.not_true,Bool.and_false,bj,bF,dw] at h;obtain⟨rfl,rfl⟩:=h;simp-implicitDefEqProofs(disch:=try exact af) only[reduceAdd,reduceLeDiff,reduceIte,aw,e1,Bool.not_true,Bool.not_false];exact P6 bs (bP.trans (aJ.mut _)) (ag.aK aJ).rd ck.Je
   |false=>
    simp only[e1,be,Bool.not_false,Bool.and_self,bC,eW] at h;obtain⟨⟨aI,s1⟩,U,aa⟩:=h;simp-implicitDefEqProofs(disch:=try exact af) only[reduceAdd,reduceLeDiff,reduceIte,aw,e1,Bool.not_true,Bool.not_false];refine a6 (aT n Z aH (ag.aK aJ) aI s1 U) ?_;rintro w cT ⟨m3,e2,he⟩;refine⟨m3.1,?_⟩;obtain⟨cs,rfl,bM,cR⟩:=he.cells;have eO:=ck.mut m3 az;have jC:=m3.1;have n2:=aJ.1;obtain⟨dr,H',bV,ia,fK,hz⟩:=eO.app he Z (λL k c bA=>by
     rcases ck with⟨cD,_⟩|⟨L',els,cD,cu,_⟩
     ·rw[cD] at bA;cases bA
     ·rw[cD] at bA;cases bA;exact J.aX cu) Z Z
    have aM:=λl=>Vr l cs bM cR
    simp-implicitDefEqProofs(disch:=try exact af) only[reduceAdd,reduceLeDiff,reduceIte,aw,aM,bV,kx];have Da:cC r H0 H':=⟨by have:=bP.1;omega,λk ah a8=>by
     rw[fK.2 k Z Z];exact((bP.trans (aJ.mut _)).trans m3).2 k ah a8⟩
    have iU:c7 H' r ak s1:=fK.get e2.rd Z;exact Wd aT aH bs n m Z Z H' s1 (l++[aI]) dr Da iU (by simp only[List.length_append,List.length_cons,List.length_nil];omega) ia l' s' aa
  ·have e1:(s.aC==0)=false:=by simpa using al
   simp only[e1,Bool.false_and,bj,bF,dw] at h;obtain⟨rfl,rfl⟩:=h;simp-implicitDefEqProofs(disch:=try exact af) only[reduceAdd,reduceLeDiff,reduceIte,aw,e1,Bool.not_true];exact P6 bs bP cp ax.Je
theorem aaW{n:Nat}(aU:n<=1000000000)(aT: ∀k,k<n->GG k):Gx (n+1):=by
 intro H r T ak s aH ag l s' h;refine cP (λ_=>alu (n+1)) ?_;simp only[lE,eW] at h;obtain⟨⟨eG,s1⟩,U,aa⟩:=h;simp only[bF,dw] at aa;obtain⟨rfl,rfl⟩:=aa;rw[IQ];refine a6 (Bo ag [123] (by simp)) ?_;rintro _ H1 ⟨rfl,m1,du⟩;refine⟨m1.1,?_⟩;exact Wd aT aH ag n (n+1) (bN _) Z H1 _ [] .ap m1 du.rd (by simpa using aU) (.inl ⟨rfl,rfl⟩) eG s1 U
structure ka(H0 H:J)(r b3 eB:Nat)(ak:I)(t:Tok)(s:aA)(c:List I):Prop where
 m:cC r H0 H
 rd:c7 H r ak s
 g2:H.get H0.next=some (.row false 9 [[.int .i64 0,.str [],.str [],.int .i64 0,.ap,.ap,.ap,.int .i64 0,.int .i64 0]])
 g3:H.get b3=some (.row false 4 [[.int .i64 t.kind,.str t.text,.int .i64 t.n,.int .i64 t.pos]])
 g4:H.get eB=some (.row false 9 [c])
 gS:H0.next<b3
 h7:b3<eB
theorem ka.mut{H0 H H':J}{r b3 eB:Nat}{ak:I}{t:Tok}{s s':aA}{c:List I}(h:ka H0 H r b3 eB ak t s c)(a8:r<H0.next)(m:cC r H H')(bd:c7 H' r ak s'):ka H0 H' r b3 eB ak t s' c:=
 ⟨h.m.trans m,bd,m.get h.g2 Z,m.get h.g3 (by have:=h.gS;omega),m.get h.g4 (by have:=h.gS;have:=h.h7;omega),h.gS,h.h7⟩
theorem ka.set{H0 H:J}{r b3 eB:Nat}{ak:I}{t:Tok}{s:aA}{c:List I}(h:ka H0 H r b3 eB ak t s c)(a8:r<H0.next)(c':List I):ka H0 (H.set eB (.row false 9 [c'])) r b3 eB ak t s c':=by
 have ae:=h.gS;have am:=h.h7;refine⟨h.m.db (.inr Z) _,?_,?_,?_,J.get_set_same (J.aX h.g4),ae,am⟩
 ·have:=h.rd;unfold c7 at this ⊢;rw[J.get_set_other Z];exact this
 ·rw[J.get_set_other Z];exact h.g2
 ·rw[J.get_set_other Z];exact h.g3
theorem ka.push{H0 H:J}{r b3 eB:Nat}{ak:I}{t:Tok}{s:aA}{c:List I}(h:ka H0 H r b3 eB ak t s c)(a8:r<H0.next)(hj:dY):ka H0 (H.push hj) r b3 eB ak t s c:=
 h.mut a8 ((aR.push H hj).mut _) (h.rd.aK (aR.push H hj))
section
variable {H0 H:J}{r b3 eB:Nat}{T:List Tok}{ak:I}{s0 s:aA}{t:Tok}
theorem Bx(bs:c_ H0 r T ak s0){a:dH}{es:List bp}{df bM:List cE}{ev bv fw:I}(b:ka H0 H r b3 eB ak t s (a.cells ev bv fw))(U:dP H (bI (eB+1)) es ev)(aa:ez H (bI (eB+1)) df bv)(ae:ez H (bI (eB+1)) bM fw):
  W (lH (aq P ao) (.ptr H0.next 0 0) (.ptr eB 0 0) H) (gJ H0 r T ak (.mk a es df bM) s):=by
 have cR:=U.gi;have dd:=aa.gi;have dG:=ae.gi;have g2:=b.g2;have g3:=b.g4;have fA:=J.aX g2;have eH:=b.gS;have eE:=b.h7;simp only[dH.cells] at g3;simp-implicitDefEqProofs(disch:=try exact af) only[lH,reduceAdd,reduceLeDiff,reduceIte,aw,d_,g2,g3,cR,dd,dG];exact a_.2 (gJ.fin (a:=a) bs b.m b.rd U aa ae (bN _) Z _)
theorem ka.expr(a8:r<H0.next){e:bp}{cs c c':List I}{L:Nat}(b:ka H0 H r b3 eB ak t s c)(he:ea H (bI (eB+1)) e (.agg cs))(gH:L=H.next):ka H0 ((H.set eB (.row false 9 [c'])).push (.row false 11 [cs])) r b3 eB ak t s c'/\dP ((H.set eB (.row false 9 [c'])).push (.row false 11 [cs])) (bI (eB+1)) [e] (.aN L 0 1 11 (some 1)):=by
 subst gH;have am:=J.aX b.g4;refine⟨(b.set a8 c').push a8 _,dP.qF (ro:=false) ?_ (by unfold bI;omega) (ea.bo ?_ e _ he)⟩
 ·exact J.ca (H.set eB (.row false 9 [c'])) _
 ·intro l ro els h g;refine⟨h,?_⟩;unfold bI at h;exact(aR.push _ _).get (by rw[J.get_set_other Z];exact g)
theorem QV(bs:c_ H0 r T ak s0){a:dH}{es:List bp}{ev:I}(b:ka H0 H r b3 eB ak t s (a.cells ev .ap .ap))(U:dP H (bI (eB+1)) es ev):
  W (zD (aq P ao) (.ptr r 0 0) (.ptr H0.next 0 0) (.ptr eB 0 0) H) (gJ H0 r T ak (.mk a es [] []) (cr T [59] s)):=by
 have az:=bs.rd.lt;have eH:=b.gS;have eE:=b.h7;rw[zD];refine a6 (lA (bs.mut b.m b.rd) [59] (by simp)) ?_;rintro _ H1 ⟨rfl,m1,du⟩;refine⟨m1.1,?_⟩;exact Bx bs (b.mut az m1 du.rd) (U.bo (e_.mut m1 (by unfold bI;omega) λ_ h=>h)) (ez.nil _ _) (ez.nil _ _)
theorem R8(bs:c_ H0 r T ak s0){a:dH}{es:List bp}{ev:I}(b:ka H0 H r b3 eB ak t s (a.cells ev .ap .ap))(U:dP H (bI (eB+1)) es ev):
  W (zE (aq P ao) (.ptr r 0 0) (.ptr H0.next 0 0) (.ptr eB 0 0) H) (gJ H0 r T ak (.mk a es [] []) (cr T [59] s)):=by
 have az:=bs.rd.lt;have eH:=b.gS;have eE:=b.h7;rw[zE];refine a6 (lA (bs.mut b.m b.rd) [59] (by simp)) ?_;rintro _ H1 ⟨rfl,m1,du⟩;refine⟨m1.1,?_⟩;exact Bx bs (b.mut az m1 du.rd) (U.bo (e_.mut m1 (by unfold bI;omega) λ_ h=>h)) (ez.nil _ _) (ez.nil _ _)
end
end
end Go.Proofs.YtghmbpmaafnodaaGreatDoor
