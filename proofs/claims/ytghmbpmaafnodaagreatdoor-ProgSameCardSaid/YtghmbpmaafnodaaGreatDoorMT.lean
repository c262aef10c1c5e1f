/-
  Texts of one proof, laid together: Rd ShPa Re Rf Rg ShT V1 V2.
-/
import Derived.Test.YtghmbpmaafnodaaGreatDoorMS
import Derived.Test.YtghmbpmaafnodaaGreatDoorMD
import Derived.Test.YtghmbpmaafnodaaGreatDoorML
import Derived.Test.YtghmbpmaafnodaaGreatDoorMJ
import Derived.Test.YtghmbpmaafnodaaGreatDoorMN
set_option linter.unusedVariables false
set_option linter.unusedSimpArgs false
namespace Go.Proofs.YtghmbpmaafnodaaGreatDoor
open Go.f7
open Nat (reduceAdd reduceLeDiff)
section
section
variable {T:List Tok}{s t:aw}
theorem wH(h:s.aA≠0)(N n:Nat)(g:eb):ot T N (n+1) g s=some (g,s):=by
 have ay:(s.aA==0)=false:=by simpa using h
 rw[ot,ay,Bool.false_and,bi]
theorem wI(h:s.aA≠0)(N n:Nat)(g:eb):iX T N (n+1) g s=some (g,s):=by
 have ay:(s.aA==0)=false:=by simpa using h
 rw[iX,ay,Bool.false_and,bi]
theorem Kq{n:Nat}{m:Int}(hm:m<=n):gP T true n m s=cL T 4 s:=by
 unfold gP;rw[show decide (m<=(n:Int))=true from decide_eq_true hm];rfl
theorem aaX(g:eb)(ax:g.ey.length=12): ∃p,wU T 800000000 g s=some p/\(s.aA=0->p.2.aA≠0/\(cL T 4 s).aA=p.2.aA/\(cL T 4 s).cw=p.2.cw):=by
 have U:(cL T 4 s).aA≠0:=iU cl;have aa:(aE (cL T 4 s)).aA≠0:=U;obtain⟨bd,a2⟩:=JI (T:=T) aa;have ae:(hQ T (aE (cL T 4 s))).2.aA≠0:=by rw[bd];exact aa
 unfold wU;rw[Kq (by rw[ax];decide),su ae,show(800000000:Nat)=799999999+1 from rfl,yB ae];refine⟨_,rfl,λ_=> ?_⟩;simp only[su ae];exact⟨ae,bd.symm,a2.symm⟩
theorem aaQ(g:eb)(ax:g.globals.length=8):(k6 T g s).2.aA≠0/\(cL T 4 s).aA=(k6 T g s).2.aA/\(cL T 4 s).cw=(k6 T g s).2.cw:=by
 have U:(cL T 4 s).aA≠0:=iU cl;have aa:(aE (cL T 4 s)).aA≠0:=U;obtain⟨bd,a2⟩:=Dr (T:=T) aa;have ae:(iW T (aE (cL T 4 s))).2.aA≠0:=by rw[bd];exact aa
 unfold k6;rw[Kq (by rw[ax];decide)];simp only[su ae];exact⟨ae,bd.symm,a2.symm⟩
theorem aaj(h:s.aA≠0): ∃p,yJ T 800000000 s=some p/\p.2.aA=s.aA/\p.2.cw=s.cw:=by
 unfold yJ;rw[l2 h,bi];unfold l6;rw[PD h];obtain⟨bd,a2⟩:=Dr (T:=T) h;have aa:(iW T s).2.aA≠0:=by rw[bd];exact h
 rw[show(800000000:Nat)=799999999+1 from rfl,Do aa];exact⟨_,rfl,bd,a2⟩
theorem aaO(h:s.aA≠0):(j0 T s).2=s:=by
 unfold j0;rw[su h,Pl h];rfl
theorem aan(g:eb)(ax:g.funcs.length=16): ∃p,wN T 800000000 g s=some p/\p.2.aA≠0/\(cL T 4 s).aA=p.2.aA/\(cL T 4 s).cw=p.2.cw:=by
 have U:(cL T 4 s).aA≠0:=iU cl;have aa:(aE (cL T 4 s)).aA≠0:=U;obtain⟨bd,a2⟩:=JI (T:=T) aa;have ae:(hQ T (aE (cL T 4 s))).2.aA≠0:=by rw[bd];exact aa
 unfold wN;rw[Kq (by rw[ax];decide),su ae];obtain⟨p,e,c_,cD⟩:=aaj (T:=T) ae;have al:p.2.aA≠0:=by rw[c_];exact ae
 rw[e];refine⟨_,rfl,?_⟩;rw[aaO al];unfold oy;rw[if_pos al];exact⟨al,(c_.trans bd).symm,(cD.trans a2).symm⟩
theorem GZ(aH:hq T): ∀(k:Nat) (s:aw) (g:eb),(s.aA=0->hx T s/\(T.length:Int)-s.at_<=k/\g.ey.length<=12/\g.globals.length<=8/\g.funcs.length<=16)-> ∀n cg,k+1<=n->k+1<=cg-> ∃p q,ot T 800000000 n g s=some p/\iX T 800000000 cg g s=some q/\e4 p q
 |k,s,g,h,0,_,aV,_=>Z
 |k,s,g,h,_,0,_,aV=>Z
 |k,s,g,h,n+1,cg+1,aV,hk=>by
  by_cases ak:s.aA=0
  ·obtain⟨gs,ah,eI,fB,gL⟩:=h ak;have ql:(s.aA==0)=true:=by rw[ak];rfl
   have ay:=gs.b;have b1:=gs.a;obtain⟨n,rfl⟩: ∃m,n=m+1:=⟨n-1,Z⟩;obtain⟨cg,rfl⟩: ∃m,cg=m+1:=⟨cg-1,Z⟩;have vK: ∀e:Int,e≠0->(cL T e s).aA≠0:=λe he=>iU he
   rw[ot,iX,ql,Bool.true_and];cases af:(aq T s.at_).kind != 0 with
   |false=>exact⟨_,_,rfl,rfl,.rfl' _⟩
   |true=>
    have Ay:(aq T s.at_).kind≠0:=by simpa using af
    rw[bx,bx];unfold isRec rP isFun;rw[L2 s (x:=[114,101,99,111,114,100]) cl,L2 s (x:=[103,108,111,98,97,108]) cl,L2 s (x:=[102,117,110,99]) cl];cases a7:b4 T s 3 [114,101,99,111,114,100] with
    |true=>
     rw[Gu a7 (y:=[103,108,111,98,97,108]) cl,Gu a7 (y:=[102,117,110,99]) cl];simp only[Bool.true_and,Bool.false_and,Bool.or_false,bx];by_cases ax:g.ey.length=12
     ·rw[show(g.ey.length==12)=true by simpa using ax,bx,wI (vK 4 cl)];obtain⟨p,e,aI⟩:=aaX (T:=T) (s:=s) g ax;obtain⟨U,aa,ae⟩:=aI ak;rw[e,Option.bind_some,wH U];exact⟨_,_,rfl,rfl,.inr ⟨U,aa,ae⟩⟩
     ·rw[show(g.ey.length==12)=false by simpa using ax,bi];obtain⟨p,q,f1,f2,f3,f4⟩:=ad1 aH g gs Ay Z;rw[f1,f2,Option.bind_some,Option.bind_some];rcases f3 with⟨U,aa⟩|⟨U,aa,ae⟩
      ·obtain⟨g2,cD⟩:=f4 U;rw[<-aa] at U g2 cD ⊢;exact GZ aH (k-1) q.2 {g with ey:=g.ey++[q.1]} (λ_=>⟨g2,by simp only at cD;omega,by simp;omega,fB,gL⟩) (n+1) (cg+1) (by simp only at cD;omega) (by simp only at cD;omega)
      ·have al:q.2.aA≠0:=by rw[aa];exact U
       rw[wH U,wI al];exact⟨_,_,rfl,rfl,.inr ⟨U,aa,ae⟩⟩
    |false=>
     cases aX:b4 T s 3 [103,108,111,98,97,108] with
     |true=>
      rw[Gu aX (y:=[102,117,110,99]) cl];simp only[Bool.true_and,Bool.false_and,Bool.or_false,Bool.false_or,bx,bi];by_cases ax:g.globals.length=8
      ·rw[show(g.globals.length==8)=true by simpa using ax,bx,wI (vK 4 cl)];obtain⟨U,aa,ae⟩:=aaQ (T:=T) (s:=s) g ax;rw[wH U];exact⟨_,_,rfl,rfl,.inr ⟨U,aa,ae⟩⟩
      ·rw[show(g.globals.length==8)=false by simpa using ax,bi];obtain⟨f3,f4⟩:=adJ aH g gs Ay Z;rcases f3 with⟨U,aa⟩|⟨U,aa,ae⟩
       ·obtain⟨g2,cD⟩:=f4 U;rw[<-aa] at U g2 cD ⊢;exact GZ aH (k-1) (cq T [59] (gZ T (aE s)).2) {g with globals:=g.globals++[(gZ T (aE s)).1]} (λ_=>⟨g2,by simp only at cD;omega,eI,by simp;omega,gL⟩) (n+1) (cg+1) (by simp only at cD;omega) (by simp only at cD;omega)
       ·have al:(cq T [59] (gZ T (aE s)).2).aA≠0:=λh=>U (aa.symm.trans h)
        rw[wH U,wI al];exact⟨_,_,rfl,rfl,.inr ⟨U,aa,ae⟩⟩
     |false=>
      cases aS:b4 T s 3 [102,117,110,99] with
      |true=>
       simp only[Bool.true_and,Bool.false_and,Bool.or_false,Bool.false_or,bx,bi];by_cases ax:g.funcs.length=16
       ·rw[show(g.funcs.length==16)=true by simpa using ax,bx,wI (vK 4 cl)];obtain⟨p,e,U,aa,ae⟩:=aan (T:=T) (s:=s) g ax;rw[e,Option.bind_some,wH U];exact⟨_,_,rfl,rfl,.inr ⟨U,aa,ae⟩⟩
       ·rw[show(g.funcs.length==16)=false by simpa using ax,bi];obtain⟨p,q,f1,f2,f3,f4⟩:=abl aH g gs Ay Z;rw[f1,f2,Option.bind_some,Option.bind_some];rcases f3 with⟨U,aa⟩|⟨U,aa,ae⟩
        ·obtain⟨g2,cD,-⟩:=f4 U;rw[<-aa] at U g2 cD ⊢;exact GZ aH (k-1) q.2 {g with funcs:=g.funcs++[q.1]} (λ_=>⟨g2,by simp only at cD;omega,eI,fB,by simp;omega⟩) (n+1) (cg+1) (by simp only at cD;omega) (by simp only at cD;omega)
        ·have al:q.2.aA≠0:=λh=>U (aa.symm.trans h)
         rw[wH U,wI al];exact⟨_,_,rfl,rfl,.inr ⟨U,aa,ae⟩⟩
      |false=>
       simp only[Bool.false_and,Bool.or_false,bi];rw[wH (vK 2 cl),wI (vK 2 cl)];exact⟨_,_,rfl,rfl,.rfl' _⟩
  ·rw[wH ak,wI ak];exact⟨_,_,rfl,rfl,.rfl' _⟩
theorem acq(aH:hq T)(a6:0<T.length): ∃p q,ot T 800000000 800000000 .none ⟨0,0,0,0⟩=some p/\iX T 800000000 800000000 .none ⟨0,0,0,0⟩=some q/\uo p.1 p.2=uo q.1 q.2:=by
 have aV:=aH.n;obtain⟨p,q,U,aa,ae⟩:=GZ aH T.length ⟨0,0,0,0⟩ .none (λ_=>⟨⟨rfl,Int.le_refl 0,by show(0:Int)<T.length;omega,rfl,rfl⟩,by show(T.length:Int)-0<=T.length;omega,cl,cl,cl⟩) 800000000 800000000 Z Z;refine⟨p,q,U,aa,?_⟩;unfold uo;rcases ae with⟨ae,rfl⟩|⟨ae,al,aB⟩
 ·rfl
 ·rw[if_neg ae,if_neg (λh=>ae (al.symm.trans h)),al,aB]
end
end
section
set_option maxRecDepth 100000
noncomputable section
def xA(G:av)(N:Nat)(ap aC:I)(bB bu:I)(H:J):O:=
 aL H (G 25 [bB] H) λvW U=>
 ab (fh .not vW) λH9=>
 bQ (some H9) (a1 U (aQ P U 26 ap (.agg [I.an,I.an,I.an])) λaa=>
 ab (b7 bB) λE1=>
 ab (aF P 63 E1 3) λAh=>
 ab (am P aa 29 Ah) λvX=>
 a1 aa (aQ P aa 29 aC vX) λae=>
 bif ((cd (am P U 29 Ah) vX&&(cd (am P aa 29 Ah) vX&&true))&&true) then(ab (am P ae 26 ap) λr=>
 ab (am P ae 29 aC) λmq=>
 some (.tuple [r,mq],ae)) else none) (ab (am P U 26 bu) λE2=>
 a1 U (aQ P U 26 ap E2) λaa=>
 a1 aa (aQ P aa 29 aC (.agg [(.int .i64 0),(.int .i64 0)])) λae=>
 ab (am P ae 26 ap) λr=>
 ab (am P ae 29 aC) λmq=>
 some (.tuple [r,mq],ae))
theorem agc(G:av)(N:Nat): ∀R H,cA P G N (Code.snd (Code.snd (Code.snd (Code.snd (Code.snd (Code.snd (di Tryz.f9))))))) (b_ Tryz.f9) [] (b_ Tryz.f9) R H=xA G N (R 2) (R 3) (R 6) (R 7) H:=by
 refine ds (aN _) λR H=> ?_
 delta xA;kernel_rfl
def rS(G:av)(N:Nat)(bE:I->I->I->I->J->O)(ap aC:I)(bB bu ep:I)(H:J):O:=
 bQ (some ep) (aL H (G 28 [bB,(.int .i64 4)] H) λwx U=>
 bE ap aC bB bu U) (aL H (G 27 [bB,(.str [114,101,99,111,114,100])] H) λjF U=>
 bQ (some jF) (ab (b7 bB) λjR=>
 ab (aF P 63 jR 1) λlq=>
 ab (am P U 3 lq) λnN=>
 ab (aZ P .add 3 true nN (.int .i64 1)) λmw=>
 ab (b7 bB) λoN=>
 ab (aF P 63 oN 1) λpq=>
 a1 U (aQ P U 3 pq mw) λaa=>
 aL aa (G 29 [bB] aa) λnO ae=>
 ab (aF P 26 bu 0) λhn=>
 ab (am P ae 22 hn) λkn=>
 dA ae (dH P (ae).next 22 1 [(0,nO)]) λpr al=>
 aL al (fM P al [22,22] kn pr) λmY aB=>
 ab (aF P 26 bu 0) λnP=>
 a1 aB (aQ P aB 22 nP mY) λaG=>
 bif ((cd (am P aa 22 hn) kn&&(cd (am P ae 22 hn) kn&&(cd (am P al 22 hn) kn&&true)))&&true) then(bE ap aC bB bu aG) else none) (aL U (G 27 [bB,(.str [103,108,111,98,97,108])] U) λuP aa=>
 bQ (some uP) (ab (b7 bB) λuQ=>
 ab (aF P 63 uQ 1) λqs=>
 ab (am P aa 3 qs) λre=>
 ab (aZ P .add 3 true re (.int .i64 1)) λrf=>
 ab (b7 bB) λAP=>
 ab (aF P 63 AP 1) λrh=>
 a1 aa (aQ P aa 3 rh rf) λae=>
 aL ae (G 30 [bB] ae) λwz al=>
 ab (aF P 26 bu 1) λqt=>
 ab (am P al 23 qt) λyq=>
 dA al (dH P (al).next 23 1 [(0,wz)]) λuR aB=>
 aL aB (fM P aB [23,23] yq uR) λoO aG=>
 ab (aF P 26 bu 1) λN7=>
 a1 aG (aQ P aG 23 N7 oO) λaP=>
 bif ((cd (am P ae 23 qt) yq&&(cd (am P al 23 qt) yq&&(cd (am P aB 23 qt) yq&&true)))&&true) then(aL aP (G 31 [bB,(.str [59])] aP) λFS bn=>
 bE ap aC bB bu bn) else none) (aL aa (G 27 [bB,(.str [102,117,110,99])] aa) λAR ae=>
 bQ (some AR) (ab (b7 bB) λqu=>
 ab (aF P 63 qu 1) λFU=>
 ab (am P ae 3 FU) λvV=>
 ab (aZ P .add 3 true vV (.int .i64 1)) λAf=>
 ab (b7 bB) λEW=>
 ab (aF P 63 EW 1) λCK=>
 a1 ae (aQ P ae 3 CK Af) λal=>
 aL al (G 32 [bB] al) λAg aB=>
 ab (aF P 26 bu 2) λx5=>
 ab (am P aB 24 x5) λr4=>
 dA aB (dH P (aB).next 24 1 [(0,Ag)]) λEX aG=>
 aL aG (fM P aG [24,24] r4 EX) λEY aP=>
 ab (aF P 26 bu 2) λEZ=>
 a1 aP (aQ P aP 24 EZ EY) λbn=>
 bif ((cd (am P al 24 x5) r4&&(cd (am P aB 24 x5) r4&&(cd (am P aG 24 x5) r4&&true)))&&true) then(bE ap aC bB bu bn) else none) (aL ae (G 28 [bB,(.int .i64 2)] ae) λcH al=>
 bE ap aC bB bu al))))
theorem agd(G:av)(N:Nat)(bE:I->I->I->I->J->O): ∀R H,cA P G N (Code.snd (Code.fst (Code.fst (Code.snd (Code.fst (Code.fst (Code.fst (Code.snd (Code.snd (Code.snd (Code.snd (Code.snd (di Tryz.f9))))))))))))) (λR H=>bE (R 2) (R 3) (R 6) (R 7) H) [(2,(λR H=>bE (R 2) (R 3) (R 6) (R 7) H)),(1,(λR H=>bE (R 2) (R 3) (R 6) (R 7) H)),(0,(λR H=>xA G N (R 2) (R 3) (R 6) (R 7) H))] (b_ Tryz.f9) R H=rS G N bE (R 2) (R 3) (R 6) (R 7) (R 31) H:=by
 refine ds (aN _) λR H=> ?_
 delta rS;kernel_rfl
def HA(G:av)(N:Nat)(bE:I->I->I->I->J->O)(ap aC:I)(bB bu:I)(H:J):O:=
 aL H (G 25 [bB] H) λc7 U=>
 aD c7 true U (dw bB) λdb aa=>
 aD c7 true aa (λq=>fo aa (G 26 [db] aa) q) λdn ae=>
 aD c7 true ae (bm (d8 P 57 dn 0)) λdu al=>
 aD c7 true al (bm (aZ P .neq 3 true du (.int .i64 0))) λdh aB=>
 ab (cW c7 (some dh) (some (.bool false))) λdT=>
 bQ (some dT) (aL aB (G 27 [bB,(.str [114,101,99,111,114,100])] aB) λef aG=>
 aD ef true aG (bm (aF P 26 bu 0)) λeg aP=>
 aD ef true aP (qr (am P aP 22 eg)) λej bn=>
 aD ef true bn (λq=>ia (dC P .empty .len [22] [ej]) (dC P bn .len [22] [ej]) q) λed bH=>
 aD ef true bH (bm (aZ P .eql 3 true ed (.int .i64 12))) λfj co=>
 ab (cW ef (some fj) (some (.bool false))) λft=>
 bQ (some ft) (rS G N bE ap aC bB bu ft co) (aL co (G 27 [bB,(.str [103,108,111,98,97,108])] co) λfy dp=>
 aD fy true dp (bm (aF P 26 bu 1)) λgv dR=>
 aD fy true dR (qr (am P dR 23 gv)) λeU eF=>
 aD fy true eF (λq=>ia (dC P .empty .len [23] [eU]) (dC P eF .len [23] [eU]) q) λgw fs=>
 aD fy true fs (bm (aZ P .eql 3 true gw (.int .i64 8))) λgb fP=>
 ab (cW fy (some gb) (some (.bool false))) λgS=>
 bQ (some gS) (rS G N bE ap aC bB bu gS fP) (aL fP (G 27 [bB,(.str [102,117,110,99])] fP) λhv gG=>
 aD hv true gG (bm (aF P 26 bu 2)) λhV hM=>
 aD hv true hM (qr (am P hM 24 hV)) λgx ht=>
 aD hv true ht (λq=>ia (dC P .empty .len [24] [gx]) (dC P ht .len [24] [gx]) q) λkm kL=>
 aD hv true kL (bm (aZ P .eql 3 true km (.int .i64 16))) λjQ iC=>
 ab (cW hv (some jQ) (some (.bool false))) λiR=>
 rS G N bE ap aC bB bu iR iC))) (xA G N ap aC bB bu aB)
def vI(G:av)(N:Nat):Nat->I->I->I->I->J->O
 |0,_,_,_,_,_=>none
 |n+1,ap,aC,bB,bu,H=>HA G N (vI G N n) ap aC bB bu H
theorem agb(G:av)(N:Nat)(bE:I->I->I->I->J->O): ∀R H,cA P G N (Code.fst (Code.fst (Code.fst (Code.snd (Code.snd (Code.snd (Code.snd (Code.snd (di Tryz.f9))))))))) (λR H=>bE (R 2) (R 3) (R 6) (R 7) H) [(0,(λR H=>xA G N (R 2) (R 3) (R 6) (R 7) H))] (b_ Tryz.f9) R H=HA G N bE (R 2) (R 3) (R 6) (R 7) H:=by
 refine ds ((br ad ((fL ad ((fL ad ((br ad (agd G N bE) (aN _))))))) (aN _))) λR H=> ?_
 delta HA;generalize xA G N=ba;generalize rS G N bE=lZ;revert ba lZ;refine id ?_;intro ba lZ;kernel_rfl
def jI(G:av)(N:Nat)(Y:I)(H:J):O:=
 cv H [I.an,I.an,I.an] λap U=>
 cv U [(.int .i64 0),(.int .i64 0)] λaC aa=>
 aL aa (G 24 [Y] aa) λcr ae=>
 ab (gf cr 0) λb8=>
 ab (gf cr 1) λcb=>
 cv ae [(.int .i64 0),(.int .i64 0)] λbf al=>
 a1 al (aQ P al 29 bf cb) λaB=>
 ab (aF P 29 bf 0) λb0=>
 ab (am P aB 27 b0) λbT=>
 ab (aZ P .neq 27 true bT (.int .i64 0)) λbX=>
 bQ (some bX) (a1 aB (aQ P aB 26 ap (.agg [I.an,I.an,I.an])) λaG=>
 ab (am P aG 29 bf) λcc=>
 a1 aG (aQ P aG 29 aC cc) λaP=>
 bif ((cd (am P aB 29 bf) cc&&(cd (am P aG 29 bf) cc&&true))&&true) then(ab (am P aP 26 ap) λr=>
 ab (am P aP 29 aC) λmq=>
 some (.tuple [r,mq],aP)) else none) (ab (cM P 63 [(0,b8)]) λc6=>
 dA aB (eW (aB).next c6) λcN aG=>
 cv aG [I.an,I.an,I.an] λbu aP=>
 vI G N N ap aC cN bu aP)
theorem amW(G:av)(N:Nat)(Y:I)(H:J):bp Tryz.f9 G N (cF [Y]) H=jI G N Y H:=by
 refine cP (A:=bp Tryz.f9 G N) ((br ad ((br ad ((br ad ((br ad ((br ad ((br ad (agc G N) ((fL ad ((gD (k:=λm R H=>vI G N m (R 2) (R 3) (R 6) (R 7) H) ad (λR H=>ad) (λm=>agb G N (vI G N m)))))))) (aN _))) (aN _))) (aN _))) (aN _))) (aN _))) ?_;delta jI;generalize vI G N N=ba;revert ba;refine id ?_;intro ba;kernel_rfl
theorem aof(N:Nat){Y:I}{H:J}{r:I×J}(h:jI (au P ao) N Y H=some r):au P ao 9 [Y] H=some r:=
 cV ad Tryz.func9 ad ad ad ((amW (au P ao) N Y H).trans h)
def vl(G:av)(N:Nat)(Y ap aC:I)(H:J):O:=
 aL H (G 31 [Y,(.str [125])] H) λfW U=>
 ab (am P U 41 aC) λgv=>
 a1 U (aQ P U 41 ap gv) λaa=>
 ab (am P aa 41 ap) λr=>
 some (r,aa)
theorem ael(G:av)(N:Nat): ∀R H,cA P G N (Code.snd (Code.snd (Code.snd (Code.snd (Code.snd (di Tryz.f29)))))) (b_ Tryz.f29) [] (b_ Tryz.f29) R H=vl G N (R 0) (R 2) (R 3) H:=by
 refine ds (aN _) λR H=> ?_
 delta vl;kernel_rfl
def Hb(G:av)(N:Nat)(bE:I->I->I->J->O)(Y ap aC:I)(H:J):O:=
 aL H (G 25 [Y] H) λbT U=>
 aD bT true U (dw Y) λbI aa=>
 aD bT true aa (λq=>fo aa (G 27 [bI,(.str [125])] aa) q) λcc ae=>
 aD bT true ae (bm (fh .not cc)) λcG al=>
 ab (cW bT (some cG) (some (.bool false))) λc6=>
 bQ (some c6) (aL al (G 26 [Y] al) λcz aB=>
 ab (d8 P 57 cz 0) λc7=>
 ab (aZ P .eql 3 true c7 (.int .i64 1)) λcI=>
 aD cI true aB (bm (aF P 41 aC 1)) λdn aG=>
 aD cI true aG (qr (am P aG 23 dn)) λdu aP=>
 aD cI true aP (λq=>ia (dC P .empty .len [23] [du]) (dC P aP .len [23] [du]) q) λdh bn=>
 aD cI true bn (bm (aZ P .eql 3 true dh (.int .i64 8))) λdT bH=>
 ab (cW cI (some dT) (some (.bool false))) λdI=>
 bQ (some dI) (aL bH (G 28 [Y,(.int .i64 4)] bH) λep co=>
 vl G N Y ap aC co) (aL bH (G 30 [Y] bH) λeg co=>
 ab (aF P 41 aC 1) λdV=>
 ab (am P co 23 dV) λef=>
 dA co (dH P (co).next 23 1 [(0,eg)]) λej dp=>
 aL dp (fM P dp [23,23] ef ej) λed dR=>
 ab (aF P 41 aC 1) λfj=>
 a1 dR (aQ P dR 23 fj ed) λeF=>
 bif ((cd (am P bH 23 dV) ef&&(cd (am P co 23 dV) ef&&(cd (am P dp 23 dV) ef&&true)))&&true) then(aL eF (G 31 [Y,(.str [59])] eF) λe7 fs=>
 bE Y ap aC fs) else none)) (vl G N Y ap aC al)
def xh(G:av)(N:Nat):Nat->I->I->I->J->O
 |0,_,_,_,_=>none
 |n+1,Y,ap,aC,H=>Hb G N (xh G N n) Y ap aC H
theorem aek(G:av)(N:Nat)(bE:I->I->I->J->O): ∀R H,cA P G N (Code.fst (Code.fst (Code.fst (Code.snd (Code.snd (Code.snd (Code.snd (di Tryz.f29)))))))) (λR H=>bE (R 0) (R 2) (R 3) H) [(0,(λR H=>vl G N (R 0) (R 2) (R 3) H))] (b_ Tryz.f29) R H=Hb G N bE (R 0) (R 2) (R 3) H:=by
 refine ds (aN _) λR H=> ?_
 delta Hb;generalize vl G N=ba;revert ba;refine id ?_;intro ba;kernel_rfl
def IP(G:av)(N:Nat)(Y:I)(H:J):O:=
 cv H [(.str []),I.an,(.int .i64 0)] λap U=>
 aL U (G 26 [Y] U) λbf aa=>
 ab (d8 P 57 bf 3) λbB=>
 ab (cM P 41 [(2,bB)]) λbu=>
 cv aa [(.str []),I.an,(.int .i64 0)] λaC ae=>
 a1 ae (aQ P ae 41 aC bu) λal=>
 aL al (G 59 [Y] al) λbF aB=>
 ab (aF P 41 aC 0) λcr=>
 a1 aB (aQ P aB 9 cr bF) λaG=>
 aL aG (G 31 [Y,(.str [123])] aG) λcb aP=>
 xh G N N Y ap aC aP
theorem ajY(G:av)(N:Nat)(Y:I)(H:J):bp Tryz.f29 G N (cF [Y]) H=IP G N Y H:=by
 refine cP (A:=bp Tryz.f29 G N) ((br ad ((br ad ((br ad ((br ad ((br ad (ael G N) ((fL ad ((gD (k:=λm R H=>xh G N m (R 0) (R 2) (R 3) H) ad (λR H=>ad) (λm=>aek G N (xh G N m)))))))) (aN _))) (aN _))) (aN _))) (aN _))) ?_;delta IP;generalize xh G N N=ba;revert ba;refine id ?_;intro ba;kernel_rfl
theorem alZ(N:Nat){Y:I}{H:J}{r:I×J}(h:IP (au P ao) N Y H=some r):au P ao 29 [Y] H=some r:=
 cV ad Tryz.func29 ad ad ad ((ajY (au P ao) N Y H).trans h)
def IQ(G:av)(Y:I)(H:J):O:=
 cv H [(.str []),(.str []),(.int .i64 0),(.int .i64 0)] λap U=>
 aL U (G 26 [Y] U) λbf aa=>
 ab (d8 P 57 bf 3) λbB=>
 ab (cM P 66 [(2,bB)]) λbu=>
 cv aa [(.str []),(.str []),(.int .i64 0),(.int .i64 0)] λaC ae=>
 a1 ae (aQ P ae 66 aC bu) λal=>
 aL al (G 59 [Y] al) λbF aB=>
 ab (aF P 66 aC 0) λcr=>
 a1 aB (aQ P aB 9 cr bF) λaG=>
 aL aG (G 31 [Y,(.str [58])] aG) λcb aP=>
 aL aP (G 60 [Y] aP) λbT bn=>
 ab (aF P 66 aC 1) λbX=>
 a1 bn (aQ P bn 43 bX bT) λbH=>
 ab (am P bH 66 aC) λbI=>
 a1 bH (aQ P bH 66 ap bI) λco=>
 ab (am P co 66 ap) λr=>
 some (r,co)
theorem ajZ(G:av)(N:Nat)(Y:I)(H:J):bp Tryz.f30 G N (cF [Y]) H=IQ G Y H:=by
 refine cP (A:=bp Tryz.f30 G N) (aN _) ?_;delta IQ;kernel_rfl
theorem al0(N:Nat){Y:I}{H:J}{r:I×J}(h:IQ (au P ao) Y H=some r):au P ao 30 [Y] H=some r:=
 cV ad Tryz.func30 ad ad ad ((ajZ (au P ao) N Y H).trans h)
def zl(G:av)(N:Nat)(Y ap aC:I)(H:J):O:=
 aL H (G 61 [Y] H) λnN U=>
 ab (aF P 46 aC 4) λmw=>
 a1 U (aQ P U 44 mw nN) λaa=>
 ab (am P aa 46 aC) λoN=>
 a1 aa (aQ P aa 46 ap oN) λae=>
 ab (am P ae 46 ap) λr=>
 some (r,ae)
theorem aeo(G:av)(N:Nat): ∀R H,cA P G N (Code.snd (Code.snd (Code.snd (Code.snd (Code.snd (Code.snd (Code.snd (di Tryz.f32)))))))) (b_ Tryz.f32) [] (b_ Tryz.f32) R H=zl G N (R 0) (R 2) (R 3) H:=by
 refine ds (aN _) λR H=> ?_
 delta zl;kernel_rfl
def tT(G:av)(N:Nat)(Y ap aC:I)(H:J):O:=
 aL H (G 31 [Y,(.str [41])] H) λhv U=>
 aL U (G 27 [Y,(.str [58])] U) λhV aa=>
 bQ (some hV) (ab (b7 Y) λkm=>
 ab (aF P 63 km 1) λjQ=>
 ab (am P aa 3 jQ) λiR=>
 ab (aZ P .add 3 true iR (.int .i64 1)) λnL=>
 ab (b7 Y) λwx=>
 ab (aF P 63 wx 1) λkR=>
 a1 aa (aQ P aa 3 kR nL) λae=>
 ab (aF P 46 aC 2) λnM=>
 a1 ae (aQ P ae 4 nM (.bool true)) λal=>
 aL al (G 60 [Y] al) λrc aB=>
 ab (aF P 46 aC 3) λjR=>
 a1 aB (aQ P aB 43 jR rc) λaG=>
 zl G N Y ap aC aG) (zl G N Y ap aC aa)
theorem aen(G:av)(N:Nat): ∀R H,cA P G N (Code.snd (Code.snd (Code.snd (Code.snd (Code.snd (di Tryz.f32)))))) (b_ Tryz.f32) [] (b_ Tryz.f32) R H=tT G N (R 0) (R 2) (R 3) H:=by
 refine ds ((br ad ((br ad (aeo G N) (aN _))) (aN _))) λR H=> ?_
 delta tT;generalize zl G N=ba;revert ba;refine id ?_;intro ba;kernel_rfl
def Hc(G:av)(N:Nat)(h2:I->I->I->J->O)(Y ap aC:I)(H:J):O:=
 aL H (G 25 [Y] H) λbT U=>
 aD bT true U (dw Y) λbI aa=>
 aD bT true aa (λq=>fo aa (G 27 [bI,(.str [41])] aa) q) λcc ae=>
 aD bT true ae (bm (fh .not cc)) λcG al=>
 ab (cW bT (some cG) (some (.bool false))) λc6=>
 bQ (some c6) (aL al (G 26 [Y] al) λcz aB=>
 ab (d8 P 57 cz 0) λc7=>
 ab (aZ P .eql 3 true c7 (.int .i64 1)) λcI=>
 aD cI true aB (bm (aF P 46 aC 1)) λdn aG=>
 aD cI true aG (qr (am P aG 23 dn)) λdu aP=>
 aD cI true aP (λq=>ia (dC P .empty .len [23] [du]) (dC P aP .len [23] [du]) q) λdh bn=>
 aD cI true bn (bm (aZ P .eql 3 true dh (.int .i64 6))) λdT bH=>
 ab (cW cI (some dT) (some (.bool false))) λdI=>
 bQ (some dI) (aL bH (G 28 [Y,(.int .i64 4)] bH) λep co=>
 tT G N Y ap aC co) (aL bH (G 30 [Y] bH) λeg co=>
 ab (aF P 46 aC 1) λdV=>
 ab (am P co 23 dV) λef=>
 dA co (dH P (co).next 23 1 [(0,eg)]) λej dp=>
 aL dp (fM P dp [23,23] ef ej) λed dR=>
 ab (aF P 46 aC 1) λfj=>
 a1 dR (aQ P dR 23 fj ed) λeF=>
 bif ((cd (am P bH 23 dV) ef&&(cd (am P co 23 dV) ef&&(cd (am P dp 23 dV) ef&&true)))&&true) then(aL eF (G 27 [Y,(.str [41])] eF) λe7 fs=>
 ab (fh .not e7) λfy=>
 bQ (some fy) (aL fs (G 31 [Y,(.str [44])] fs) λgv fP=>
 aL fP (G 27 [Y,(.str [41])] fP) λgw gG=>
 bQ (some gw) (aL gG (G 28 [Y,(.int .i64 2)] gG) λgS hM=>
 h2 Y ap aC hM) (h2 Y ap aC gG)) (h2 Y ap aC fs)) else none)) (tT G N Y ap aC al)
def tU(G:av)(N:Nat):Nat->I->I->I->J->O
 |0,_,_,_,_=>none
 |n+1,Y,ap,aC,H=>Hc G N (tU G N n) Y ap aC H
theorem aem(G:av)(N:Nat)(h2:I->I->I->J->O): ∀R H,cA P G N (Code.fst (Code.fst (Code.fst (Code.snd (Code.snd (Code.snd (Code.snd (di Tryz.f32)))))))) (λR H=>h2 (R 0) (R 2) (R 3) H) [(0,(λR H=>tT G N (R 0) (R 2) (R 3) H))] (b_ Tryz.f32) R H=Hc G N h2 (R 0) (R 2) (R 3) H:=by
 refine ds (aN _) λR H=> ?_
 delta Hc;generalize tT G N=ba;revert ba;refine id ?_;intro ba;kernel_rfl
def IR(G:av)(N:Nat)(Y:I)(H:J):O:=
 cv H [(.str []),I.an,(.bool false),(.str []),(.int .i64 0),I.an,(.int .i64 0)] λap U=>
 aL U (G 26 [Y] U) λbf aa=>
 ab (d8 P 57 bf 3) λbB=>
 ab (cM P 46 [(5,bB)]) λbu=>
 cv aa [(.str []),I.an,(.bool false),(.str []),(.int .i64 0),I.an,(.int .i64 0)] λaC ae=>
 a1 ae (aQ P ae 46 aC bu) λal=>
 aL al (G 59 [Y] al) λbF aB=>
 ab (aF P 46 aC 0) λcr=>
 a1 aB (aQ P aB 9 cr bF) λaG=>
 aL aG (G 31 [Y,(.str [40])] aG) λcb aP=>
 tU G N N Y ap aC aP
theorem aj1(G:av)(N:Nat)(Y:I)(H:J):bp Tryz.f32 G N (cF [Y]) H=IR G N Y H:=by
 refine cP (A:=bp Tryz.f32 G N) ((br ad ((br ad ((br ad ((br ad ((br ad (aen G N) ((fL ad ((gD (k:=λm R H=>tU G N m (R 0) (R 2) (R 3) H) ad (λR H=>ad) (λm=>aem G N (tU G N m)))))))) (aN _))) (aN _))) (aN _))) (aN _))) ?_;delta IR;generalize tU G N N=ba;revert ba;refine id ?_;intro ba;kernel_rfl
theorem al2(N:Nat){Y:I}{H:J}{r:I×J}(h:IR (au P ao) N Y H=some r):au P ao 32 [Y] H=some r:=
 cV ad Tryz.func32 ad ad ad ((aj1 (au P ao) N Y H).trans h)
end
end
section
section
variable {H H':J}{r:Nat}{T:List Tok}{aj:I}{s s':aw}
theorem JY(h:c8 H r T aj s):W (au P ao 30 [.ptr r 0 0] H) λv H'=>v= .agg (gZ T s).1.cells/\cB r H H'/\c8 H' r T aj (gZ T s).2:=by
 refine cU (λ_=>al0 0) ?_;have ax:=h.rd.lt;have eh:=aR.push H (.row false 4 [[.str [],.str [],.int .i64 0,.int .i64 0]]);have ay:=J.ca H (.row false 4 [[.str [],.str [],.int .i64 0,.int .i64 0]]);simp-implicitDefEqProofs(disch:=try exact ag) only[IQ,bj,bO,List.length_cons,List.length_nil,Nat.zero_add,Nat.reduceAdd];refine aY (nZ (h.rd.aK eh) (h.aK eh).b9) ?_;rintro _ H1 ⟨rfl,aU⟩;refine⟨aU.1,?_⟩;have fw:=aU.1;simp only[J.b6] at fw;have U:=(h.aK eh).aK aU;have dS:=aU.get ay;unfold gZ fN;generalize aq T s.at_=q;obtain⟨k,x,z,p⟩:=q;have aJ:=aR.push H1 (.row false 4 [[.str [],.str [],.int .i64 0,.int .i64 p]])
 have lT:=J.ca H1 (.row false 4 [[.str [],.str [],.int .i64 0,.int .i64 p]]);simp-implicitDefEqProofs(disch:=try exact ag) only[bj,bO,fE,am,dy,aQ,dy,Nat.reduceAdd,Nat.reduceLeDiff,reduceIte,I.cells,eu,fl,dD,J.h8,Tok.v];refine aY (wK (U.aK aJ)) ?_;rintro _ cQ ⟨rfl,m3,ae⟩;refine⟨m3.1,?_⟩;have jy:=m3.1;simp only[J.b6] at jy;have eK:=m3.get (aJ.get dS) Z;have mj:=m3.get lT Z;have gL:=J.aW mj;generalize da T s=o at ae ⊢;obtain⟨nm,jH⟩:=o;simp only at ae ⊢;have FG:=((((eh.mut (· =r)).trans (aU.mut _)).trans (aJ.mut _)).trans m3);have yf:=FG.de (l:=H1.next) (.inr Z) (.row false 4 [[.str nm,.str [],.int .i64 0,.int .i64 p]])
 have al:=h.mut yf (show c1 _ r aj jH by unfold c1;rw[J.get_set_other Z];exact ae.rd);have fV:(cQ.set H1.next (.row false 4 [[.str nm,.str [],.int .i64 0,.int .i64 p]])).get H.next=some (.row false 4 [[.str [],.str [],.int .i64 0,.int .i64 0]]):=by rw[J.get_set_other Z];exact eK
 have iD:(cQ.set H1.next (.row false 4 [[.str nm,.str [],.int .i64 0,.int .i64 p]])).get H1.next=some (.row false 4 [[.str nm,.str [],.int .i64 0,.int .i64 p]]):=J.get_set_same gL
 simp-implicitDefEqProofs(disch:=try exact ag) only[bj,bO,fE,am,dy,aQ,dy,Nat.reduceAdd,Nat.reduceLeDiff,reduceIte,I.cells,eu,fl,dD,mj];refine aY (ly al [58] (by simp)) ?_;rintro _ dc ⟨rfl,m5,aB⟩;refine⟨m5.1,?_⟩;have nV:=m5.1;simp only[J.e9] at nV;have gu:=m5.get fV Z;have jD:=m5.get iD Z;generalize cq T [58] jH=j9 at aB ⊢;simp-implicitDefEqProofs(disch:=try exact ag) only[bj,bO];refine aY (DS aB) ?_;rintro _ fX ⟨rfl,m6,aG⟩;refine⟨m6.1,?_⟩;have A3:=m6.1;have qk:=m6.get gu Z;have r8:=m6.get jD Z;have F6:=J.aW qk;have arP:=J.aW r8;generalize e5 T j9=o at aG ⊢;obtain⟨⟨y,d⟩,A7⟩:=o;simp only at aG ⊢
 have ap4:=(yf.trans m5).trans m6;have ap5:=ap4.de (l:=H1.next) (.inr Z) (.row false 4 [[.str nm,.str y,.int .i64 d,.int .i64 p]]);have FH:=ap5.de (l:=H.next) (.inr (bL _)) (.row false 4 [[.str nm,.str y,.int .i64 d,.int .i64 p]]);simp-implicitDefEqProofs(disch:=try exact ag) only[reduceAdd,reduceLeDiff,reduceIte,az,qk,r8];exact a8.2 ⟨rfl,FH,h.mut FH (by unfold c1;rw[J.get_set_other Z,J.get_set_other Z];exact aG.rd)⟩
end
end
section
section
variable {H H' H1:J}{r:Nat}{T:List Tok}{aj:I}{s s':aw}
theorem c8.zO{s0:aw}(h:c8 H1 r T aj s0)(m:nR r H1.next H1 H')(bb:c1 H' r aj s'):c8 H' r T aj s':=
 ⟨bb,h.b9.bo λl ro els e=>m.get e (by
  have:=J.aW e;rintro(rfl|bW)
  ·rw[h.rd] at e;simp only[bD,dZ.row.injEq] at e;omega
  ·omega)⟩
structure lu(H1 H:J)(r b c n2 esz:Nat)(T:List Tok)(aj:I)(z:List I)(x:I)(rest:List I)(l:List dW)(v:I)(s:aw):Prop where
 dj:c8 H r T aj s
 two:H.get b=some (.row false esz [z])
 cell:H.get c=some (.row false esz [x::v::rest])
 ho:fF ga (bG n2) H l v
 m:nR r H1.next H1 H
 cZ:r<H1.next
 dk:H1.next<=b
 nX:b<c
 dJ:c<n2
 eL:n2<=H.next
variable {b c n2 esz:Nat}{z:List I}{x:I}{rest:List I}{l:List dW}{v:I}
theorem lu.mut(h:lu H1 H r b c n2 esz T aj z x rest l v s)(m:cB r H H')(dj:c8 H' r T aj s'):lu H1 H' r b c n2 esz T aj z x rest l v s':=by
 have cZ:=h.cZ;have dk:=h.dk;have dJ:=h.dJ;have eL:=h.eL;have nX:=h.nX;exact⟨dj,m.get h.two Z,m.get h.cell Z,h.ho.bo (d_.mut m λk ah=>by unfold bG at ah;omega),h.m.trans m.A2,cZ,dk,nX,dJ,by have:=m.1;omega⟩
theorem lu.add{s0:aw}(U:c8 H1 r T aj s0)(h:lu H1 H r b c n2 esz T aj z x rest l v s)(ax:l.length<=1000000000)(p:dW):
  ∃dr H',fM P (H.push (.row false 4 [p.cells])) [23,23] v (.aM H.next 0 1 4 (some 1))=some (dr,H')/\H.next+1<=H'.next/\dr.one=true/\H'.get c=some (.row false esz [x::v::rest])/\(H.push (.row false 4 [p.cells])).get c=some (.row false esz [x::v::rest])/\lu H1 (H'.set c (.row false esz [x::dr::rest])) r b c n2 esz T aj z x rest (l++[p]) dr s:=by
 have cZ:=h.cZ;have dk:=h.dk;have dJ:=h.dJ;have eL:=h.eL;have nX:=h.nX;obtain⟨dr,H',a,kq,q,d⟩:=h.ho.pm p (by unfold bG;omega) ax;have gc:H'.get c=some (.row false esz [x::v::rest]):=by rw[d c Z (by unfold bG;omega)];exact h.cell
 have lc:=J.aW gc;have fG:nR r H1.next H1 (H'.set c (.row false esz [x::dr::rest])):=h.m.trans ⟨by simp;omega,λk ah aO=>by
  have Av:k≠r:=λe=>aO (.inl e)
  have Fq: ¬H1.next<=k:=λe=>aO (.inr e)
  rw[J.get_set_other Z,d k ah (by unfold bG;omega)]⟩
 refine⟨dr,H',a,q,kq.one,gc,(aR.push _ _).get h.cell,?_,by rw[J.get_set_other Z,d b Z (by unfold bG;omega)];exact h.two,J.get_set_same lc,kq.bo λk x ah g=>⟨ah,by unfold bG at ah;rw[J.get_set_other Z];exact g⟩,fG,cZ,dk,nX,dJ,by simp;omega⟩;exact U.zO fG (by unfold c1;rw[J.get_set_other Z,d r Z (by unfold bG;omega)];exact h.dj.rd)
theorem Pj{N:Nat}{Q:I->J->Prop}{nm:bk}{et:Int}{s0:aw}(U:c8 H1 r T aj s0){l':List dW}
  (eH: ∀H v,lu H1 H r b c n2 3 T aj z (.str nm) [.int .i64 et] l' v s'->W (vl (au P ao) N (.ptr r 0 0) (.ptr b 0 0) (.ptr c 0 0) H) Q):
  ∀(n m:Nat) (H:J) (s:aw) (l:List dW) (v:I),n<m->l.length+n<=1000000000->lu H1 H r b c n2 3 T aj z (.str nm) [.int .i64 et] l v s->rp T n l s=some (l',s')->W (xh (au P ao) N m (.ptr r 0 0) (.ptr b 0 0) (.ptr c 0 0) H) Q
 |_,0,_,_,_,_,aV,_,_,_=>Z
 |0,m+1,_,_,_,_,_,_,_,ak=>by cases ak
 |n+1,m+1,H,s,l,v,aV,ay,h,ak=>by
  rw[rp] at ak;rw[xh];unfold Hb;refine aY (tB h.dj.rd) ?_;rintro _ bl ⟨rfl,rfl⟩;refine⟨bL _,?_⟩;by_cases a6:s.aA=0
  ·have ib:(s.aA==0)=true:=by simpa using a6
   simp-implicitDefEqProofs(disch:=try exact ag) only[bj,bO,ib];refine hh (gI h.dj.rd h.dj.b9 [125] (by simp)) ?_;rintro _ cQ ⟨rfl,bz⟩;refine⟨bz.1,?_⟩;have ae:=h.mut (bz.mut _) (h.dj.aK bz);rw[ib,Bool.true_and] at ak;cases af:b2 T s [125] with
   |true=>
    rw[af] at ak;cases ak;simp-implicitDefEqProofs(disch:=try exact ag) only[bj,bO,ib,Bool.not_true];exact eH _ _ ae
   |false=>
    rw[af,Bool.not_false,bx] at ak;simp-implicitDefEqProofs(disch:=try exact ag) only[bj,bO,ib,Bool.not_false];refine aY (nZ ae.dj.rd ae.dj.b9) ?_;rintro _ cu ⟨rfl,bK⟩;refine⟨bK.1,?_⟩;have al:=ae.mut (bK.mut _) (ae.dj.aK bK);have i_:=λH'=>al.ho.rQ H'
    have cp:=al.ho.rd;have iD:=al.cell;have aoa:=al.ho.one;have go:((aq T s.at_).kind==1&&l.length==8)=true->W (aL cu (au P ao 28 [.ptr r 0 0,.int .i64 4] cu) λep co=>vl (au P ao) N (.ptr r 0 0) (.ptr b 0 0) (.ptr c 0 0) co) Q:=λhm=>by
     rw[hm,bx] at ak;cases ak;refine aY (sv al.dj 4) ?_;rintro _ dc ⟨rfl,m5,iv⟩;exact⟨m5.1,eH _ _ (al.mut m5 iv)⟩
    have on:((aq T s.at_).kind==1&&l.length==8)=false->W (aL cu (au P ao 30 [.ptr r 0 0] cu) λeg co=>
      ab (aF P 41 (.ptr c 0 0) 1) λdV=>ab (am P co 23 dV) λef=>dA co (dH P (co).next 23 1 [(0,eg)]) λej dp=>aL dp (fM P dp [23,23] ef ej) λed dR=>ab (aF P 41 (.ptr c 0 0) 1) λfj=>a1 dR (aQ P dR 23 fj ed) λeF=>
      bif ((cd (am P cu 23 dV) ef&&(cd (am P co 23 dV) ef&&(cd (am P dp 23 dV) ef&&true)))&&true) then(aL eF (au P ao 31 [.ptr r 0 0,.str [59]] eF) λe7 fs=>xh (au P ao) N m (.ptr r 0 0) (.ptr b 0 0) (.ptr c 0 0) fs) else none) Q:=λhm=>by
     rw[hm,bi] at ak;refine aY (JY al.dj) ?_;rintro _ fX ⟨rfl,m6,wC⟩;refine⟨m6.1,?_⟩;have aG:=al.mut m6 wC;have r8:=aG.cell;have zU:=aG.ho.rd;generalize gZ T s=q at aG ak;obtain⟨p,A7⟩:=q;obtain⟨dr,fY,gU,pw,ii,aI,bc,aP⟩:=aG.add U Z p;have fe:=ue vG fX.next (cs:=p.cells) rfl rfl
     have uA:(fX.push (.row false 4 [p.cells])).next<=fY.next:=by simp only[J.b6];exact pw
     have hc:=j_ ii;simp only[I.cells] at hc;simp-implicitDefEqProofs(disch:=try exact ag) only[bj,bO,fE,am,dy,aQ,dy,Nat.reduceAdd,Nat.reduceLeDiff,reduceIte,I.cells,eu,fl,dD,hc,r8,fe,gU,ks,aI,bc,ii,zU,iD];refine aY (ly aP.dj [59] (by simp)) ?_;rintro _ jG ⟨rfl,m8,Ox⟩;refine⟨m8.1,?_⟩;exact Pj U eH n m jG _ _ dr Z (by simp;omega) (aP.mut m8 Ox) ak
    cases ah:(aq T s.at_).kind==1 with
    |true=>
     rw[ah] at go on;cases ax:l.length==8 with
     |true=>
      have dF:((l.length:Int)==8)=true:=by
       have:l.length=8:=by simpa using ax
       simp;omega
      rw[ax] at go;simp-implicitDefEqProofs(disch:=try exact ag) only[reduceAdd,reduceLeDiff,reduceIte,az,Tok.v,iD,i_,ah,dF];exact go rfl
     |false=>
      have dF:((l.length:Int)==8)=false:=by
       have:l.length≠8:=by simpa using ax
       simp;omega
      rw[ax] at on;simp-implicitDefEqProofs(disch:=try exact ag) only[reduceAdd,reduceLeDiff,reduceIte,az,Tok.v,iD,i_,ah,dF];exact on rfl
    |false=>
     rw[ah] at on;simp-implicitDefEqProofs(disch:=try exact ag) only[reduceAdd,reduceLeDiff,reduceIte,az,Tok.v,iD,i_,ah];exact on rfl
  ·have ib:(s.aA==0)=false:=by simpa using a6
   rw[ib] at ak;cases ak;simp-implicitDefEqProofs(disch:=try exact ag) only[bj,bO,ib];exact eH _ _ h
end
end
section
section
variable {H H' H1:J}{r:Nat}{T:List Tok}{aj:I}{s s':aw}
theorem nR.mt(m:nR r H.next H H'):cB r H H':=⟨m.1,λl ax aO=>m.2 l ax λe=>by
 rcases e with e|e
 ·exact aO e
 ·omega⟩
theorem aaY{n:Nat}(aV:n<=1000000000)(h:c8 H r T aj s){x:iG}(ak:tF T n s=some (x,s')):W (au P ao 29 [.ptr r 0 0] H) λv H'=>(∃cs,v= .agg cs/\gQ.V H' (bG H.next) x cs)/\cB r H H'/\c8 H' r T aj s':=by
 refine cU (λ_=>alZ (n+1)) ?_;have ax:=h.rd.lt;unfold tF at ak;obtain⟨⟨l',j9⟩,we,wg⟩:=eT.1 ak;simp only[bD,dz] at wg;obtain⟨rfl,rfl⟩:=wg;have eh:=aR.push H (.row false 3 [[.str [],.an,.int .i64 0]]);have ay:=J.ca H (.row false 3 [[.str [],.an,.int .i64 0]]);simp-implicitDefEqProofs(disch:=try exact ag) only[IP,bj,bO,List.length_cons,List.length_nil,Nat.zero_add,Nat.reduceAdd];refine aY (nZ (h.rd.aK eh) (h.aK eh).b9) ?_;rintro _ H1 ⟨rfl,aU⟩;refine⟨aU.1,?_⟩;have fw:=aU.1;simp only[J.b6] at fw;have U:=(h.aK eh).aK aU;have dS:=aU.get ay;generalize aq T s.at_=q;obtain⟨k,x,z,p⟩:=q;have aJ:=aR.push H1 (.row false 3 [[.str [],.an,.int .i64 p]])
 have lT:=J.ca H1 (.row false 3 [[.str [],.an,.int .i64 p]]);simp-implicitDefEqProofs(disch:=try exact ag) only[bj,bO,fE,am,dy,aQ,dy,Nat.reduceAdd,Nat.reduceLeDiff,reduceIte,I.cells,eu,fl,dD,J.h8,Tok.v];refine aY (wK (U.aK aJ)) ?_;rintro _ cQ ⟨rfl,m3,ae⟩;refine⟨m3.1,?_⟩;have jy:=m3.1;simp only[J.b6] at jy;have eK:=m3.get (aJ.get dS) Z;have mj:=m3.get lT Z;have gL:=J.aW mj;generalize da T s=o at ae we ⊢;obtain⟨nm,jH⟩:=o;simp only at ae we ⊢;have FG:=((((eh.mut (· =r)).trans (aU.mut _)).trans (aJ.mut _)).trans m3);have yf:=FG.de (l:=H1.next) (.inr Z) (.row false 3 [[.str nm,.an,.int .i64 p]]);have al:=h.mut yf (show c1 _ r aj jH by unfold c1;rw[J.get_set_other Z];exact ae.rd)
 have fV:(cQ.set H1.next (.row false 3 [[.str nm,.an,.int .i64 p]])).get H.next=some (.row false 3 [[.str [],.an,.int .i64 0]]):=by rw[J.get_set_other Z];exact eK
 have iD:(cQ.set H1.next (.row false 3 [[.str nm,.an,.int .i64 p]])).get H1.next=some (.row false 3 [[.str nm,.an,.int .i64 p]]):=J.get_set_same gL
 simp-implicitDefEqProofs(disch:=try exact ag) only[bj,bO,fE,am,dy,aQ,dy,Nat.reduceAdd,Nat.reduceLeDiff,reduceIte,I.cells,eu,fl,dD,mj];refine aY (ly al [123] (by simp)) ?_;rintro _ dc ⟨rfl,m5,aB⟩;refine⟨m5.1,?_⟩;have nV:=m5.1;simp only[J.e9] at nV;have gu:=m5.get fV Z;have jD:=m5.get iD Z;have oP:lu H dc r H.next H1.next dc.next 3 T aj [.str [],.an,.int .i64 0] (.str nm) [.int .i64 p] [] .an (cq T [123] jH):=⟨aB,gu,jD,.nil,cB.A2 (yf.trans m5),ax,bL _,Z,Z,bL _⟩
 refine Pj h (s':=j9) (l':=l') (λfX v aG=> ?_) n (n+1) dc _ [] .an (Nat.lt_succ_self _) (by simpa using aV) oP we;unfold vl;refine aY (ly aG.dj [125] (by simp)) ?_;rintro _ fY ⟨rfl,m7,iw⟩;refine⟨m7.1,?_⟩;have aP:=aG.mut m7 iw;have s6:=aP.two;have ao3:=aP.cell;have F_:=aP.ho.one;have arT:=J.aW s6;have hc:=j_ F_;simp only[I.cells] at hc;have FH:nR r H.next H (fY.set H.next (.row false 3 [[.str nm,v,.int .i64 p]])):=aP.m.de (.inr (bL _)) _
 have bn:=h.zO FH (s':=cq T [125] j9) (by unfold c1;rw[J.get_set_other Z];exact aP.dj.rd);have oG:fF ga (bG H.next) (fY.set H.next (.row false 3 [[.str nm,v,.int .i64 p]])) l' v:=aP.ho.bo λk x ah g=>⟨by unfold bG at ah ⊢;omega,by have:=aP.eL;unfold bG at ah;rw[J.get_set_other Z];exact g⟩
 simp-implicitDefEqProofs(disch:=try exact ag) only[bj,bO,fE,am,dy,aQ,dy,Nat.reduceAdd,Nat.reduceLeDiff,reduceIte,I.cells,eu,fl,dD,s6,ao3,F_];exact a8.2 ⟨⟨_,rfl,v,rfl,oG.aM⟩,FH.mt,bn⟩
end
end
section
set_option maxRecDepth 100000
noncomputable section
def zs(G:av)(N:Nat)(Y aC:I)(H:J):O:=
 aL H (G 85 [Y,(.str [125])] H) λc6 U=>
 some (aC,U)
theorem aeN(G:av)(N:Nat): ∀R H,cA P G N (Code.snd (Code.snd (Code.snd (Code.snd (di Tryz.f61))))) (b_ Tryz.f61) [] (b_ Tryz.f61) R H=zs G N (R 0) (R 3) H:=by
 refine ds (aN _) λR H=> ?_
 delta zs;kernel_rfl
def Hd(G:av)(N:Nat)(bE:I->I->J->O)(Y aC:I)(H:J):O:=
 aL H (G 25 [Y] H) λbu U=>
 aD bu true U (dw Y) λbF aa=>
 aD bu true aa (λq=>fo aa (G 27 [bF,(.str [125])] aa) q) λcr ae=>
 aD bu true ae (bm (fh .not cr)) λb8 al=>
 ab (cW bu (some b8) (some (.bool false))) λcb=>
 bQ (some cb) (aL al (G 84 [Y] al) λbX aB=>
 dA aB (dH P (aB).next 44 1 [(0,bX)]) λbI aG=>
 aL aG (fM P aG [44,44] aC bI) λcc aP=>
 bE Y cc aP) (zs G N Y aC al)
def zt(G:av)(N:Nat):Nat->I->I->J->O
 |0,_,_,_=>none
 |n+1,Y,aC,H=>Hd G N (zt G N n) Y aC H
theorem aeM(G:av)(N:Nat)(bE:I->I->J->O): ∀R H,cA P G N (Code.fst (Code.fst (Code.fst (Code.snd (Code.snd (Code.snd (di Tryz.f61))))))) (λR H=>bE (R 0) (R 3) H) [(0,(λR H=>zs G N (R 0) (R 3) H))] (b_ Tryz.f61) R H=Hd G N bE (R 0) (R 3) H:=by
 refine ds (aN _) λR H=> ?_
 delta Hd;generalize zs G N=ba;revert ba;refine id ?_;intro ba;kernel_rfl
def IY(G:av)(N:Nat)(Y:I)(H:J):O:=
 aL H (G 83 [Y,(.str [123])] H) λbf U=>
 zt G N N Y I.an U
theorem ako(G:av)(N:Nat)(Y:I)(H:J):bp Tryz.f61 G N (cF [Y]) H=IY G N Y H:=by
 refine cP (A:=bp Tryz.f61 G N) ((br ad ((br ad ((br ad ((br ad (aeN G N) ((fL ad ((gD (k:=λm R H=>zt G N m (R 0) (R 3) H) ad (λR H=>ad) (λm=>aeM G N (zt G N m)))))))) (aN _))) (aN _))) (aN _))) ?_;delta IY;generalize zt G N N=ba;revert ba;refine id ?_;intro ba;kernel_rfl
theorem amp(N:Nat){Y:I}{H:J}{r:I×J}(h:IY (au P ao) N Y H=some r):au P ao 61 [Y] H=some r:=
 cV ad Tryz.func61 ad ad ad ((ako (au P ao) N Y H).trans h)
def lD(G:av)(ap a_:I)(H:J):O:=
 ab (am P H 98 a_) λaon=>
 a1 H (aQ P H 98 ap aon) λU=>
 ab (am P U 98 ap) λr=>
 some (r,U)
theorem ae2(G:av)(N:Nat): ∀R H,cA P G N (Code.snd (Code.snd (Code.snd (Code.snd (di Tryz.f84))))) (b_ Tryz.f84) [] (b_ Tryz.f84) R H=lD G (R 2) (R 4) H:=by
 refine ds (aN _) λR H=> ?_
 delta lD;kernel_rfl
def zx(G:av)(Y ap a_:I)(H:J):O:=
 aL H (G 31 [Y,(.str [59])] H) λgw U=>
 lD G ap a_ U
theorem ae4(G:av)(N:Nat): ∀R H,cA P G N (Code.snd (Code.snd (Code.snd (Code.snd (Code.snd (Code.snd (Code.fst (Code.snd (Code.fst (Code.fst (Code.snd (Code.snd (Code.snd (di Tryz.f84)))))))))))))) (λR H=>lD G (R 2) (R 4) H) [(0,(λR H=>lD G (R 2) (R 4) H))] (b_ Tryz.f84) R H=zx G (R 0) (R 2) (R 4) H:=by
 refine ds (aN _) λR H=> ?_
 delta zx;generalize lD G=ba;revert ba;refine id ?_;intro ba;kernel_rfl
def zy(G:av)(Y ap a_:I)(H:J):O:=
 aL H (G 31 [Y,(.str [59])] H) λH9 U=>
 lD G ap a_ U
theorem ae5(G:av)(N:Nat): ∀R H,cA P G N (Code.snd (Code.snd (Code.snd (Code.fst (Code.snd (Code.snd (Code.snd (Code.snd (Code.snd (Code.snd (Code.snd (Code.fst (Code.fst (Code.snd (Code.snd (Code.snd (di Tryz.f84))))))))))))))))) (λR H=>lD G (R 2) (R 4) H) [(0,(λR H=>lD G (R 2) (R 4) H))] (b_ Tryz.f84) R H=zy G (R 0) (R 2) (R 4) H:=by
 refine ds (aN _) λR H=> ?_
 delta zy;generalize lD G=ba;revert ba;refine id ?_;intro ba;kernel_rfl
def vx(G:av)(Y ap:I)(aC a_ b0:I)(H:J):O:=
 bQ (some b0) (ab (b7 Y) λc6=>
 ab (aF P 63 c6 1) λcN=>
 ab (am P H 3 cN) λcz=>
 ab (aZ P .add 3 true cz (.int .i64 1)) λc7=>
 ab (b7 Y) λcI=>
 ab (aF P 63 cI 1) λdb=>
 a1 H (aQ P H 3 db c7) λU=>
 ab (aF P 98 a_ 0) λdn=>
 a1 U (aQ P U 3 dn (.int .i64 1)) λaa=>
 aL aa (G 59 [Y] aa) λdh ae=>
 ab (aF P 98 a_ 1) λdT=>
 a1 ae (aQ P ae 9 dT dh) λal=>
 aL al (G 31 [Y,(.str [58])] al) λcH aB=>
 aL aB (G 60 [Y] aB) λdV aG=>
 ab (aF P 98 a_ 2) λef=>
 a1 aG (aQ P aG 43 ef dV) λaP=>
 ab (aF P 57 aC 1) λe6=>
 ab (am P aP 9 e6) λeg=>
 ab (aZ P .eql 9 true eg (.str [108,101,116])) λej=>
 bQ (some ej) (ab (aF P 98 a_ 0) λed=>
 a1 aP (aQ P aP 3 ed (.int .i64 2)) λbn=>
 aL bn (G 31 [Y,(.str [61])] bn) λft bH=>
 aL bH (G 109 [Y,(.int .i64 0)] bH) λfy co=>
 dA co (dH P (co).next 96 1 [(0,fy)]) λfW dp=>
 ab (aF P 98 a_ 3) λgv=>
 a1 dp (aQ P dp 96 gv fW) λdR=>
 zx G Y ap a_ dR) (zx G Y ap a_ aP)) (aL H (G 27 [Y,(.str [105,102])] H) λju U=>
 bQ (some ju) (ab (b7 Y) λh1=>
 ab (aF P 63 h1 1) λhV=>
 ab (am P U 3 hV) λgx=>
 ab (aZ P .add 3 true gx (.int .i64 1)) λkm=>
 ab (b7 Y) λjQ=>
 ab (aF P 63 jQ 1) λiR=>
 a1 U (aQ P U 3 iR km) λaa=>
 ab (aF P 98 a_ 0) λnL=>
 a1 aa (aQ P aa 3 nL (.int .i64 5)) λae=>
 aL ae (G 109 [Y,(.int .i64 0)] ae) λkR al=>
 dA al (dH P (al).next 96 1 [(0,kR)]) λnM aB=>
 ab (aF P 98 a_ 3) λjF=>
 a1 aB (aQ P aB 96 jF nM) λaG=>
 aL aG (G 61 [Y] aG) λjR aP=>
 ab (aF P 98 a_ 4) λlq=>
 a1 aP (aQ P aP 44 lq jR) λbn=>
 aL bn (G 27 [Y,(.str [101,108,115,101])] bn) λmw bH=>
 bQ (some mw) (ab (b7 Y) λpq=>
 ab (aF P 63 pq 1) λhn=>
 ab (am P bH 3 hn) λkn=>
 ab (aZ P .add 3 true kn (.int .i64 1)) λAN=>
 ab (b7 Y) λnO=>
 ab (aF P 63 nO 1) λpr=>
 a1 bH (aQ P bH 3 pr AN) λco=>
 aL co (G 61 [Y] co) λnP dp=>
 ab (aF P 98 a_ 5) λwy=>
 a1 dp (aQ P dp 44 wy nP) λdR=>
 lD G ap a_ dR) (lD G ap a_ bH)) (aL U (G 27 [Y,(.str [119,104,105,108,101])] U) λAO aa=>
 bQ (some AO) (ab (b7 Y) λqs=>
 ab (aF P 63 qs 1) λre=>
 ab (am P aa 3 re) λrf=>
 ab (aZ P .add 3 true rf (.int .i64 1)) λAP=>
 ab (b7 Y) λrh=>
 ab (aF P 63 rh 1) λqt=>
 a1 aa (aQ P aa 3 qt AP) λae=>
 ab (aF P 98 a_ 0) λyq=>
 a1 ae (aQ P ae 3 yq (.int .i64 6)) λal=>
 aL al (G 109 [Y,(.int .i64 0)] al) λwz aB=>
 dA aB (dH P (aB).next 96 1 [(0,wz)]) λuR aG=>
 ab (aF P 98 a_ 3) λoO=>
 a1 aG (aQ P aG 96 oO uR) λaP=>
 aL aP (G 61 [Y] aP) λAQ bn=>
 ab (aF P 98 a_ 4) λFS=>
 a1 bn (aQ P bn 44 FS AQ) λbH=>
 lD G ap a_ bH) (aL aa (G 27 [Y,(.str [114,101,116,117,114,110])] aa) λAR ae=>
 bQ (some AR) (ab (b7 Y) λqu=>
 ab (aF P 63 qu 1) λFU=>
 ab (am P ae 3 FU) λvV=>
 ab (aZ P .add 3 true vV (.int .i64 1)) λAf=>
 ab (b7 Y) λEW=>
 ab (aF P 63 EW 1) λCK=>
 a1 ae (aQ P ae 3 CK Af) λal=>
 ab (aF P 98 a_ 0) λx5=>
 a1 al (aQ P al 3 x5 (.int .i64 7)) λaB=>
 aL aB (G 27 [Y,(.str [59])] aB) λMN aG=>
 ab (fh .not MN) λAg=>
 bQ (some Ag) (aL aG (G 109 [Y,(.int .i64 0)] aG) λEY aP=>
 dA aP (dH P (aP).next 96 1 [(0,EY)]) λEZ bn=>
 ab (aF P 98 a_ 3) λE0=>
 a1 bn (aQ P bn 96 E0 EZ) λbH=>
 zy G Y ap a_ bH) (zy G Y ap a_ aG)) (aL ae (G 27 [Y,(.str [112,114,105,110,116])] ae) λE1 al=>
 bQ (some E1) (ab (b7 Y) λvX=>
 ab (aF P 63 vX 1) λE2=>
 ab (am P al 3 E2) λE3=>
 ab (aZ P .add 3 true E3 (.int .i64 1)) λMO=>
 ab (b7 Y) λMP=>
 ab (aF P 63 MP 1) λaok=>
 a1 al (aQ P al 3 aok MO) λaB=>
 ab (aF P 98 a_ 0) λaol=>
 a1 aB (aQ P aB 3 aol (.int .i64 8)) λaG=>
 aL aG (G 109 [Y,(.int .i64 0)] aG) λE4 aP=>
 dA aP (dH P (aP).next 96 1 [(0,E4)]) λE5 bn=>
 ab (aF P 98 a_ 3) λMQ=>
 a1 bn (aQ P bn 96 MQ E5) λbH=>
 aL bH (G 31 [Y,(.str [59])] bH) λark co=>
 lD G ap a_ co) (ab (am P al 98 a_) λb8=>
 aL al (G 110 [Y,b8] al) λcb aB=>
 a1 aB (aQ P aB 98 ap cb) λaG=>
 ab (am P aG 98 ap) λr=>
 some (r,aG))))))
theorem ae3(G:av)(N:Nat): ∀R H,cA P G N (Code.snd (Code.fst (Code.fst (Code.snd (Code.snd (Code.snd (di Tryz.f84))))))) (λR H=>lD G (R 2) (R 4) H) [(0,(λR H=>lD G (R 2) (R 4) H))] (b_ Tryz.f84) R H=vx G (R 0) (R 2) (R 3) (R 4) (R 13) H:=by
 refine ds ((qF ad ((br ad ((br ad ((br ad ((br ad ((br ad ((br ad (ae4 G N) (aN _))) (aN _))) (aN _))) (aN _))) (aN _))) (aN _))) ((br ad ((qF ad (aN _) ((br ad ((qF ad (aN _) ((br ad ((qF ad ((br ad ((br ad ((br ad (ae5 G N) (aN _))) (aN _))) (aN _))) (aN _))) (aN _))))) (aN _))))) (aN _))))) λR H=> ?_
 delta vx;generalize zy G=ba;generalize lD G=lZ;generalize zx G=ZP;revert ba lZ ZP;refine id ?_;intro ba lZ ZP;kernel_rfl
def FN(G:av)(Y:I)(H:J):O:=
 cv H [(.int .i64 0),(.str []),(.str []),(.int .i64 0),I.an,I.an,I.an,(.int .i64 0),(.int .i64 0)] λap U=>
 aL U (G 26 [Y] U) λbB aa=>
 cv aa [(.int .i64 0),(.str []),(.int .i64 0),(.int .i64 0)] λaC ae=>
 a1 ae (aQ P ae 57 aC bB) λal=>
 ab (aF P 57 aC 3) λbu=>
 ab (am P al 3 bu) λbS=>
 ab (cM P 98 [(6,bS)]) λbF=>
 cv al [(.int .i64 0),(.str []),(.str []),(.int .i64 0),I.an,I.an,I.an,(.int .i64 0),(.int .i64 0)] λa_ aB=>
 a1 aB (aQ P aB 98 a_ bF) λaG=>
 aL aG (G 27 [Y,(.str [118,97,114])] aG) λbX aP=>
 bQ (some bX) (vx G Y ap aC a_ bX aP) (aL aP (G 27 [Y,(.str [108,101,116])] aP) λcc bn=>
 vx G Y ap aC a_ cc bn)
theorem akJ(G:av)(N:Nat)(Y:I)(H:J):bp Tryz.f84 G N (cF [Y]) H=FN G Y H:=by
 refine cP (A:=bp Tryz.f84 G N) ((br ad ((br ad ((br ad ((br ad (ae2 G N) ((fL ad ((br ad (ae3 G N) (aN _))))))) (aN _))) (aN _))) (aN _))) ?_;delta FN;generalize vx G=ba;revert ba;refine id ?_;intro ba;kernel_rfl
theorem amK(N:Nat){Y:I}{H:J}{r:I×J}(h:FN (au P ao) Y H=some r):au P ao 84 [Y] H=some r:=
 cV ad Tryz.func84 ad ad ad ((akJ (au P ao) N Y H).trans h)
def wZ(G:av)(Y aC:I)(a_ bf:I)(H:J):O:=
 aL H (G 31 [Y,(.str [61])] H) λeU U=>
 aL U (G 109 [Y,(.int .i64 0)] U) λgb aa=>
 cv aa [(.int .i64 0),(.int .i64 0),(.str []),(.str []),(.int .i64 0),I.an,(.int .i64 0),(.int .i64 0),(.int .i64 0),(.int .i64 0),(.int .i64 0)] λbB ae=>
 a1 ae (aQ P ae 103 bB gb) λal=>
 aL al (G 31 [Y,(.str [59])] al) λju aB=>
 ab (aF P 103 bf 0) λhv=>
 ab (am P aB 3 hv) λh1=>
 ab (aZ P .eql 3 true h1 (.int .i64 4)) λhV=>
 bQ (some hV) (ab (aF P 98 aC 0) λgx=>
 a1 aB (aQ P aB 3 gx (.int .i64 3)) λaG=>
 ab (aF P 103 bf 2) λkm=>
 ab (am P aG 9 km) λjQ=>
 ab (aF P 98 aC 1) λiR=>
 a1 aG (aQ P aG 9 iR jQ) λaP=>
 ab (am P aP 103 bB) λnL=>
 dA aP (dH P (aP).next 96 1 [(0,nL)]) λwx bn=>
 ab (aF P 98 aC 3) λkR=>
 a1 bn (aQ P bn 96 kR wx) λbH=>
 ab (am P bH 98 aC) λnM=>
 a1 bH (aQ P bH 98 a_ nM) λco=>
 ab (am P co 98 a_) λr=>
 some (r,co)) (ab (aF P 98 aC 0) λjF=>
 a1 aB (aQ P aB 3 jF (.int .i64 4)) λaG=>
 ab (am P aG 103 bf) λrc=>
 ab (am P aG 103 bB) λjR=>
 dA aG (dH P (aG).next 96 2 [(0,rc),(1,jR)]) λlq aP=>
 ab (aF P 98 aC 3) λnN=>
 a1 aP (aQ P aP 96 nN lq) λbn=>
 ab (am P bn 98 aC) λmw=>
 a1 bn (aQ P bn 98 a_ mw) λbH=>
 ab (am P bH 98 a_) λr=>
 some (r,bH))
theorem acH(G:av)(N:Nat): ∀R H,cA P G N (Code.snd (Code.snd (Code.snd (Code.snd (di Tryz.f110))))) (b_ Tryz.f110) [] (b_ Tryz.f110) R H=wZ G (R 0) (R 3) (R 4) (R 5) H:=by
 refine ds (aN _) λR H=> ?_
 delta wZ;kernel_rfl
def BQ(G:av)(Y aC:I)(a_ bf:I)(H:J):O:=
 ab (aF P 103 bf 0) λdT=>
 ab (am P H 3 dT) λdI=>
 ab (aZ P .neq 3 true dI (.int .i64 4)) λcH=>
 aD cH true H (bm (aF P 103 bf 0)) λdV U=>
 aD cH true U (qr (am P U 3 dV)) λef aa=>
 aD cH true aa (bm (aZ P .neq 3 true ef (.int .i64 5))) λe6 ae=>
 ab (cW cH (some e6) (some (.bool false))) λeg=>
 aD eg true ae (bm (aF P 103 bf 0)) λed al=>
 aD eg true al (qr (am P al 3 ed)) λfj aB=>
 aD eg true aB (bm (aZ P .neq 3 true fj (.int .i64 6))) λft aG=>
 ab (cW eg (some ft) (some (.bool false))) λe7=>
 bQ (some e7) (aL aG (G 28 [Y,(.int .i64 2)] aG) λfW aP=>
 wZ G Y aC a_ bf aP) (wZ G Y aC a_ bf aG)
theorem acG(G:av)(N:Nat): ∀R H,cA P G N (Code.snd (Code.snd (Code.snd (di Tryz.f110)))) (b_ Tryz.f110) [] (b_ Tryz.f110) R H=BQ G (R 0) (R 3) (R 4) (R 5) H:=by
 refine ds ((br ad (acH G N) (aN _))) λR H=> ?_
 delta BQ;generalize wZ G=ba;revert ba;refine id ?_;intro ba;kernel_rfl
def w1(G:av)(Y aC a_:I)(H:J):O:=
 aL H (G 31 [Y,(.str [59])] H) λdu U=>
 ab (am P U 98 aC) λdh=>
 a1 U (aQ P U 98 a_ dh) λaa=>
 ab (am P aa 98 a_) λr=>
 some (r,aa)
theorem acI(G:av)(N:Nat): ∀R H,cA P G N (Code.snd (Code.snd (Code.snd (Code.fst (Code.snd (Code.fst (Code.snd (Code.snd (di Tryz.f110))))))))) (λR H=>BQ G (R 0) (R 3) (R 4) (R 5) H) [] (b_ Tryz.f110) R H=w1 G (R 0) (R 3) (R 4) H:=by
 refine ds (aN _) λR H=> ?_
 delta w1;kernel_rfl
def r0(G:av)(Y ai:I)(H:J):O:=
 dA H (eW (H).next ai) λaC U=>
 cv U [(.int .i64 0),(.str []),(.str []),(.int .i64 0),I.an,I.an,I.an,(.int .i64 0),(.int .i64 0)] λa_ aa=>
 aL aa (G 109 [Y,(.int .i64 0)] aa) λbS ae=>
 cv ae [(.int .i64 0),(.int .i64 0),(.str []),(.str []),(.int .i64 0),I.an,(.int .i64 0),(.int .i64 0),(.int .i64 0),(.int .i64 0),(.int .i64 0)] λbf al=>
 a1 al (aQ P al 103 bf bS) λaB=>
 aL aB (G 27 [Y,(.str [61])] aB) λcr aG=>
 ab (fh .not cr) λb8=>
 bQ (some b8) (ab (aF P 98 aC 0) λcb=>
 a1 aG (aQ P aG 3 cb (.int .i64 9)) λaP=>
 ab (am P aP 103 bf) λb0=>
 dA aP (dH P (aP).next 96 1 [(0,b0)]) λbT bn=>
 ab (aF P 98 aC 3) λbX=>
 a1 bn (aQ P bn 96 bX bT) λbH=>
 aL bH (G 27 [Y,(.str [59])] bH) λcc co=>
 aD cc true co (bm (aF P 103 bf 0)) λc6 dp=>
 aD cc true dp (qr (am P dp 3 c6)) λcN dR=>
 aD cc true dR (bm (aZ P .neq 3 true cN (.int .i64 7))) λcz eF=>
 ab (cW cc (some cz) (some (.bool false))) λc7=>
 bQ (some c7) (aL eF (G 28 [Y,(.int .i64 2)] eF) λdb fs=>
 w1 G Y aC a_ fs) (w1 G Y aC a_ eF)) (BQ G Y aC a_ bf aG)
theorem ahf(G:av)(N:Nat)(Y:I)(ai:I)(H:J):bp Tryz.f110 G N (cF [Y,ai]) H=r0 G Y ai H:=by
 refine cP (A:=bp Tryz.f110 G N) ((br ad ((br ad ((br ad (acG G N) ((br ad ((qF ad ((br ad ((br ad ((br ad (acI G N) (aN _))) (aN _))) (aN _))) (aN _))) (aN _))))) (aN _))) (aN _))) ?_;delta r0;generalize BQ G=ba;generalize w1 G=lZ;revert ba lZ;refine id ?_;intro ba lZ;kernel_rfl
theorem aiR(N:Nat){Y ai:I}{H:J}{r:I×J}(h:r0 (au P ao) Y ai H=some r):au P ao 110 [Y,ai] H=some r:=
 cV ad Tryz.func110 ad ad ad ((ahf (au P ao) N Y ai H).trans h)
end
end
section
theorem Bp{H:J}{r:Nat}{T:List Tok}{aj:I}{s:aw}(aH:T.length<=20000000)(af:c8 H r T aj s):W (au P ao 109 [.ptr r 0 0,.int .i64 0] H) (g7 H r T aj (dx T s).1 (dx T s).2):=by
 obtain⟨p,q,-,aa,-,-⟩:=GC (T:=T) Z T.length s (DW _ _) 0 800000000 800000000 Z Z Z;have:dx T s=q:=by simp only[dx,aa]
 rw[this];exact(SI 800000000 Z 800000000 (bL _)).expr af 0 Z q.1 q.2 aa
theorem acv{H0 H:J}{r:Nat}{T:List Tok}{aj:I}{s0 s:aw}(bt:c8 H0 r T aj s0)(bM:cB r H0 H)(cp:c1 H r aj s){a:dv}{es:List bh}{ev:I}(ah:dO H (bG (H0.next+2)) es ev)(g3:H.get H0.next=some (.row false 9 [a.cells ev .an .an]))(g4:H.get (H0.next+1)=some (.row false 9 [[.int .i64 0,.str [],.str [],.int .i64 0,.an,.an,.an,.int .i64 0,.int .i64 0]])):
  W (w1 (au P ao) (.ptr r 0 0) (.ptr H0.next 0 0) (.ptr (H0.next+1) 0 0) H) (gE H0 r T aj (.mk a es [] []) (cq T [59] s)):=by
 have ax:=bt.rd.lt;have Oq:=J.aW g4;have bs:=ah.gq;rw[w1];refine aY (ly (bt.mut bM cp) [59] (by simp)) ?_;rintro _ H1 ⟨rfl,m1,dt⟩;refine⟨m1.1,?_⟩;have ae:=m1.get g3 Z;have al:=m1.get g4 Z;have hO:=J.aW al;simp only[dv.cells] at ae;simp-implicitDefEqProofs(disch:=try exact ag) only[r0,reduceAdd,reduceLeDiff,reduceIte,az,ea,ae,al,bs];exact a8.2 (gE.fin (a:=a) bt (bM.trans m1) dt.rd (ah.bo (e_.mut m1 (by unfold bG;omega) λ_ h=>h)) (eC.nil _ _) (eC.nil _ _) Z (lo:=H0.next+2) Z _)
theorem gE.two{H cu dU:J}{r:Nat}{T:List Tok}{aj:I}{s s':aw}{a:dv}{es:List bh}{ev:I}(af:c8 H r T aj s)(sl:cB r H cu)(bb:c1 cu r aj s')(aV:cu.next<=dU.next)(ak: ∀l,l<cu.next->l≠H.next->l≠H.next+1->dU.get l=cu.get l)
  (ah:e_ cu (bG (H.next+2)) dU (bG H.next)->dO dU (bG H.next) es ev):gE H r T aj (.mk a es [] []) s' (.agg (a.cells ev .an .an)) dU:=by
 have ax:=af.rd.lt;have al:=sl.1;have m:cB r H dU:=⟨Z,λl U aa=>by rw[ak l Z Z Z];exact sl.2 l U aa⟩;refine⟨m,af.mut m ?_,tN.2 ⟨ev,.an,.an,rfl,ah λl ro els h g=>⟨by unfold bG at*;omega,?_⟩,eC.nil _ _,eC.nil _ _⟩⟩
 ·have:=bb.lt;unfold c1 at bb ⊢;rw[ak r Z Z Z];exact bb
 ·have:=J.aW g;unfold bG at h;rw[ak l Z Z Z];exact g
theorem ad4{H0 H:J}{r:Nat}{T:List Tok}{aj:I}{s0 s:aw}(aH:T.length<=20000000)(bt:c8 H0 r T aj s0)(bM:cB r H0 H)(cp:c1 H r aj s){pos:Int}{a:fm}{bR:List bh}{kv:I}{b:Nat}(he:ec H (λl=>H0.next+2<=l/\l<b) (.mk a bR) (.agg (a.cells kv)))(ay:H0.next+2<=b)
  (g3:H.get H0.next=some (.row false 9 [dv.cells {kind:=0,pos:=pos} .an .an .an])) (g4:H.get (H0.next+1)=some (.row false 9 [[.int .i64 0,.str [],.str [],.int .i64 0,.an,.an,.an,.int .i64 0,.int .i64 0]])) (g5:H.get b=some (.row false 11 [a.cells kv])):
  W (wZ (au P ao) (.ptr r 0 0) (.ptr H0.next 0 0) (.ptr (H0.next+1) 0 0) (.ptr b 0 0) H) (gE H0 r T aj (cy.at pos (bif a.kind==4 then .mk {kind:=3,name:=a.name} [(dx T (cq T [61] s)).1] [] [] else .mk {kind:=4} [.mk a bR,(dx T (cq T [61] s)).1] [] [])) (cq T [59] (dx T (cq T [61] s)).2)):=by
 have ax:=bt.rd.lt;have apU:=J.aW g5;rw[wZ];refine aY (ly (bt.mut bM cp) [61] (by simp)) ?_;rintro _ H1 ⟨rfl,m1,dt⟩;refine⟨m1.1,?_⟩;have fw:=m1.1;generalize cq T [61] s=s1 at dt ⊢;simp-implicitDefEqProofs(disch:=try exact ag) only[r0,reduceAdd,reduceLeDiff,reduceIte,az,ea];refine aY (Bp aH dt) ?_;rintro v bl ⟨m2,cK,bw⟩;refine⟨m2.1,?_⟩;have n2:=m2.1;obtain⟨cs,rfl,bJ,cZ⟩:=bw.cells;generalize dx T s1=bc at cK bw ⊢;simp-implicitDefEqProofs(disch:=try exact ag) only[r0,reduceAdd,reduceLeDiff,reduceIte,az,ea,bJ,cZ,List.append_nil];have bz:=aR.push bl (.row false 11 [cs]);refine aY (ly (cK.aK bz) [59] (by simp)) ?_
 rintro _ cu ⟨rfl,m4,fa⟩;refine⟨m4.1,?_⟩;have mz:=m4.1;simp only[J.b6] at mz;have oP:=cK.rd.lt;have dP:=m4.get (bz.get (m2.get (m1.get g3 Z) Z)) Z;have gd:=m4.get (bz.get (m2.get (m1.get g4 Z) Z)) Z;have nU:=m4.get (bz.get (m2.get (m1.get g5 Z) Z)) Z;have jT:=m4.get (J.ca bl (.row false 11 [cs])) Z;have apW:=J.aW dP;have NQ:=J.aW gd;have m24:=(bz.mut (· =r)).trans m4;have sl:=(((bM.trans m1).trans m2).trans m24);have t1:List.take 11 cs=cs:=List.take_of_length_le Z;have Fu:=bw.mut (ok':=bG (H0.next+2)) m24 (by unfold bG;have:=dt.rd.lt;omega) λl h=>by unfold bG at*;omega
 have i6:ec cu (bG (H0.next+2)) (.mk a bR) (.agg (a.cells kv)):=he.mut ((m1.trans m2).trans m24) Z λl h=>by unfold bG;omega
 obtain⟨NO,wi,Nr⟩:=lA.1 he;have EB:=Nr.gq;have ie:NO=kv:=by
  have:=congrArg (λv=>match v with|I.agg cs=>cs[5]? |_=>none) wi;simpa [fm.cells] using this.symm
 rw[ie] at EB;have A4:(a.cells kv).all I.one=true:=by simp only[fm.cells,List.all_cons,List.all_nil,iy,jJ,EB,Bool.and_self]
 simp only[dv.cells] at dP;cases ah:a.kind==4 with
 |true=>
  have aO: ∀l,dH P l 96 1 [(0,.agg cs)]=some (.aM l 0 1 11 (some 1),.row false 11 [cs]):=λl=>jK l cs bJ cZ
  simp only[fm.cells] at nU;simp-implicitDefEqProofs(disch:=try exact ag) only[r0,reduceAdd,reduceLeDiff,reduceIte,az,ea,dP,gd,nU,jT,ah,t1,aO,J.h8];refine a8.2 (gE.two (a:={kind:=3,name:=a.name,pos:=pos}) bt sl fa.rd ?_ ?_ λk=>dO.qO (ro:=false) ?_ (by unfold bG;omega) (ec.bo k _ _ Fu))
  ·simp only[J.b6,J.e9];omega
  ·intro l cE cx eM;simp-implicitDefEqProofs(disch:=try exact ag) only[dD]
  ·simp-implicitDefEqProofs(disch:=try exact ag) only[dD]
 |false=>
  have aO: ∀l,dH P l 96 2 [(0,.agg (a.cells kv)),(1,.agg cs)]=some (.aM l 0 2 11 (some 2),.row false 11 [a.cells kv,cs]):=λl=>B9 l (a.cells kv) cs rfl A4 bJ cZ
  have Zk:=nU;simp only[fm.cells] at Zk aO;simp-implicitDefEqProofs(disch:=try exact ag) only[r0,reduceAdd,reduceLeDiff,reduceIte,az,ea,dP,gd,Zk,jT,ah,t1,aO,J.h8];refine a8.2 (gE.two (a:={kind:=4,pos:=pos}) bt sl fa.rd ?_ ?_ λk=>dO.B_ (ro:=false) ?_ (by unfold bG;omega) (ec.bo k _ _ i6) (ec.bo k _ _ Fu))
  ·simp only[J.b6,J.e9];omega
  ·intro l cE cx eM;simp-implicitDefEqProofs(disch:=try exact ag) only[dD]
  ·simp-implicitDefEqProofs(disch:=try exact ag) only[dD,fm.cells]
theorem abD{H:J}{r:Nat}{T:List Tok}{aj:I}{s:aw}(aH:T.length<=20000000)(af:c8 H r T aj s)(pos:Int):W (au P ao 110 [.ptr r 0 0,.agg (dv.cells {kind:=0,pos:=pos} .an .an .an)] H) (gE H r T aj ((nr T s).1.at pos) (nr T s).2):=by
 refine cU (λ_=>aiR 0) ?_;have ax:=af.rd.lt;have ic: ∀l,eW l (.agg (dv.cells {kind:=0,pos:=pos} .an .an .an))=some (.ptr l 0 0,.row false 9 [dv.cells {kind:=0,pos:=pos} .an .an .an]):=λl=>ij l _ rfl
 have aU:=(aR.push H (.row false 9 [dv.cells {kind:=0,pos:=pos} .an .an .an])).bV (.row false 9 [[.int .i64 0,.str [],.str [],.int .i64 0,.an,.an,.an,.int .i64 0,.int .i64 0]]);simp-implicitDefEqProofs(disch:=try exact ag) only[r0,reduceAdd,reduceLeDiff,reduceIte,az,ea,ic];refine aY (Bp aH (af.aK aU)) ?_;rintro v bl ⟨m2,cK,he⟩;refine⟨m2.1,?_⟩;have n2:=m2.1;simp only[J.b6] at n2;unfold nr;obtain⟨cs,rfl,bJ,cZ⟩:=he.cells;have t1:List.take 11 cs=cs:=List.take_of_length_le Z;have g3:bl.get H.next=some (.row false 9 [dv.cells {kind:=0,pos:=pos} .an .an .an]):=m2.get (by simp-implicitDefEqProofs(disch:=try exact ag) only[dD]) Z
 have g4:=m2.get (J.ca (H.push (.row false 9 [dv.cells {kind:=0,pos:=pos} .an .an .an])) (.row false 9 [[.int .i64 0,.str [],.str [],.int .i64 0,.an,.an,.an,.int .i64 0,.int .i64 0]])) (by simp only[J.b6];omega);simp only[J.b6] at g4;generalize dx T s=bc at cK he ⊢;simp-implicitDefEqProofs(disch:=try exact ag) only[r0,reduceAdd,reduceLeDiff,reduceIte,az,ea,bJ,cZ,List.append_nil];have bz:=aR.push bl (.row false 11 [cs]);refine aY (gI (cK.rd.aK bz) (cK.b9.aK bz) [61] (by simp)) ?_;rintro _ cu ⟨rfl,bK⟩;refine⟨bK.1,?_⟩;have mz:=bK.1;simp only[J.b6] at mz;have pn:=bz.trans bK;have dP:=pn.get g3;have gd:=pn.get g4
 have jx:=bK.get (J.ca bl (.row false 11 [cs]));have apW:=J.aW dP;have arX:=J.aW jx;have i6:ec cu (λl=>H.next+2<=l/\l<bl.next) bc.1 (.agg cs):=ec.bo (e_.aK pn λl h=>by simpa only[bG,J.b6] using h) _ _ he.below;have bM:=((aU.mut (· =r)).trans m2).trans (pn.mut _);have fa:=cK.aK pn;cases ay:b2 T bc.2 [61] with
 |true=>
  simp-implicitDefEqProofs(disch:=try exact ag) only[r0,reduceAdd,reduceLeDiff,reduceIte,az,ea,Bool.not_true];unfold xB;have fin: ∀(dc:J) (a:fm) (bR:List bh) (kv:I),ec dc (λl=>H.next+2<=l/\l<bl.next) (.mk a bR) (.agg (a.cells kv))->cB r H dc->c1 dc r aj (bif iO (.mk a bR) then cL T 2 bc.2 else bc.2)->dc.get H.next=some (.row false 9 [dv.cells {kind:=0,pos:=pos} .an .an .an])->dc.get (H.next+1)=some (.row false 9 [[.int .i64 0,.str [],.str [],.int .i64 0,.an,.an,.an,.int .i64 0,.int .i64 0]])->dc.get bl.next=some (.row false 11 [a.cells kv])->
    W (wZ (au P ao) (.ptr r 0 0) (.ptr H.next 0 0) (.ptr (H.next+1) 0 0) (.ptr bl.next 0 0) dc) (gE H r T aj (cy.at pos (bif (bh.mk a bR).kind==4 then .mk {kind:=3,name:=(bh.mk a bR).name} [(dx T (mh T (.mk a bR) bc.2)).1] [] [] else .mk {kind:=4} [.mk a bR,(dx T (mh T (.mk a bR) bc.2)).1] [] [])) (cq T [59] (dx T (mh T (.mk a bR) bc.2)).2)):=
   λdc a bR kv h m5 d5 eM eB eN=>ad4 aH af m5 d5 h Z eM eB eN
  rcases fQ:bc.1 with⟨a,bR⟩;rw[fQ] at i6;obtain⟨kv,iZ,-⟩:=lA.1 i6;simp only[I.agg.injEq] at iZ;subst iZ;have C6:=jx;simp only[fm.cells] at C6;simp-implicitDefEqProofs(disch:=try exact ag) only[BQ,reduceAdd,reduceLeDiff,reduceIte,az,C6];have Mi:=λ(h:iO (.mk a bR)=false)=>fin cu a bR kv i6 bM (by rw[h];exact fa.rd) dP gd jx
  cases eB:(a.kind != 4) with
  |false=>
   simp-implicitDefEqProofs(disch:=try exact ag) only[reduceAdd,reduceLeDiff,reduceIte,az,C6];exact Mi (by simp only[iO,bh.kind,eB,Bool.false_and])
  |true=>
   cases eN:(a.kind != 5) with
   |false=>
    simp-implicitDefEqProofs(disch:=try exact ag) only[reduceAdd,reduceLeDiff,reduceIte,az,C6,eN];exact Mi (by simp only[iO,bh.kind,eB,eN,Bool.false_and,Bool.and_false])
   |true=>
    cases gC:(a.kind != 6) with
    |false=>
     simp-implicitDefEqProofs(disch:=try exact ag) only[reduceAdd,reduceLeDiff,reduceIte,az,C6,eN,gC];exact Mi (by simp only[iO,bh.kind,eB,eN,gC,Bool.and_false])
    |true=>
     simp-implicitDefEqProofs(disch:=try exact ag) only[reduceAdd,reduceLeDiff,reduceIte,az,C6,eN,gC];refine aY (sv fa 2) ?_;rintro _ dc ⟨rfl,m5,ff⟩;refine⟨m5.1,?_⟩;exact fin dc a bR kv (i6.mut m5 Z λ_ h=>h) (bM.trans m5) (by rw[show iO (.mk a bR)=true by simp only[iO,bh.kind,eB,eN,gC,Bool.and_self]];exact ff.rd) (m5.get dP Z) (m5.get gd Z) (m5.get jx Z)
 |false=>
  have aO: ∀l,dH P l 96 1 [(0,.agg cs)]=some (.aM l 0 1 11 (some 1),.row false 11 [cs]):=λl=>jK l cs bJ cZ
  have FC:=dP;simp only[dv.cells] at FC;simp-implicitDefEqProofs(disch:=try exact ag) only[r0,reduceAdd,reduceLeDiff,reduceIte,az,ea,Bool.not_false,FC,gd,jx,t1,aO,J.h8];have ak: ∀l,l<cu.next->l≠H.next->((cu.set H.next (.row false 9 [dv.cells {kind:=9,pos:=pos} (.aM cu.next 0 1 11 (some 1)) .an .an])).push (.row false 11 [cs])).get l=cu.get l:=λl U aa=>by simp-implicitDefEqProofs(disch:=try exact ag) only[dD]
  have m5:cB r H ((cu.set H.next (.row false 9 [dv.cells {kind:=9,pos:=pos} (.aM cu.next 0 1 11 (some 1)) .an .an])).push (.row false 11 [cs])):=(bM.de (.inr (bL _)) _).bV _;have d5:c1 ((cu.set H.next (.row false 9 [dv.cells {kind:=9,pos:=pos} (.aM cu.next 0 1 11 (some 1)) .an .an])).push (.row false 11 [cs])) r aj bc.2:=by
   have h:=fa.rd;have:=h.lt;unfold c1 at h ⊢;rw[ak r Z Z];exact h
  have NP:dO ((cu.set H.next (.row false 9 [dv.cells {kind:=9,pos:=pos} (.aM cu.next 0 1 11 (some 1)) .an .an])).push (.row false 11 [cs])) (bG (H.next+2)) [bc.1] (.aM cu.next 0 1 11 (some 1)):=
   dO.qO (ro:=false) (by simp-implicitDefEqProofs(disch:=try exact ag) only[dD]) (by unfold bG;omega) (ec.bo (λl ro els h g=>⟨by unfold bG;omega,by rw[ak l Z Z];exact g⟩) _ _ i6)
  have eM:((cu.set H.next (.row false 9 [dv.cells {kind:=9,pos:=pos} (.aM cu.next 0 1 11 (some 1)) .an .an])).push (.row false 11 [cs])).get H.next=some (.row false 9 [dv.cells {kind:=9,pos:=pos} (.aM cu.next 0 1 11 (some 1)) .an .an]):=by simp-implicitDefEqProofs(disch:=try exact ag) only[dD]
  have eB:=(ak (H.next+1) Z Z).trans gd;have eN:=(ak bl.next Z Z).trans jx;simp only[dv.cells] at m5 d5 NP eM eB eN;generalize (cu.set H.next (.row false 9 [[I.int .i64 9,.str [],.str [],.int .i64 0,.aM cu.next 0 1 11 (some 1),.an,.an,.int .i64 pos,.int .i64 0]])).push (.row false 11 [cs])=dc at m5 d5 NP eM eB eN ⊢;have ff:=af.mut m5 d5;refine aY (gI d5 ff.b9 [59] (by simp)) ?_;rintro _ fX ⟨rfl,e2⟩;refine⟨e2.1,?_⟩;have fin: ∀(fY:J) (pA:aw),cB r fX fY->c1 fY r aj pA->W (w1 (au P ao) (.ptr r 0 0) (.ptr H.next 0 0) (.ptr (H.next+1) 0 0) fY) (gE H r T aj (.mk {kind:=9,pos:=pos} [bc.1] [] []) (cq T [59] pA)):=λfY pA m7 d7=>
   acv af ((m5.trans (e2.mut _)).trans m7) d7 (NP.bo (e_.mut ((e2.mut _).trans m7) (by unfold bG;omega) λ_ h=>h)) (m7.get (e2.get eM) Z) (m7.get (e2.get eB) Z)
  have hC:=ff.aK e2;cases Ij:b2 T bc.2 [59] with
  |false=>
   simp-implicitDefEqProofs(disch:=try exact ag) only[reduceAdd,reduceLeDiff,reduceIte,az];simp only[Bool.false_and,bi];exact fin fX _ (dE.refl _ _) hC.rd
  |true=>
   have gC:=e2.get eN;rcases fQ:bc.1 with⟨a,bR⟩;rw[fQ] at i6 fin;obtain⟨kv,iZ,-⟩:=lA.1 i6;simp only[I.agg.injEq] at iZ;subst iZ;simp only[fm.cells] at gC;cases ah:(a.kind != 7) with
   |false=>
    simp-implicitDefEqProofs(disch:=try exact ag) only[reduceAdd,reduceLeDiff,reduceIte,az,gC,ah];simp only[bh.kind,ah,Bool.and_false,bi];exact fin fX _ (dE.refl _ _) hC.rd
   |true=>
    simp-implicitDefEqProofs(disch:=try exact ag) only[reduceAdd,reduceLeDiff,reduceIte,az,gC,ah];simp only[bh.kind,ah,Bool.and_self,bx];refine aY (sv hC 2) ?_;rintro _ fY ⟨rfl,m7,oJ⟩;refine⟨m7.1,?_⟩;exact fin fY _ m7 oJ.rd
end
section
def GP(n:Nat):Prop:= ∀{H:J} {r:Nat} {T:List Tok} {aj:I} {s:aw},T.length<=20000000->c8 H r T aj s-> ∀(e:cy) (s':aw),rU T n s=some (e,s')->W (au P ao 84 [.ptr r 0 0] H) (gE H r T aj e s')
def GG(n:Nat):Prop:= ∀{H:J} {r:Nat} {T:List Tok} {aj:I} {s:aw},T.length<=20000000->c8 H r T aj s-> ∀(l:List cy) (s':aw),jX T n s=some (l,s')->W (au P ao 61 [.ptr r 0 0] H) λv H'=>cB r H H'/\c8 H' r T aj s'/\eC H' (bG H.next) l v
theorem Qt{M:Nat}{H0 H:J}{r:Nat}{T:List Tok}{aj:I}{s0 s:aw}(bt:c8 H0 r T aj s0)(bM:cB r H0 H)(cp:c1 H r aj s){l:List cy}{v:I}(bw:eC H (bG H0.next) l v):
  W (zs (au P ao) M (.ptr r 0 0) v H) λdr H'=>cB r H0 H'/\c8 H' r T aj (f0 T [125] s)/\eC H' (bG H0.next) l dr:=by
 have ax:=bt.rd.lt;rw[zs];refine aY (Bc (bt.mut bM cp) [125] (by simp)) ?_;rintro _ H1 ⟨rfl,m1,dt⟩;refine⟨m1.1,?_⟩;exact a8.2 ⟨bM.trans m1,dt,bw.bo (fD.mut m1 (by unfold bG;omega) λ_ h=>h)⟩
theorem WC{N M:Nat}(aT: ∀k,k<N->GP k){H0:J}{r:Nat}{T:List Tok}{aj:I}{s0:aw}(aH:T.length<=20000000)(bt:c8 H0 r T aj s0):
  ∀(n m:Nat),n<=N->n<m-> ∀(H:J) (s:aw) (l:List cy) (v:I),cB r H0 H->c1 H r aj s->l.length+n<=1000000000->ur H0.next H l v-> ∀(l':List cy) (s':aw),mK T n l s=some (l',s')->
   W (zt (au P ao) M m (.ptr r 0 0) v H) λdr H'=>cB r H0 H'/\c8 H' r T aj (f0 T [125] s')/\eC H' (bG H0.next) l' dr
 |0,m,dX,hm,H,s,l,v,bM,cp,hlen,ay,l',s',h=>by simp[mK] at h
 |n+1,0,dX,hm,H,s,l,v,bM,cp,hlen,ay,l',s',h=>Z
 |n+1,m+1,dX,hm,H,s,l,v,bM,cp,hlen,ay,l',s',h=>by
  have ax:=bt.rd.lt;have hle:=bM.1;have af:=bt.mut bM cp;simp only[mK] at h;simp only[zt];rw[Hd];refine aY (tB cp) ?_;rintro _ H1 ⟨rfl,rfl⟩;refine⟨bL _,?_⟩;by_cases ak:s.aA=0
  ·have eX:(s.aA==0)=true:=by simp[ak]
   simp-implicitDefEqProofs(disch:=try exact ag) only[reduceAdd,reduceLeDiff,reduceIte,az,eX];refine hh (gI cp af.b9 [125] (by simp)) ?_;rintro _ bl ⟨rfl,aJ⟩;refine⟨aJ.1,?_⟩;have cn:=ay.mut (aJ.mut (· =r)) ax;cases be:b2 T s [125] with
   |true=>
    simp only[eX,be,Bool.not_true,Bool.and_false,bi,bD,dz] at h;obtain⟨rfl,rfl⟩:=h;simp-implicitDefEqProofs(disch:=try exact ag) only[reduceAdd,reduceLeDiff,reduceIte,az,eX,Bool.not_true,Bool.not_false];exact Qt bt (bM.trans (aJ.mut _)) (af.aK aJ).rd cn.Jn
   |false=>
    simp only[eX,be,Bool.not_false,Bool.and_self,bx,eT] at h;obtain⟨⟨aI,s1⟩,U,aa⟩:=h;simp-implicitDefEqProofs(disch:=try exact ag) only[reduceAdd,reduceLeDiff,reduceIte,az,eX,Bool.not_true,Bool.not_false];refine aY (aT n Z aH (af.aK aJ) aI s1 U) ?_;rintro w cQ ⟨m3,eY,he⟩;refine⟨m3.1,?_⟩;obtain⟨cs,rfl,bJ,cZ⟩:=he.cells;have eK:=cn.mut m3 ax;have jy:=m3.1;have n2:=aJ.1;obtain⟨dr,H',b1,hZ,fG,hk⟩:=eK.app he Z (λL k c bw=>by
     rcases cn with⟨cE,_⟩|⟨L',els,cE,cx,_⟩
     ·rw[cE] at bw;cases bw
     ·rw[cE] at bw;cases bw;exact J.aW cx) Z Z
    have aO:=λl=>VQ l cs bJ cZ
    simp-implicitDefEqProofs(disch:=try exact ag) only[reduceAdd,reduceLeDiff,reduceIte,az,aO,b1,ks];have Da:cB r H0 H':=⟨by have:=bM.1;omega,λk ah a7=>by
     rw[fG.2 k Z Z];exact((bM.trans (aJ.mut _)).trans m3).2 k ah a7⟩
    have iQ:c1 H' r aj s1:=fG.get eY.rd Z;exact WC aT aH bt n m Z Z H' s1 (l++[aI]) dr Da iQ (by simp only[List.length_append,List.length_cons,List.length_nil];omega) hZ l' s' aa
  ·have eX:(s.aA==0)=false:=by simpa using ak
   simp only[eX,Bool.false_and,bi,bD,dz] at h;obtain⟨rfl,rfl⟩:=h;simp-implicitDefEqProofs(disch:=try exact ag) only[reduceAdd,reduceLeDiff,reduceIte,az,eX,Bool.not_true];exact Qt bt bM cp ay.Jn
theorem abA{n:Nat}(aV:n<=1000000000)(aT: ∀k,k<n->GP k):GG (n+1):=by
 intro H r T aj s aH af l s' h;refine cU (λ_=>amp (n+1)) ?_;simp only[jX,eT] at h;obtain⟨⟨eI,s1⟩,U,aa⟩:=h;simp only[bD,dz] at aa;obtain⟨rfl,rfl⟩:=aa;rw[IY];refine aY (Bk af [123] (by simp)) ?_;rintro _ H1 ⟨rfl,m1,dt⟩;refine⟨m1.1,?_⟩;exact WC aT aH af n (n+1) (bL _) Z H1 _ [] .an m1 dt.rd (by simpa using aV) (.inl ⟨rfl,rfl⟩) eI s1 U
structure j7(H0 H:J)(r b3 ez:Nat)(aj:I)(t:Tok)(s:aw)(c:List I):Prop where
 m:cB r H0 H
 rd:c1 H r aj s
 g2:H.get H0.next=some (.row false 9 [[.int .i64 0,.str [],.str [],.int .i64 0,.an,.an,.an,.int .i64 0,.int .i64 0]])
 g3:H.get b3=some (.row false 4 [[.int .i64 t.kind,.str t.text,.int .i64 t.n,.int .i64 t.pos]])
 g4:H.get ez=some (.row false 9 [c])
 gL:H0.next<b3
 hO:b3<ez
theorem j7.mut{H0 H H':J}{r b3 ez:Nat}{aj:I}{t:Tok}{s s':aw}{c:List I}(h:j7 H0 H r b3 ez aj t s c)(a7:r<H0.next)(m:cB r H H')(bb:c1 H' r aj s'):j7 H0 H' r b3 ez aj t s' c:=
 ⟨h.m.trans m,bb,m.get h.g2 Z,m.get h.g3 (by have:=h.gL;omega),m.get h.g4 (by have:=h.gL;have:=h.hO;omega),h.gL,h.hO⟩
theorem j7.set{H0 H:J}{r b3 ez:Nat}{aj:I}{t:Tok}{s:aw}{c:List I}(h:j7 H0 H r b3 ez aj t s c)(a7:r<H0.next)(c':List I):j7 H0 (H.set ez (.row false 9 [c'])) r b3 ez aj t s c':=by
 have ae:=h.gL;have al:=h.hO;refine⟨h.m.de (.inr Z) _,?_,?_,?_,J.get_set_same (J.aW h.g4),ae,al⟩
 ·have:=h.rd;unfold c1 at this ⊢;rw[J.get_set_other Z];exact this
 ·rw[J.get_set_other Z];exact h.g2
 ·rw[J.get_set_other Z];exact h.g3
theorem j7.push{H0 H:J}{r b3 ez:Nat}{aj:I}{t:Tok}{s:aw}{c:List I}(h:j7 H0 H r b3 ez aj t s c)(a7:r<H0.next)(gW:dZ):j7 H0 (H.push gW) r b3 ez aj t s c:=
 h.mut a7 ((aR.push H gW).mut _) (h.rd.aK (aR.push H gW))
section
variable {H0 H:J}{r b3 ez:Nat}{T:List Tok}{aj:I}{s0 s:aw}{t:Tok}
theorem Bw(bt:c8 H0 r T aj s0){a:dv}{es:List bh}{c_ bJ:List cy}{ev bv fu:I}(b:j7 H0 H r b3 ez aj t s (a.cells ev bv fu))(U:dO H (bG (ez+1)) es ev)(aa:eC H (bG (ez+1)) c_ bv)(ae:eC H (bG (ez+1)) bJ fu):
  W (lD (au P ao) (.ptr H0.next 0 0) (.ptr ez 0 0) H) (gE H0 r T aj (.mk a es c_ bJ) s):=by
 have cZ:=U.gq;have dk:=aa.gq;have dJ:=ae.gq;have g2:=b.g2;have g3:=b.g4;have fB:=J.aW g2;have eM:=b.gL;have eB:=b.hO;simp only[dv.cells] at g3;simp-implicitDefEqProofs(disch:=try exact ag) only[lD,reduceAdd,reduceLeDiff,reduceIte,az,ea,g2,g3,cZ,dk,dJ];exact a8.2 (gE.fin (a:=a) bt b.m b.rd U aa ae (bL _) Z _)
theorem j7.expr(a7:r<H0.next){e:bh}{cs c c':List I}{L:Nat}(b:j7 H0 H r b3 ez aj t s c)(he:ec H (bG (ez+1)) e (.agg cs))(gA:L=H.next):j7 H0 ((H.set ez (.row false 9 [c'])).push (.row false 11 [cs])) r b3 ez aj t s c'/\dO ((H.set ez (.row false 9 [c'])).push (.row false 11 [cs])) (bG (ez+1)) [e] (.aM L 0 1 11 (some 1)):=by
 subst gA;have al:=J.aW b.g4;refine⟨(b.set a7 c').push a7 _,dO.qO (ro:=false) ?_ (by unfold bG;omega) (ec.bo ?_ e _ he)⟩
 ·exact J.ca (H.set ez (.row false 9 [c'])) _
 ·intro l ro els h g;refine⟨h,?_⟩;unfold bG at h;exact(aR.push _ _).get (by rw[J.get_set_other Z];exact g)
theorem Ri(bt:c8 H0 r T aj s0){a:dv}{es:List bh}{ev:I}(b:j7 H0 H r b3 ez aj t s (a.cells ev .an .an))(U:dO H (bG (ez+1)) es ev):
  W (zx (au P ao) (.ptr r 0 0) (.ptr H0.next 0 0) (.ptr ez 0 0) H) (gE H0 r T aj (.mk a es [] []) (cq T [59] s)):=by
 have ax:=bt.rd.lt;have eM:=b.gL;have eB:=b.hO;rw[zx];refine aY (ly (bt.mut b.m b.rd) [59] (by simp)) ?_;rintro _ H1 ⟨rfl,m1,dt⟩;refine⟨m1.1,?_⟩;exact Bw bt (b.mut ax m1 dt.rd) (U.bo (e_.mut m1 (by unfold bG;omega) λ_ h=>h)) (eC.nil _ _) (eC.nil _ _)
theorem Sv(bt:c8 H0 r T aj s0){a:dv}{es:List bh}{ev:I}(b:j7 H0 H r b3 ez aj t s (a.cells ev .an .an))(U:dO H (bG (ez+1)) es ev):
  W (zy (au P ao) (.ptr r 0 0) (.ptr H0.next 0 0) (.ptr ez 0 0) H) (gE H0 r T aj (.mk a es [] []) (cq T [59] s)):=by
 have ax:=bt.rd.lt;have eM:=b.gL;have eB:=b.hO;rw[zy];refine aY (ly (bt.mut b.m b.rd) [59] (by simp)) ?_;rintro _ H1 ⟨rfl,m1,dt⟩;refine⟨m1.1,?_⟩;exact Bw bt (b.mut ax m1 dt.rd) (U.bo (e_.mut m1 (by unfold bG;omega) λ_ h=>h)) (eC.nil _ _) (eC.nil _ _)
end
end
end Go.Proofs.YtghmbpmaafnodaaGreatDoor
