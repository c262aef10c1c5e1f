/-
  Texts of one proof, laid together: ShPc Qk Sk ShQa Ql Ra Rb Rc.
-/
import Derived.Test.YtghmbpmaafnodaaGreatDoorMD
import Derived.Test.YtghmbpmaafnodaaGreatDoorMR
import Derived.Test.YtghmbpmaafnodaaGreatDoorMK
set_option linter.unusedVariables false
set_option linter.unusedSimpArgs false
namespace Go.Proofs.YtghmbpmaafnodaaGreatDoor
open Go.f7
open Nat (reduceAdd reduceLeDiff)
section
set_option maxRecDepth 100000
noncomputable section
def IG(G:av)(Y ai:I)(H:J):O:=
 dA H (eW (H).next Y) λap U=>
 dA U (eW (U).next ai) λaC aa=>
 ab (aF P 26 ap 0) λbf=>
 ab (am P aa 22 bf) λbB=>
 ab (aF P 26 aC 0) λbu=>
 ab (am P aa 22 bu) λbS=>
 aL aa (G 40 [bB,bS,(.func (.func 41) [] [])] aa) λbF ae=>
 aD bF true ae (bm (aF P 26 ap 1)) λb8 al=>
 aD bF true al (qr (am P al 23 b8)) λcb aB=>
 aD bF true aB (bm (aF P 26 aC 1)) λb0 aG=>
 aD bF true aG (qr (am P aG 23 b0)) λbT aP=>
 aD bF true aP (λq=>fo aP (G 42 [cb,bT,(.func (.func 43) [] [])] aP) q) λbX bn=>
 ab (cW bF (some bX) (some (.bool false))) λbI=>
 aD bI true bn (bm (aF P 26 ap 2)) λcG bH=>
 aD bI true bH (qr (am P bH 24 cG)) λc6 co=>
 aD bI true co (bm (aF P 26 aC 2)) λcN dp=>
 aD bI true dp (qr (am P dp 24 cN)) λcz dR=>
 aD bI true dR (λq=>fo dR (G 44 [c6,cz,(.func (.func 45) [] [])] dR) q) λc7 eF=>
 ab (cW bI (some c7) (some (.bool false))) λcI=>
 some (cI,eF)
theorem ajK(G:av)(N:Nat)(Y:I)(ai:I)(H:J):bp Tryz.f14 G N (cF [Y,ai]) H=IG G Y ai H:=by
 refine cP (A:=bp Tryz.f14 G N) (aN _) ?_;delta IG;kernel_rfl
theorem alL(N:Nat){Y ai:I}{H:J}{r:I×J}(h:IG (au P ao) Y ai H=some r):au P ao 14 [Y,ai] H=some r:=
 cV ad Tryz.func14 ad ad ad ((ajK (au P ao) N Y ai H).trans h)
def tX(G:av)(N:Nat)(H:J):O:=
 some ((.bool true),H)
theorem aeu(G:av)(N:Nat): ∀R H,cA P G N (Code.snd (Code.snd (Code.snd (di Tryz.f40)))) (b_ Tryz.f40) [] (b_ Tryz.f40) R H=tX G N H:=by
 refine ds (aN _) λR H=> ?_
 delta tX;kernel_rfl
def zo(G:av)(N:Nat)(bE:I->I->I->I->I->J->O)(ai ap:I)(bX bI cc:I)(H:J):O:=
 ab (aZ P .lss 3 false cc bI) λcG=>
 bQ (some cG) (ab (en P 22 bX cc) λcN=>
 ab (am P H 41 cN) λcz=>
 cv H [(.str []),I.an,(.int .i64 0)] λbS U=>
 a1 U (aQ P U 41 bS cz) λaa=>
 ab (en P 22 ai cc) λdb=>
 ab (am P aa 41 db) λdn=>
 cv aa [(.str []),I.an,(.int .i64 0)] λbF ae=>
 a1 ae (aQ P ae 41 bF dn) λal=>
 ab (am P al 41 bS) λdh=>
 ab (am P al 41 bF) λdT=>
 qR G al ap [dh,dT] λdI aB=>
 ab (fh .not dI) λcH=>
 bQ (some cH) (some ((.bool false),aB)) (ab (aZ P .add 3 true cc (.int .i64 1)) λep=>
 bE ai ap bX bI ep aB)) (tX G N H)
def vo(G:av)(N:Nat):Nat->I->I->I->I->I->J->O
 |0,_,_,_,_,_,_=>none
 |n+1,ai,ap,bX,bI,cc,H=>zo G N (vo G N n) ai ap bX bI cc H
theorem aet(G:av)(N:Nat)(bE:I->I->I->I->I->J->O): ∀R H,cA P G N (Code.fst (Code.fst (Code.snd (Code.fst (Code.snd (Code.snd (di Tryz.f40))))))) (λR H=>bE (R 1) (R 2) (R 15) (R 16) (R 17) H) [(0,(λR H=>tX G N H))] (b_ Tryz.f40) R H=zo G N bE (R 1) (R 2) (R 15) (R 16) (R 17) H:=by
 refine ds (aN _) λR H=> ?_
 delta zo;generalize tX G N=ba;revert ba;refine id ?_;intro ba;kernel_rfl
def yi(G:av)(N:Nat)(Y ai ap:I)(H:J):O:=
 bj P .len [22] [Y] H λb8=>
 bj P .len [22] [ai] H λb0=>
 ab (aZ P .neq 3 false b8 b0) λbT=>
 bQ (some bT) (some ((.bool false),H)) (bj P .len [22] [Y] H λbI=>
 vo G N N ai ap Y bI (.int .i64 0) H)
theorem aj4(G:av)(N:Nat)(Y:I)(ai:I)(ap:I)(H:J):bp Tryz.f40 G N (cF [Y,ai,ap]) H=yi G N Y ai ap H:=by
 refine cP (A:=bp Tryz.f40 G N) ((br ad ((br ad ((br ad (aeu G N) ((br ad ((fL ad ((gD (k:=λm R H=>vo G N m (R 1) (R 2) (R 15) (R 16) (R 17) H) ad (λR H=>ad) (λm=>aet G N (vo G N m)))))) (aN _))))) (aN _))) (aN _))) ?_;delta yi;generalize vo G N N=ba;revert ba;refine id ?_;intro ba;kernel_rfl
theorem al5(N:Nat){Y ai ap:I}{H:J}{r:I×J}(h:yi (au P ao) N Y ai ap H=some r):au P ao 40 [Y,ai,ap] H=some r:=
 cV ad Tryz.func40 ad ad ad ((aj4 (au P ao) N Y ai ap H).trans h)
def FJ(G:av)(Y ai:I)(H:J):O:=
 dA H (eW (H).next Y) λap U=>
 dA U (eW (U).next ai) λaC aa=>
 ab (aF P 41 ap 0) λbf=>
 ab (am P aa 9 bf) λbB=>
 ab (aF P 41 aC 0) λbu=>
 ab (am P aa 9 bu) λbS=>
 ab (aZ P .eql 9 false bB bS) λbF=>
 aD bF true aa (bm (aF P 41 ap 1)) λb8 ae=>
 aD bF true ae (qr (am P ae 23 b8)) λcb al=>
 aD bF true al (bm (aF P 41 aC 1)) λb0 aB=>
 aD bF true aB (qr (am P aB 23 b0)) λbT aG=>
 aD bF true aG (λq=>fo aG (G 42 [cb,bT,(.func (.func 43) [] [])] aG) q) λbX aP=>
 ab (cW bF (some bX) (some (.bool false))) λbI=>
 some (bI,aP)
theorem aj5(G:av)(N:Nat)(Y:I)(ai:I)(H:J):bp Tryz.f41 G N (cF [Y,ai]) H=FJ G Y ai H:=by
 refine cP (A:=bp Tryz.f41 G N) (aN _) ?_;delta FJ;kernel_rfl
theorem al6(N:Nat){Y ai:I}{H:J}{r:I×J}(h:FJ (au P ao) Y ai H=some r):au P ao 41 [Y,ai] H=some r:=
 cV ad Tryz.func41 ad ad ad ((aj5 (au P ao) N Y ai H).trans h)
def tY(G:av)(N:Nat)(H:J):O:=
 some ((.bool true),H)
theorem aew(G:av)(N:Nat): ∀R H,cA P G N (Code.snd (Code.snd (Code.snd (di Tryz.f42)))) (b_ Tryz.f42) [] (b_ Tryz.f42) R H=tY G N H:=by
 refine ds (aN _) λR H=> ?_
 delta tY;kernel_rfl
def zp(G:av)(N:Nat)(bE:I->I->I->I->I->J->O)(ai ap:I)(bX bI cc:I)(H:J):O:=
 ab (aZ P .lss 3 false cc bI) λcG=>
 bQ (some cG) (ab (en P 23 bX cc) λcN=>
 ab (am P H 66 cN) λcz=>
 cv H [(.str []),(.str []),(.int .i64 0),(.int .i64 0)] λbS U=>
 a1 U (aQ P U 66 bS cz) λaa=>
 ab (en P 23 ai cc) λdb=>
 ab (am P aa 66 db) λdn=>
 cv aa [(.str []),(.str []),(.int .i64 0),(.int .i64 0)] λbF ae=>
 a1 ae (aQ P ae 66 bF dn) λal=>
 ab (am P al 66 bS) λdh=>
 ab (am P al 66 bF) λdT=>
 qR G al ap [dh,dT] λdI aB=>
 ab (fh .not dI) λcH=>
 bQ (some cH) (some ((.bool false),aB)) (ab (aZ P .add 3 true cc (.int .i64 1)) λep=>
 bE ai ap bX bI ep aB)) (tY G N H)
def vp(G:av)(N:Nat):Nat->I->I->I->I->I->J->O
 |0,_,_,_,_,_,_=>none
 |n+1,ai,ap,bX,bI,cc,H=>zp G N (vp G N n) ai ap bX bI cc H
theorem aev(G:av)(N:Nat)(bE:I->I->I->I->I->J->O): ∀R H,cA P G N (Code.fst (Code.fst (Code.snd (Code.fst (Code.snd (Code.snd (di Tryz.f42))))))) (λR H=>bE (R 1) (R 2) (R 15) (R 16) (R 17) H) [(0,(λR H=>tY G N H))] (b_ Tryz.f42) R H=zp G N bE (R 1) (R 2) (R 15) (R 16) (R 17) H:=by
 refine ds (aN _) λR H=> ?_
 delta zp;generalize tY G N=ba;revert ba;refine id ?_;intro ba;kernel_rfl
def yj(G:av)(N:Nat)(Y ai ap:I)(H:J):O:=
 bj P .len [23] [Y] H λb8=>
 bj P .len [23] [ai] H λb0=>
 ab (aZ P .neq 3 false b8 b0) λbT=>
 bQ (some bT) (some ((.bool false),H)) (bj P .len [23] [Y] H λbI=>
 vp G N N ai ap Y bI (.int .i64 0) H)
theorem aj6(G:av)(N:Nat)(Y:I)(ai:I)(ap:I)(H:J):bp Tryz.f42 G N (cF [Y,ai,ap]) H=yj G N Y ai ap H:=by
 refine cP (A:=bp Tryz.f42 G N) ((br ad ((br ad ((br ad (aew G N) ((br ad ((fL ad ((gD (k:=λm R H=>vp G N m (R 1) (R 2) (R 15) (R 16) (R 17) H) ad (λR H=>ad) (λm=>aev G N (vp G N m)))))) (aN _))))) (aN _))) (aN _))) ?_;delta yj;generalize vp G N N=ba;revert ba;refine id ?_;intro ba;kernel_rfl
theorem al7(N:Nat){Y ai ap:I}{H:J}{r:I×J}(h:yj (au P ao) N Y ai ap H=some r):au P ao 42 [Y,ai,ap] H=some r:=
 cV ad Tryz.func42 ad ad ad ((aj6 (au P ao) N Y ai ap H).trans h)
def FK(G:av)(Y ai:I)(H:J):O:=
 dA H (eW (H).next Y) λap U=>
 dA U (eW (U).next ai) λaC aa=>
 ab (aF P 66 ap 0) λbf=>
 ab (am P aa 9 bf) λbB=>
 ab (aF P 66 aC 0) λbu=>
 ab (am P aa 9 bu) λbS=>
 ab (aZ P .eql 9 false bB bS) λbF=>
 aD bF true aa (bm (aF P 66 ap 1)) λb8 ae=>
 aD bF true ae (qr (am P ae 43 b8)) λcb al=>
 aD bF true al (bm (aF P 66 aC 1)) λb0 aB=>
 aD bF true aB (qr (am P aB 43 b0)) λbT aG=>
 aD bF true aG (bm (aZ P .eql 43 false cb bT)) λbX aP=>
 ab (cW bF (some bX) (some (.bool false))) λbI=>
 some (bI,aP)
theorem aj7(G:av)(N:Nat)(Y:I)(ai:I)(H:J):bp Tryz.f43 G N (cF [Y,ai]) H=FK G Y ai H:=by
 refine cP (A:=bp Tryz.f43 G N) (aN _) ?_;delta FK;kernel_rfl
theorem al8(N:Nat){Y ai:I}{H:J}{r:I×J}(h:FK (au P ao) Y ai H=some r):au P ao 43 [Y,ai] H=some r:=
 cV ad Tryz.func43 ad ad ad ((aj7 (au P ao) N Y ai H).trans h)
def tZ(G:av)(N:Nat)(H:J):O:=
 some ((.bool true),H)
theorem aey(G:av)(N:Nat): ∀R H,cA P G N (Code.snd (Code.snd (Code.snd (di Tryz.f44)))) (b_ Tryz.f44) [] (b_ Tryz.f44) R H=tZ G N H:=by
 refine ds (aN _) λR H=> ?_
 delta tZ;kernel_rfl
def zq(G:av)(N:Nat)(bE:I->I->I->I->I->J->O)(ai ap:I)(bX bI cc:I)(H:J):O:=
 ab (aZ P .lss 3 false cc bI) λcG=>
 bQ (some cG) (ab (en P 24 bX cc) λcN=>
 ab (am P H 46 cN) λcz=>
 cv H [(.str []),I.an,(.bool false),(.str []),(.int .i64 0),I.an,(.int .i64 0)] λbS U=>
 a1 U (aQ P U 46 bS cz) λaa=>
 ab (en P 24 ai cc) λdb=>
 ab (am P aa 46 db) λdn=>
 cv aa [(.str []),I.an,(.bool false),(.str []),(.int .i64 0),I.an,(.int .i64 0)] λbF ae=>
 a1 ae (aQ P ae 46 bF dn) λal=>
 ab (am P al 46 bS) λdh=>
 ab (am P al 46 bF) λdT=>
 qR G al ap [dh,dT] λdI aB=>
 ab (fh .not dI) λcH=>
 bQ (some cH) (some ((.bool false),aB)) (ab (aZ P .add 3 true cc (.int .i64 1)) λep=>
 bE ai ap bX bI ep aB)) (tZ G N H)
def vq(G:av)(N:Nat):Nat->I->I->I->I->I->J->O
 |0,_,_,_,_,_,_=>none
 |n+1,ai,ap,bX,bI,cc,H=>zq G N (vq G N n) ai ap bX bI cc H
theorem aex(G:av)(N:Nat)(bE:I->I->I->I->I->J->O): ∀R H,cA P G N (Code.fst (Code.fst (Code.snd (Code.fst (Code.snd (Code.snd (di Tryz.f44))))))) (λR H=>bE (R 1) (R 2) (R 15) (R 16) (R 17) H) [(0,(λR H=>tZ G N H))] (b_ Tryz.f44) R H=zq G N bE (R 1) (R 2) (R 15) (R 16) (R 17) H:=by
 refine ds (aN _) λR H=> ?_
 delta zq;generalize tZ G N=ba;revert ba;refine id ?_;intro ba;kernel_rfl
def yk(G:av)(N:Nat)(Y ai ap:I)(H:J):O:=
 bj P .len [24] [Y] H λb8=>
 bj P .len [24] [ai] H λb0=>
 ab (aZ P .neq 3 false b8 b0) λbT=>
 bQ (some bT) (some ((.bool false),H)) (bj P .len [24] [Y] H λbI=>
 vq G N N ai ap Y bI (.int .i64 0) H)
theorem aj8(G:av)(N:Nat)(Y:I)(ai:I)(ap:I)(H:J):bp Tryz.f44 G N (cF [Y,ai,ap]) H=yk G N Y ai ap H:=by
 refine cP (A:=bp Tryz.f44 G N) ((br ad ((br ad ((br ad (aey G N) ((br ad ((fL ad ((gD (k:=λm R H=>vq G N m (R 1) (R 2) (R 15) (R 16) (R 17) H) ad (λR H=>ad) (λm=>aex G N (vq G N m)))))) (aN _))))) (aN _))) (aN _))) ?_;delta yk;generalize vq G N N=ba;revert ba;refine id ?_;intro ba;kernel_rfl
theorem al9(N:Nat){Y ai ap:I}{H:J}{r:I×J}(h:yk (au P ao) N Y ai ap H=some r):au P ao 44 [Y,ai,ap] H=some r:=
 cV ad Tryz.func44 ad ad ad ((aj8 (au P ao) N Y ai ap H).trans h)
def FL(G:av)(Y ai:I)(H:J):O:=
 dA H (eW (H).next Y) λap U=>
 dA U (eW (U).next ai) λaC aa=>
 ab (aF P 46 ap 0) λbf=>
 ab (am P aa 9 bf) λbB=>
 ab (aF P 46 aC 0) λbu=>
 ab (am P aa 9 bu) λbS=>
 ab (aZ P .eql 9 false bB bS) λbF=>
 aD bF true aa (bm (aF P 46 ap 1)) λb8 ae=>
 aD bF true ae (qr (am P ae 23 b8)) λcb al=>
 aD bF true al (bm (aF P 46 aC 1)) λb0 aB=>
 aD bF true aB (qr (am P aB 23 b0)) λbT aG=>
 aD bF true aG (λq=>fo aG (G 42 [cb,bT,(.func (.func 43) [] [])] aG) q) λbX aP=>
 ab (cW bF (some bX) (some (.bool false))) λbI=>
 aD bI true aP (bm (aF P 46 ap 2)) λcG bn=>
 aD bI true bn (qr (am P bn 4 cG)) λc6 bH=>
 aD bI true bH (bm (aF P 46 aC 2)) λcN co=>
 aD bI true co (qr (am P co 4 cN)) λcz dp=>
 aD bI true dp (bm (aZ P .eql 4 false c6 cz)) λc7 dR=>
 ab (cW bI (some c7) (some (.bool false))) λcI=>
 aD cI true dR (bm (aF P 46 ap 3)) λdn eF=>
 aD cI true eF (qr (am P eF 43 dn)) λdu fs=>
 aD cI true fs (bm (aF P 46 aC 3)) λdh fP=>
 aD cI true fP (qr (am P fP 43 dh)) λdT gG=>
 aD cI true gG (bm (aZ P .eql 43 false du dT)) λdI hM=>
 ab (cW cI (some dI) (some (.bool false))) λcH=>
 aD cH true hM (bm (aF P 46 ap 4)) λdV ht=>
 aD cH true ht (qr (am P ht 44 dV)) λef kL=>
 aD cH true kL (bm (aF P 46 aC 4)) λe6 iC=>
 aD cH true iC (qr (am P iC 44 e6)) λeg hU=>
 aD cH true hU (λq=>fo hU (G 64 [ef,eg,(.func (.func 65) [] [])] hU) q) λej kM=>
 ab (cW cH (some ej) (some (.bool false))) λed=>
 some (ed,kM)
theorem aj9(G:av)(N:Nat)(Y:I)(ai:I)(H:J):bp Tryz.f45 G N (cF [Y,ai]) H=FL G Y ai H:=by
 refine cP (A:=bp Tryz.f45 G N) (aN _) ?_;delta FL;kernel_rfl
theorem al_(N:Nat){Y ai:I}{H:J}{r:I×J}(h:FL (au P ao) Y ai H=some r):au P ao 45 [Y,ai] H=some r:=
 cV ad Tryz.func45 ad ad ad ((aj9 (au P ao) N Y ai H).trans h)
end
end
section
def gh{α:Type}(f:α->α->Bool):List α->List α->Bool
 |[],[]=>true
 |a::l,b::m=>f a b&&gh f l m
 |_,_=>false
theorem wS{α:Type}{f:α->α->Bool}: ∀(l m:List α),l.length≠m.length->gh f l m=false
 |[],[],h=>absurd rfl h
 |[],_::_,_=>rfl
 |_::_,[],_=>rfl
 |a::l,b::m,h=>by rw[gh,wS l m (by simpa using h),Bool.and_false]
theorem BD{α:Type}{f:α->α->Bool}(h: ∀a,f a a=true): ∀l,gh f l l=true
 |[]=>rfl
 |a::l=>by rw[gh,h,BD h l];rfl
def iV(a b:dW):Bool:=a.name==b.name&&(a.eQ==b.eQ&&a.fS==b.fS)
def lf(a b:iG):Bool:=a.name==b.name&&gh iV a.fields b.fields
def nu(a b:Fn):Bool:=a.name==b.name&&(gh iV a.params b.params&&(a.has==b.has&&((a.fC==b.fC&&a.rd==b.rd)&&hK a.body b.body)))
def oZ(a b:eb):Bool:=gh lf a.ey b.ey&&(gh iV a.globals b.globals&&gh nu a.funcs b.funcs)
section
variable {α:Type}{K:pt α}{H:J}{ok:Nat->Prop}
theorem eR.row{l:List α}{v:I}(h:eR K H ok l v)(ax: ¬l.length=0): ∃L i cap ro els,v= .aM L i l.length K.esz cap/\H.get L=some (.row ro K.esz els)/\ ∀(j:Nat) (a:α),l[j]? =some a-> ∃cs,els[i+j]? =some cs/\K.V H ok a cs:=by
 rcases h with⟨rfl,h⟩|⟨L,i,cap,ro,els,aI,bc,dm,eS⟩|⟨L,i,cap,rfl,h⟩
 ·rw[h] at ax;exact absurd rfl ax
 ·exact⟨L,i,_,ro,els,aI,dm,eS⟩
 ·rw[h] at ax;exact absurd rfl ax
end
theorem eR.rQ{H:J}{ok:Nat->Prop}{l:List dW}{v:I}(h:eR ga H ok l v)(H':J):dC P H' .len [23] [v]=some (.int .i64 l.length):=by
 rcases h with⟨rfl,rfl⟩|⟨L,i,cap,ro,els,rfl,_⟩|⟨L,i,cap,rfl,rfl⟩
 ·exact Ht
 ·exact EH
 ·exact EH
theorem SP{Φ:dW->Prop}(ak: ∀(a b:dW) (cs bU:List I) (H:J) (ok ok':Nat->Prop),Φ a->ga.V H ok a cs->ga.V H ok' b bU->W (au P ao 43 [.agg cs,.agg bU] H) λr H'=>r= .bool (iV a b)/\aR H H'){N:Nat}{l m:List dW}(ax:l.length<=1000000000)(hm:l.length=m.length)(qp: ∀a∈l,Φ a){hf iI iu li:Nat}{kc lc:Option Nat}{mm mn:Bool}{iM iN:List (List I)}{ok ok':Nat->Prop}:
  ∀(c j n:Nat) (H:J),j+c=l.length->c<n->H.get hf=some (.row mm 4 iM)->H.get iu=some (.row mn 4 iN)->(∀(j:Nat) (a:dW),l[j]? =some a-> ∃cs,iM[iI+j]? =some cs/\ga.V H ok a cs)->(∀(j:Nat) (a:dW),m[j]? =some a-> ∃cs,iN[li+j]? =some cs/\ga.V H ok' a cs)->
  W (vp (au P ao) N n (.aM iu li m.length 4 lc) (.func (.func 43) [] []) (.aM hf iI l.length 4 kc) (.int .i64 l.length) (.int .i64 j) H) λr H'=>r= .bool (gh iV (l.drop j) (m.drop j))/\aR H H'
 |_,_,0,_,_,aV,_,_,_,_=>Z
 |0,j,n+1,H,aS,aV,aG,aP,aI,bc=>by
  have bP: ¬((j:Int)<(l.length:Int)):=Z;have d1:l.drop j=[]:=List.drop_eq_nil_of_le Z;have d2:m.drop j=[]:=List.drop_eq_nil_of_le Z;simp-implicitDefEqProofs(disch:=try exact ag) only[vp,tY,zp,yj,bj,bO,ei,bP,decide_false];exact a8.2 ⟨by rw[d1,d2];rfl,.refl _⟩
 |c+1,j,n+1,H,aS,aV,aG,aP,aI,bc=>by
  have nF:j<l.length:=Z;have nG:j<m.length:=Z;have bP:(j:Int)<(l.length:Int):=Z;have qm:(j:Int)<(m.length:Int):=Z;have a6:(0:Int)<=(j:Int):=Z;have bC:((j:Int)).toNat=j:=Z;obtain⟨cs,g1,g2⟩:=aI j l[j] (List.getElem?_eq_getElem nF);obtain⟨bU,g4,g5⟩:=bc j m[j] (List.getElem?_eq_getElem nG);obtain⟨cx,eM⟩:=ga.len g2;obtain⟨eN,gC⟩:=ga.len g5;have h6:ga.esz=4:=rfl;rw[h6] at cx eN;have ra:List.take 4 cs=cs:=List.take_of_length_le Z;have rb:List.take 4 bU=bU:=List.take_of_length_le Z;have eI:=J.aW aG;have fB:=J.aW aP;have hw:IntKind.i64.wrap ((j:Int)+1)=((j+1:Nat):Int):=by rw[wrap_i64 Z Z];omega
  have gB:=(aR.push H (.row false 4 [cs])).bV (.row false 4 [bU]);simp-implicitDefEqProofs(disch:=try exact ag) only[vp,tY,zp,yj,reduceAdd,reduceLeDiff,reduceIte,az,bP,qm,decide_true,bC,aG,aP,g1,g4,ra,rb,cx,eM,eN,gC,List.append_nil,sw,List.nil_append];refine aY (ak l[j] m[j] _ _ _ ok ok' (qp _ (List.getElem_mem _)) (ga.bo (d_.aK gB) g2) (ga.bo (d_.aK gB) g5)) ?_;rintro _ bl ⟨rfl,aJ⟩;refine⟨aJ.1,?_⟩;have dl:l.drop j=l[j]::l.drop (j+1):=List.drop_eq_getElem_cons nF;have qx:m.drop j=m[j]::m.drop (j+1):=List.drop_eq_getElem_cons nG;cases oH:iV l[j] m[j] with
  |false=>
   simp-implicitDefEqProofs(disch:=try exact ag) only[bj,bO,Bool.not_false];exact a8.2 ⟨by rw[dl,qx,gh,oH,Bool.false_and],gB.trans aJ⟩
  |true=>
   simp-implicitDefEqProofs(disch:=try exact ag) only[bj,bO,ei,Bool.not_true,hw];have pp:=gB.trans aJ;refine(SP ak ax hm qp (ok:=ok) (ok':=ok') c (j+1) n bl Z Z (pp.get aG) (pp.get aP) (λi a be=> ?_) (λi a be=> ?_)).mono ?_
   ·obtain⟨x,y,z⟩:=aI i a be;exact⟨x,y,ga.bo (d_.aK pp) z⟩
   ·obtain⟨x,y,z⟩:=bc i a be;exact⟨x,y,ga.bo (d_.aK pp) z⟩
   ·rintro v H' ⟨rfl,q⟩;exact⟨by rw[dl,qx,gh,oH,Bool.true_and],pp.trans q⟩
theorem LL{Φ:dW->Prop}(ak: ∀(a b:dW) (cs bU:List I) (H:J) (ok ok':Nat->Prop),Φ a->ga.V H ok a cs->ga.V H ok' b bU->W (au P ao 43 [.agg cs,.agg bU] H) λr H'=>r= .bool (iV a b)/\aR H H'){H:J}{l m:List dW}(ax:l.length<=1000000000)(qp: ∀a∈l,Φ a){v w:I}{ok ok':Nat->Prop}(U:eR ga H ok l v)(aa:eR ga H ok' m w):W (au P ao 42 [v,w,.func (.func 43) [] []] H) λr H'=>r= .bool (gh iV l m)/\aR H H':=by
 refine cU (λ_=>al7 (l.length+1)) ?_;have bJ:=λH'=>U.rQ H'
 have c2:=λH'=>aa.rQ H'
 have z0:((0:Nat):Int)=0:=rfl;by_cases aV:l.length=m.length
 ·by_cases ct:l.length=0
  ·have jP:m.length=0:=Z;obtain rfl:=List.length_eq_zero_iff.1 ct;obtain rfl:=List.length_eq_zero_iff.1 jP;simp-implicitDefEqProofs(disch:=try exact ag) only[vp,tY,zp,yj,reduceAdd,reduceLeDiff,reduceIte,az,bJ,c2,List.length_nil,z0,bne_self_eq_false,Int.lt_irrefl,decide_false];exact a8.2 ⟨rfl,.refl _⟩
  ·obtain⟨eI,i1,cS,gj,s3,rfl,g1,e8⟩:=U.row ct;obtain⟨fB,i2,dq,e3,v_,rfl,g2,fT⟩:=aa.row Z;have wk:((l.length:Int) != (m.length:Int))=false:=by simp;omega
   have h6:ga.esz=4:=rfl;rw[h6] at bJ c2 g1 g2 ⊢;simp-implicitDefEqProofs(disch:=try exact ag) only[tY,yj,bj,bj,bO,ei,bJ,c2,wk];have:=SP ak (N:=l.length+1) ax aV qp (kc:=cS) (lc:=dq) l.length 0 (l.length+1) H Z Z g1 g2 e8 fT;simpa using this
 ·have hk:((l.length:Int) != (m.length:Int))=true:=by simp;omega
  simp-implicitDefEqProofs(disch:=try exact ag) only[tY,zp,yj,bj,bj,bO,ei,bJ,c2,hk];exact a8.2 ⟨by rw[wS _ _ aV],.refl _⟩
theorem Lc(a b:dW)(cs bU:List I)(H:J)(ok ok':Nat->Prop)(_:True)(U:ga.V H ok a cs)(aa:ga.V H ok' b bU):W (au P ao 43 [.agg cs,.agg bU] H) λr H'=>r= .bool (iV a b)/\aR H H':=by
 obtain rfl:cs=a.cells:=U;obtain rfl:bU=b.cells:=aa;refine cU (λ_=>al8 0) ?_;have dS: ∀l,eW l (.agg a.cells)=some (.ptr l 0 0,.row false 4 [a.cells]):=λl=>ij l _ rfl
 have cn: ∀l,eW l (.agg b.cells)=some (.ptr l 0 0,.row false 4 [b.cells]):=λl=>ij l _ rfl
 have aJ:=(aR.push H (.row false 4 [a.cells])).bV (.row false 4 [b.cells]);unfold iV;simp only[dW.cells] at dS cn aJ ⊢;cases c0:a.name==b.name with
 |false=>
  simp-implicitDefEqProofs(disch:=try exact ag) only[FK,reduceAdd,reduceLeDiff,reduceIte,az,dS,cn,c0];exact a8.2 ⟨by simp only[Bool.false_and],aJ⟩
 |true=>
  simp-implicitDefEqProofs(disch:=try exact ag) only[FK,reduceAdd,reduceLeDiff,reduceIte,az,dS,cn,c0,jj];exact a8.2 ⟨by simp only[Bool.true_and],aJ⟩
theorem eR.vE{H:J}{ok:Nat->Prop}{l:List iG}{v:I}(h:eR gQ H ok l v)(H':J):dC P H' .len [22] [v]=some (.int .i64 l.length):=by
 rcases h with⟨rfl,rfl⟩|⟨L,i,cap,ro,els,rfl,_⟩|⟨L,i,cap,rfl,rfl⟩
 ·exact Hs
 ·exact EG
 ·exact EG
theorem SO{Φ:iG->Prop}(ak: ∀(a b:iG) (cs bU:List I) (H:J) (ok ok':Nat->Prop),Φ a->gQ.V H ok a cs->gQ.V H ok' b bU->W (au P ao 41 [.agg cs,.agg bU] H) λr H'=>r= .bool (lf a b)/\aR H H'){N:Nat}{l m:List iG}(ax:l.length<=1000000000)(hm:l.length=m.length)(qp: ∀a∈l,Φ a){hf iI iu li:Nat}{kc lc:Option Nat}{mm mn:Bool}{iM iN:List (List I)}{ok ok':Nat->Prop}:
  ∀(c j n:Nat) (H:J),j+c=l.length->c<n->H.get hf=some (.row mm 3 iM)->H.get iu=some (.row mn 3 iN)->(∀(j:Nat) (a:iG),l[j]? =some a-> ∃cs,iM[iI+j]? =some cs/\gQ.V H ok a cs)->(∀(j:Nat) (a:iG),m[j]? =some a-> ∃cs,iN[li+j]? =some cs/\gQ.V H ok' a cs)->
  W (vo (au P ao) N n (.aM iu li m.length 3 lc) (.func (.func 41) [] []) (.aM hf iI l.length 3 kc) (.int .i64 l.length) (.int .i64 j) H) λr H'=>r= .bool (gh lf (l.drop j) (m.drop j))/\aR H H'
 |_,_,0,_,_,aV,_,_,_,_=>Z
 |0,j,n+1,H,aS,aV,aG,aP,aI,bc=>by
  have bP: ¬((j:Int)<(l.length:Int)):=Z;have d1:l.drop j=[]:=List.drop_eq_nil_of_le Z;have d2:m.drop j=[]:=List.drop_eq_nil_of_le Z;simp-implicitDefEqProofs(disch:=try exact ag) only[vo,tX,zo,yi,bj,bO,ei,bP,decide_false];exact a8.2 ⟨by rw[d1,d2];rfl,.refl _⟩
 |c+1,j,n+1,H,aS,aV,aG,aP,aI,bc=>by
  have nF:j<l.length:=Z;have nG:j<m.length:=Z;have bP:(j:Int)<(l.length:Int):=Z;have qm:(j:Int)<(m.length:Int):=Z;have a6:(0:Int)<=(j:Int):=Z;have bC:((j:Int)).toNat=j:=Z;obtain⟨cs,g1,g2⟩:=aI j l[j] (List.getElem?_eq_getElem nF);obtain⟨bU,g4,g5⟩:=bc j m[j] (List.getElem?_eq_getElem nG);obtain⟨cx,eM⟩:=gQ.len g2;obtain⟨eN,gC⟩:=gQ.len g5;have h6:gQ.esz=3:=rfl;rw[h6] at cx eN;have ra:List.take 3 cs=cs:=List.take_of_length_le Z;have rb:List.take 3 bU=bU:=List.take_of_length_le Z;have eI:=J.aW aG;have fB:=J.aW aP;have hw:IntKind.i64.wrap ((j:Int)+1)=((j+1:Nat):Int):=by rw[wrap_i64 Z Z];omega
  have gB:=(aR.push H (.row false 3 [cs])).bV (.row false 3 [bU]);simp-implicitDefEqProofs(disch:=try exact ag) only[vo,tX,zo,yi,reduceAdd,reduceLeDiff,reduceIte,az,bP,qm,decide_true,bC,aG,aP,g1,g4,ra,rb,cx,eM,eN,gC,List.append_nil,sw,List.nil_append];refine aY (ak l[j] m[j] _ _ _ ok ok' (qp _ (List.getElem_mem _)) (gQ.bo (d_.aK gB) g2) (gQ.bo (d_.aK gB) g5)) ?_;rintro _ bl ⟨rfl,aJ⟩;refine⟨aJ.1,?_⟩;have dl:l.drop j=l[j]::l.drop (j+1):=List.drop_eq_getElem_cons nF;have qx:m.drop j=m[j]::m.drop (j+1):=List.drop_eq_getElem_cons nG;cases oH:lf l[j] m[j] with
  |false=>
   simp-implicitDefEqProofs(disch:=try exact ag) only[bj,bO,Bool.not_false];exact a8.2 ⟨by rw[dl,qx,gh,oH,Bool.false_and],gB.trans aJ⟩
  |true=>
   simp-implicitDefEqProofs(disch:=try exact ag) only[bj,bO,ei,Bool.not_true,hw];have pp:=gB.trans aJ;refine(SO ak ax hm qp (ok:=ok) (ok':=ok') c (j+1) n bl Z Z (pp.get aG) (pp.get aP) (λi a be=> ?_) (λi a be=> ?_)).mono ?_
   ·obtain⟨x,y,z⟩:=aI i a be;exact⟨x,y,gQ.bo (d_.aK pp) z⟩
   ·obtain⟨x,y,z⟩:=bc i a be;exact⟨x,y,gQ.bo (d_.aK pp) z⟩
   ·rintro v H' ⟨rfl,q⟩;exact⟨by rw[dl,qx,gh,oH,Bool.true_and],pp.trans q⟩
theorem ak6{Φ:iG->Prop}(ak: ∀(a b:iG) (cs bU:List I) (H:J) (ok ok':Nat->Prop),Φ a->gQ.V H ok a cs->gQ.V H ok' b bU->W (au P ao 41 [.agg cs,.agg bU] H) λr H'=>r= .bool (lf a b)/\aR H H'){H:J}{l m:List iG}(ax:l.length<=1000000000)(qp: ∀a∈l,Φ a){v w:I}{ok ok':Nat->Prop}(U:eR gQ H ok l v)(aa:eR gQ H ok' m w):W (au P ao 40 [v,w,.func (.func 41) [] []] H) λr H'=>r= .bool (gh lf l m)/\aR H H':=by
 refine cU (λ_=>al5 (l.length+1)) ?_;have bJ:=λH'=>U.vE H'
 have c2:=λH'=>aa.vE H'
 have z0:((0:Nat):Int)=0:=rfl;by_cases aV:l.length=m.length
 ·by_cases ct:l.length=0
  ·have jP:m.length=0:=Z;obtain rfl:=List.length_eq_zero_iff.1 ct;obtain rfl:=List.length_eq_zero_iff.1 jP;simp-implicitDefEqProofs(disch:=try exact ag) only[vo,tX,zo,yi,reduceAdd,reduceLeDiff,reduceIte,az,bJ,c2,List.length_nil,z0,bne_self_eq_false,Int.lt_irrefl,decide_false];exact a8.2 ⟨rfl,.refl _⟩
  ·obtain⟨eI,i1,cS,gj,s3,rfl,g1,e8⟩:=U.row ct;obtain⟨fB,i2,dq,e3,v_,rfl,g2,fT⟩:=aa.row Z;have wk:((l.length:Int) != (m.length:Int))=false:=by simp;omega
   have h6:gQ.esz=3:=rfl;rw[h6] at bJ c2 g1 g2 ⊢;simp-implicitDefEqProofs(disch:=try exact ag) only[tX,yi,bj,bj,bO,ei,bJ,c2,wk];have:=SO ak (N:=l.length+1) ax aV qp (kc:=cS) (lc:=dq) l.length 0 (l.length+1) H Z Z g1 g2 e8 fT;simpa using this
 ·have hk:((l.length:Int) != (m.length:Int))=true:=by simp;omega
  simp-implicitDefEqProofs(disch:=try exact ag) only[tX,zo,yi,bj,bj,bO,ei,bJ,c2,hk];exact a8.2 ⟨by rw[wS _ _ aV],.refl _⟩
theorem ah_(a b:iG)(cs bU:List I)(H:J)(ok ok':Nat->Prop)(aO:a.fields.length<=1000000000)(U:gQ.V H ok a cs)(aa:gQ.V H ok' b bU):W (au P ao 41 [.agg cs,.agg bU] H) λr H'=>r= .bool (lf a b)/\aR H H':=by
 obtain⟨v,rfl,e8⟩:=U;obtain⟨w,rfl,fT⟩:=aa;refine cU (λ_=>al6 0) ?_;have cZ:=e8.one;have dk:=fT.one;have dS: ∀l,eW l (.agg [.str a.name,v,.int .i64 a.pos])=some (.ptr l 0 0,.row false 3 [[.str a.name,v,.int .i64 a.pos]]):=λl=>ij l _ (by simp only[List.all_cons,List.all_nil,jJ,iy,cZ,Bool.and_self])
 have cn: ∀l,eW l (.agg [.str b.name,w,.int .i64 b.pos])=some (.ptr l 0 0,.row false 3 [[.str b.name,w,.int .i64 b.pos]]):=λl=>ij l _ (by simp only[List.all_cons,List.all_nil,jJ,iy,dk,Bool.and_self])
 have aJ:=(aR.push H (.row false 3 [[.str a.name,v,.int .i64 a.pos]])).bV (.row false 3 [[.str b.name,w,.int .i64 b.pos]]);unfold lf;cases c0:a.name==b.name with
 |false=>
  simp-implicitDefEqProofs(disch:=try exact ag) only[FJ,reduceAdd,reduceLeDiff,reduceIte,az,dS,cn,c0];exact a8.2 ⟨by simp only[Bool.false_and],aJ⟩
 |true=>
  simp-implicitDefEqProofs(disch:=try exact ag) only[FJ,reduceAdd,reduceLeDiff,reduceIte,az,dS,cn,c0];refine hh (LL (Φ:=λ_=>True) Lc aO (λ_ _=>trivial) (e8.bo (d_.aK aJ)) (fT.bo (d_.aK aJ))) ?_;rintro _ bl ⟨rfl,bz⟩;refine⟨bz.1,?_⟩;simp-implicitDefEqProofs(disch:=try exact ag) only[bj,bO];exact a8.2 ⟨by simp only[Bool.true_and],aJ.trans bz⟩
theorem eR.vF{H:J}{ok:Nat->Prop}{l:List Fn}{v:I}(h:eR gN H ok l v)(H':J):dC P H' .len [24] [v]=some (.int .i64 l.length):=by
 rcases h with⟨rfl,rfl⟩|⟨L,i,cap,ro,els,rfl,_⟩|⟨L,i,cap,rfl,rfl⟩
 ·exact Hu
 ·exact EI
 ·exact EI
theorem SQ{Φ:Fn->Prop}(ak: ∀(a b:Fn) (cs bU:List I) (H:J) (ok ok':Nat->Prop),Φ a->gN.V H ok a cs->gN.V H ok' b bU->W (au P ao 45 [.agg cs,.agg bU] H) λr H'=>r= .bool (nu a b)/\aR H H'){N:Nat}{l m:List Fn}(ax:l.length<=1000000000)(hm:l.length=m.length)(qp: ∀a∈l,Φ a){hf iI iu li:Nat}{kc lc:Option Nat}{mm mn:Bool}{iM iN:List (List I)}{ok ok':Nat->Prop}:
  ∀(c j n:Nat) (H:J),j+c=l.length->c<n->H.get hf=some (.row mm 7 iM)->H.get iu=some (.row mn 7 iN)->(∀(j:Nat) (a:Fn),l[j]? =some a-> ∃cs,iM[iI+j]? =some cs/\gN.V H ok a cs)->(∀(j:Nat) (a:Fn),m[j]? =some a-> ∃cs,iN[li+j]? =some cs/\gN.V H ok' a cs)->
  W (vq (au P ao) N n (.aM iu li m.length 7 lc) (.func (.func 45) [] []) (.aM hf iI l.length 7 kc) (.int .i64 l.length) (.int .i64 j) H) λr H'=>r= .bool (gh nu (l.drop j) (m.drop j))/\aR H H'
 |_,_,0,_,_,aV,_,_,_,_=>Z
 |0,j,n+1,H,aS,aV,aG,aP,aI,bc=>by
  have bP: ¬((j:Int)<(l.length:Int)):=Z;have d1:l.drop j=[]:=List.drop_eq_nil_of_le Z;have d2:m.drop j=[]:=List.drop_eq_nil_of_le Z;simp-implicitDefEqProofs(disch:=try exact ag) only[vq,tZ,zq,yk,bj,bO,ei,bP,decide_false];exact a8.2 ⟨by rw[d1,d2];rfl,.refl _⟩
 |c+1,j,n+1,H,aS,aV,aG,aP,aI,bc=>by
  have nF:j<l.length:=Z;have nG:j<m.length:=Z;have bP:(j:Int)<(l.length:Int):=Z;have qm:(j:Int)<(m.length:Int):=Z;have a6:(0:Int)<=(j:Int):=Z;have bC:((j:Int)).toNat=j:=Z;obtain⟨cs,g1,g2⟩:=aI j l[j] (List.getElem?_eq_getElem nF);obtain⟨bU,g4,g5⟩:=bc j m[j] (List.getElem?_eq_getElem nG);obtain⟨cx,eM⟩:=gN.len g2;obtain⟨eN,gC⟩:=gN.len g5;have h6:gN.esz=7:=rfl;rw[h6] at cx eN;have ra:List.take 7 cs=cs:=List.take_of_length_le Z;have rb:List.take 7 bU=bU:=List.take_of_length_le Z;have eI:=J.aW aG;have fB:=J.aW aP;have hw:IntKind.i64.wrap ((j:Int)+1)=((j+1:Nat):Int):=by rw[wrap_i64 Z Z];omega
  have gB:=(aR.push H (.row false 7 [cs])).bV (.row false 7 [bU]);simp-implicitDefEqProofs(disch:=try exact ag) only[vq,tZ,zq,yk,reduceAdd,reduceLeDiff,reduceIte,az,bP,qm,decide_true,bC,aG,aP,g1,g4,ra,rb,cx,eM,eN,gC,List.append_nil,sw,List.nil_append];refine aY (ak l[j] m[j] _ _ _ ok ok' (qp _ (List.getElem_mem _)) (gN.bo (d_.aK gB) g2) (gN.bo (d_.aK gB) g5)) ?_;rintro _ bl ⟨rfl,aJ⟩;refine⟨aJ.1,?_⟩;have dl:l.drop j=l[j]::l.drop (j+1):=List.drop_eq_getElem_cons nF;have qx:m.drop j=m[j]::m.drop (j+1):=List.drop_eq_getElem_cons nG;cases oH:nu l[j] m[j] with
  |false=>
   simp-implicitDefEqProofs(disch:=try exact ag) only[bj,bO,Bool.not_false];exact a8.2 ⟨by rw[dl,qx,gh,oH,Bool.false_and],gB.trans aJ⟩
  |true=>
   simp-implicitDefEqProofs(disch:=try exact ag) only[bj,bO,ei,Bool.not_true,hw];have pp:=gB.trans aJ;refine(SQ ak ax hm qp (ok:=ok) (ok':=ok') c (j+1) n bl Z Z (pp.get aG) (pp.get aP) (λi a be=> ?_) (λi a be=> ?_)).mono ?_
   ·obtain⟨x,y,z⟩:=aI i a be;exact⟨x,y,gN.bo (d_.aK pp) z⟩
   ·obtain⟨x,y,z⟩:=bc i a be;exact⟨x,y,gN.bo (d_.aK pp) z⟩
   ·rintro v H' ⟨rfl,q⟩;exact⟨by rw[dl,qx,gh,oH,Bool.true_and],pp.trans q⟩
theorem ak7{Φ:Fn->Prop}(ak: ∀(a b:Fn) (cs bU:List I) (H:J) (ok ok':Nat->Prop),Φ a->gN.V H ok a cs->gN.V H ok' b bU->W (au P ao 45 [.agg cs,.agg bU] H) λr H'=>r= .bool (nu a b)/\aR H H'){H:J}{l m:List Fn}(ax:l.length<=1000000000)(qp: ∀a∈l,Φ a){v w:I}{ok ok':Nat->Prop}(U:eR gN H ok l v)(aa:eR gN H ok' m w):W (au P ao 44 [v,w,.func (.func 45) [] []] H) λr H'=>r= .bool (gh nu l m)/\aR H H':=by
 refine cU (λ_=>al9 (l.length+1)) ?_;have bJ:=λH'=>U.vF H'
 have c2:=λH'=>aa.vF H'
 have z0:((0:Nat):Int)=0:=rfl;by_cases aV:l.length=m.length
 ·by_cases ct:l.length=0
  ·have jP:m.length=0:=Z;obtain rfl:=List.length_eq_zero_iff.1 ct;obtain rfl:=List.length_eq_zero_iff.1 jP;simp-implicitDefEqProofs(disch:=try exact ag) only[vq,tZ,zq,yk,reduceAdd,reduceLeDiff,reduceIte,az,bJ,c2,List.length_nil,z0,bne_self_eq_false,Int.lt_irrefl,decide_false];exact a8.2 ⟨rfl,.refl _⟩
  ·obtain⟨eI,i1,cS,gj,s3,rfl,g1,e8⟩:=U.row ct;obtain⟨fB,i2,dq,e3,v_,rfl,g2,fT⟩:=aa.row Z;have wk:((l.length:Int) != (m.length:Int))=false:=by simp;omega
   have h6:gN.esz=7:=rfl;rw[h6] at bJ c2 g1 g2 ⊢;simp-implicitDefEqProofs(disch:=try exact ag) only[tZ,yk,bj,bj,bO,ei,bJ,c2,wk];have:=SQ ak (N:=l.length+1) ax aV qp (kc:=cS) (lc:=dq) l.length 0 (l.length+1) H Z Z g1 g2 e8 fT;simpa using this
 ·have hk:((l.length:Int) != (m.length:Int))=true:=by simp;omega
  simp-implicitDefEqProofs(disch:=try exact ag) only[tZ,zq,yk,bj,bj,bO,ei,bJ,c2,hk];exact a8.2 ⟨by rw[wS _ _ aV],.refl _⟩
def Es(a:Fn):Prop:=a.params.length<=1000000000/\a.body.length<=1000000000/\hi 1000000000 a.body
theorem ah9(a b:Fn)(cs bU:List I)(H:J)(ok ok':Nat->Prop)(aO:Es a)(U:gN.V H ok a cs)(aa:gN.V H ok' b bU):W (au P ao 45 [.agg cs,.agg bU] H) λr H'=>r= .bool (nu a b)/\aR H H':=by
 obtain⟨v,bv,rfl,e8,nY⟩:=U;obtain⟨w,uW,rfl,fT,u0⟩:=aa;refine cU (λ_=>al_ 0) ?_;have cZ:=e8.one;have dk:=fT.one;have dJ:=nY.gq;have eL:=u0.gq;have dS: ∀l,eW l (.agg [.str a.name,v,.bool a.has,.str a.fC,.int .i64 a.rd,bv,.int .i64 a.pos])=some (.ptr l 0 0,.row false 7 [[.str a.name,v,.bool a.has,.str a.fC,.int .i64 a.rd,bv,.int .i64 a.pos]]):=λl=>ij l _ (by simp only[List.all_cons,List.all_nil,jJ,iy,yN,cZ,dJ,Bool.and_self])
 have cn: ∀l,eW l (.agg [.str b.name,w,.bool b.has,.str b.fC,.int .i64 b.rd,uW,.int .i64 b.pos])=some (.ptr l 0 0,.row false 7 [[.str b.name,w,.bool b.has,.str b.fC,.int .i64 b.rd,uW,.int .i64 b.pos]]):=λl=>ij l _ (by simp only[List.all_cons,List.all_nil,jJ,iy,yN,dk,eL,Bool.and_self])
 have aJ:=(aR.push H (.row false 7 [[.str a.name,v,.bool a.has,.str a.fC,.int .i64 a.rd,bv,.int .i64 a.pos]])).bV (.row false 7 [[.str b.name,w,.bool b.has,.str b.fC,.int .i64 b.rd,uW,.int .i64 b.pos]]);have fv:=(aR.push (H.push (.row false 7 [[.str a.name,v,.bool a.has,.str a.fC,.int .i64 a.rd,bv,.int .i64 a.pos]])) (.row false 7 [[.str b.name,w,.bool b.has,.str b.fC,.int .i64 b.rd,uW,.int .i64 b.pos]])).get (J.ca H (.row false 7 [[.str a.name,v,.bool a.has,.str a.fC,.int .i64 a.rd,bv,.int .i64 a.pos]]));have hF:=J.ca (H.push (.row false 7 [[.str a.name,v,.bool a.has,.str a.fC,.int .i64 a.rd,bv,.int .i64 a.pos]])) (.row false 7 [[.str b.name,w,.bool b.has,.str b.fC,.int .i64 b.rd,uW,.int .i64 b.pos]])
 simp only[J.b6] at hF;unfold nu;cases c0:a.name==b.name with
 |false=>
  simp-implicitDefEqProofs(disch:=try exact ag) only[FL,reduceAdd,reduceLeDiff,reduceIte,az,dS,cn,c0];exact a8.2 ⟨by simp only[Bool.false_and],aJ⟩
 |true=>
  simp-implicitDefEqProofs(disch:=try exact ag) only[FL,reduceAdd,reduceLeDiff,reduceIte,az,dS,cn,c0];refine hh (LL (Φ:=λ_=>True) Lc aO.1 (λ_ _=>trivial) (e8.bo (d_.aK aJ)) (fT.bo (d_.aK aJ))) ?_;rintro _ bl ⟨rfl,bz⟩;refine⟨bz.1,?_⟩;have CP:=bz.get fv;have CQ:=bz.get hF;have q_:=aJ.trans bz;cases bJ:gh iV a.params b.params with
  |false=>
   simp-implicitDefEqProofs(disch:=try exact ag) only[bj,bO];exact a8.2 ⟨by simp only[Bool.false_and,Bool.and_false],q_⟩
  |true=>
  cases c2:a.has==b.has with
  |false=>
   simp-implicitDefEqProofs(disch:=try exact ag) only[reduceAdd,reduceLeDiff,reduceIte,az,CP,CQ,c2];exact a8.2 ⟨by simp only[Bool.false_and,Bool.and_false],q_⟩
  |true=>
  cases c3:(a.fC==b.fC&&a.rd==b.rd) with
  |false=>
   simp-implicitDefEqProofs(disch:=try exact ag) only[reduceAdd,reduceLeDiff,reduceIte,az,CP,CQ,c2,jj,c3];exact a8.2 ⟨by simp only[Bool.false_and,Bool.and_false],q_⟩
  |true=>
   simp-implicitDefEqProofs(disch:=try exact ag) only[reduceAdd,reduceLeDiff,reduceIte,az,CP,CQ,c2,jj,c3];refine hh (Ly (B:=1000000000) cl (λe _=>Ld cl e) aO.2 (nY.aK q_) (u0.aK q_)) ?_;rintro _ cu ⟨rfl,bK⟩;refine⟨bK.1,?_⟩;simp-implicitDefEqProofs(disch:=try exact ag) only[bj,bO];exact a8.2 ⟨by simp only[Bool.true_and],q_.trans bK⟩
structure Cp(g:eb):Prop where
 r:g.ey.length<=1000000000/\ ∀a∈g.ey,a.fields.length<=1000000000
 sj:g.globals.length<=1000000000
 f:g.funcs.length<=1000000000/\ ∀a∈g.funcs,Es a
theorem Gn{g g':eb}(aO:Cp g){H:J}{ok ok':Nat->Prop}{ch cf ci rw j8 f_:I}(U:eR gQ H ok g.ey ch)(aa:eR ga H ok g.globals cf)(ae:eR gN H ok g.funcs ci)(cS:eR gQ H ok' g'.ey rw)(dq:eR ga H ok' g'.globals j8)(dP:eR gN H ok' g'.funcs f_):
  W (au P ao 14 [.agg [ch,cf,ci],.agg [rw,j8,f_]] H) λr H'=>r= .bool (oZ g g')/\aR H H':=by
 refine cU (λ_=>alL 0) ?_;have cZ:=U.one;have dk:=aa.one;have dJ:=ae.one;have cE:=cS.one;have cx:=dq.one;have eM:=dP.one;have dS: ∀l,eW l (.agg [ch,cf,ci])=some (.ptr l 0 0,.row false 3 [[ch,cf,ci]]):=λl=>ij l _ (by simp only[List.all_cons,List.all_nil,cZ,dk,dJ,Bool.and_self])
 have cn: ∀l,eW l (.agg [rw,j8,f_])=some (.ptr l 0 0,.row false 3 [[rw,j8,f_]]):=λl=>ij l _ (by simp only[List.all_cons,List.all_nil,cE,cx,eM,Bool.and_self])
 have aJ:=(aR.push H (.row false 3 [[ch,cf,ci]])).bV (.row false 3 [[rw,j8,f_]]);have fv:=(aR.push (H.push (.row false 3 [[ch,cf,ci]])) (.row false 3 [[rw,j8,f_]])).get (J.ca H (.row false 3 [[ch,cf,ci]]));have hF:=J.ca (H.push (.row false 3 [[ch,cf,ci]])) (.row false 3 [[rw,j8,f_]]);simp only[J.b6] at hF;unfold oZ;simp-implicitDefEqProofs(disch:=try exact ag) only[IG,reduceAdd,reduceLeDiff,reduceIte,az,dS,cn];refine aY (ak6 (Φ:=λa=>a.fields.length<=1000000000) ah_ aO.r.1 aO.r.2 (U.bo (d_.aK aJ)) (cS.bo (d_.aK aJ))) ?_;rintro _ bl ⟨rfl,bz⟩;refine⟨bz.1,?_⟩;have CP:=bz.get fv;have CQ:=bz.get hF;have q_:=aJ.trans bz
 cases bJ:gh lf g.ey g'.ey with
 |false=>
  simp-implicitDefEqProofs(disch:=try exact ag) only[bj,bO];exact a8.2 ⟨by simp only[Bool.false_and],q_⟩
 |true=>
  simp-implicitDefEqProofs(disch:=try exact ag) only[reduceAdd,reduceLeDiff,reduceIte,az,CP,CQ];refine hh (LL (Φ:=λ_=>True) Lc aO.sj (λ_ _=>trivial) (aa.bo (d_.aK q_)) (dq.bo (d_.aK q_))) ?_;rintro _ cu ⟨rfl,bK⟩;refine⟨bK.1,?_⟩;have pc:=bK.get CP;have qg:=bK.get CQ;have Ix:=q_.trans bK;cases c2:gh iV g.globals g'.globals with
  |false=>
   simp-implicitDefEqProofs(disch:=try exact ag) only[bj,bO];exact a8.2 ⟨by simp only[Bool.false_and,Bool.and_false],Ix⟩
  |true=>
   simp-implicitDefEqProofs(disch:=try exact ag) only[reduceAdd,reduceLeDiff,reduceIte,az,pc,qg];refine hh (ak7 (Φ:=Es) ah9 aO.f.1 aO.f.2 (ae.bo (d_.aK Ix)) (dP.bo (d_.aK Ix))) ?_;rintro _ dc ⟨rfl,cO⟩;refine⟨cO.1,?_⟩;simp-implicitDefEqProofs(disch:=try exact ag) only[bj,bO];exact a8.2 ⟨by simp only[Bool.true_and],Ix.trans cO⟩
end
section
theorem uO(T:List Tok)(s:aw):fz 1000000000 (eP T s).1:=by
 unfold eP;split
 ·exact fz.leaf _
 ·split
  ·rename_i e s' h;split
   ·exact(LF T 1000000000 800000000 Z).row _ _ (e,s') h
   ·exact fz.leaf _
  ·exact fz.leaf _
theorem hi.append{B:Nat}{e:cy}(h:kK B e): ∀{l:List cy},hi B l->hi B (l++[e])
 |[],_=>by rw[List.nil_append,hi,hi];exact⟨h,trivial⟩
 |x::xs,ax=>by
  rw[hi] at ax;rw[List.cons_append,hi];exact⟨ax.1,hi.append h ax.2⟩
theorem ES(a:dv){e:bh}(h:fz 1000000000 e):kK 1000000000 (.mk a [e] [] []):=by
 rw[kK,gr,gr,hi];exact⟨⟨by simp,h,trivial⟩,⟨by simp,trivial⟩,⟨by simp,trivial⟩⟩
theorem XB(a:dv):kK 1000000000 (.mk a [] [] []):=by
 rw[kK,gr,hi];exact⟨⟨by simp,trivial⟩,⟨by simp,trivial⟩,⟨by simp,trivial⟩⟩
theorem amY{e:cy}(p:Int)(h:kK 1000000000 e):kK 1000000000 (e.at p):=by
 cases e;rw[cy.at,kK];rw[kK] at h;exact h
structure aot(T:List Tok)(n:Nat):Prop where
 stmt: ∀s x,xD T n s=some x->kK 1000000000 x.1
 block: ∀s x,oU T n s=some x->x.1.length<=1000000000/\hi 1000000000 x.1
 loop: ∀l s x,pV T n l s=some x->l.length+n<=1000000000->hi 1000000000 l->x.1.length<=1000000000/\hi 1000000000 x.1
 choose: ∀s x,wR T n s=some x->kK 1000000000 x.1
 rep: ∀s x,wV T n s=some x->kK 1000000000 x.1
theorem ZC(T:List Tok): ∀n,n+2<=1000000000->aot T n
 |0,_=>⟨λ_ _ h=>(by cases h),λ_ _ h=>(by cases h),λ_ _ _ h=>(by cases h),λ_ _ h=>(by cases h),λ_ _ h=>(by cases h)⟩
 |n+1,aV=>by
  have aT:=ZC T n Z;refine⟨λs x h=> ?_,λs x h=> ?_,λl s x h ax aO=> ?_,λs x h=> ?_,λs x h=> ?_⟩
  ·rw[xD] at h;obtain⟨p,U,aa⟩:=hL h;cases aa;refine amY _ ?_;have Vq:kK 1000000000 (qP T s).1:=by
    unfold qP;cases b4 T (eP T s).2 4 [61] with
    |false=>exact ES _ (uO _ _)
    |true=>
     simp only[bx,xC];cases(eP T s).1.kind==4 with
     |true=>exact ES _ (uO _ _)
     |false=>
      simp only[bi];rw[kK,gr,gr,gr,hi];exact⟨⟨by simp,uO _ _,uO _ _,trivial⟩,⟨by simp,trivial⟩,⟨by simp,trivial⟩⟩
   revert U;cases(aq T s.at_).kind==3 with
   |false=>intro U;cases U;exact Vq
   |true=>
    simp only[bx];cases(aq T s.at_).text==[118,97,114] with
    |true=>intro U;cases U;exact XB _
    |false=>
    simp only[bi];cases(aq T s.at_).text==[108,101,116] with
    |true=>intro U;cases U;exact ES _ (uO _ _)
    |false=>
    simp only[bi];cases(aq T s.at_).text==[105,102] with
    |true=>exact λU=>aT.choose _ _ U
    |false=>
    simp only[bi];cases(aq T s.at_).text==[119,104,105,108,101] with
    |true=>exact λU=>aT.rep _ _ U
    |false=>
    simp only[bi];cases(aq T s.at_).text==[114,101,116,117,114,110] with
    |true=>
     intro U;cases U;unfold xz;cases b4 T (aE s) 4 [59] with
     |true=>exact XB _
     |false=>exact ES _ (uO _ _)
    |false=>
    simp only[bi];cases(aq T s.at_).text==[112,114,105,110,116] with
    |true=>intro U;cases U;exact ES _ (uO _ _)
    |false=>intro U;cases U;exact Vq
  ·rw[oU] at h;have a6: ∀{l:List cy},l=[]->l.length<=1000000000/\hi 1000000000 l:=λ{l} h=>by rw[h,hi];exact⟨by simp,trivial⟩
   revert h;cases b4 T s 4 [123] with
   |false=>intro h;cases h;exact a6 rfl
   |true=>
    simp only[bx];split
    ·intro h;cases h;exact a6 rfl
    ·intro h;obtain⟨p,U,aa⟩:=hL h;cases aa;exact aT.loop [] _ p U (by simp;omega) (by rw[hi];trivial)
  ·rw[pV] at h;revert h;cases(s.aA==0&& !b4 T s 4 [125]) with
   |false=>intro h;cases h;exact⟨by show l.length<=1000000000;omega,aO⟩
   |true=>
    intro h;obtain⟨p,U,aa⟩:=hL h;exact aT.loop _ _ _ aa (by simp;omega) (hi.append (aT.stmt _ _ U) aO)
  ·rw[wR] at h;obtain⟨p,U,aa⟩:=hL h;obtain⟨c_,cD⟩:=aT.block _ _ U;revert aa;cases b4 T p.2 3 [101,108,115,101] with
   |false=>
    intro aa;cases aa;rw[kK,gr,gr];exact⟨⟨by simp,uO _ _,trivial⟩,⟨c_,cD⟩,⟨by simp,by rw[hi];trivial⟩⟩
   |true=>
    intro aa;obtain⟨q,ae,al⟩:=hL aa;cases al;rw[kK,gr,gr];exact⟨⟨by simp,uO _ _,trivial⟩,⟨c_,cD⟩,aT.block _ _ ae⟩
  ·rw[wV] at h;obtain⟨p,U,aa⟩:=hL h;cases aa;obtain⟨c_,cD⟩:=aT.block _ _ U;rw[kK,gr,gr];exact⟨⟨by simp,uO _ _,trivial⟩,⟨c_,cD⟩,⟨by simp,by rw[hi];trivial⟩⟩
end
section
set_option maxRecDepth 100000
noncomputable section
def IF(G:av)(H:J):O:=
 aL H (G 8 [(.str [114,101,99,111,114,100,32,82,32,123,32,97,58,32,105,110,116,59,32,125,32,102,117,110,99,32,109,97,105,110,40,41,32,123,32,112,114,105,110,116,32,49,59,32,125,32,103,108,111,98,97,108,32,103,58,32,91,82,93,59])] H) λa_ U=>
 ab (gf a_ 0) λbf=>
 ab (gf a_ 1) λbB=>
 cv U [I.an,I.an,I.an] λai aa=>
 cv aa [(.int .i64 0),(.int .i64 0)] λap ae=>
 a1 ae (aQ P ae 26 ai bf) λal=>
 a1 al (aQ P al 29 ap bB) λaB=>
 ab (aF P 29 ap 0) λbu=>
 ab (am P aB 27 bu) λbS=>
 ab (aZ P .eql 27 true bS (.int .i64 0)) λbF=>
 aD bF true aB (bm (aF P 26 ai 0)) λb8 aG=>
 aD bF true aG (qr (am P aG 22 b8)) λcb aP=>
 aD bF true aP (λq=>ia (dC P .empty .len [22] [cb]) (dC P aP .len [22] [cb]) q) λb0 bn=>
 aD bF true bn (bm (aZ P .eql 3 true b0 (.int .i64 1))) λbT bH=>
 ab (cW bF (some bT) (some (.bool false))) λbX=>
 aD bX true bH (bm (aF P 26 ai 1)) λcc co=>
 aD bX true co (qr (am P co 23 cc)) λcG dp=>
 aD bX true dp (λq=>ia (dC P .empty .len [23] [cG]) (dC P dp .len [23] [cG]) q) λc6 dR=>
 aD bX true dR (bm (aZ P .eql 3 true c6 (.int .i64 1))) λcN eF=>
 ab (cW bX (some cN) (some (.bool false))) λcz=>
 aD cz true eF (bm (aF P 26 ai 2)) λcI fs=>
 aD cz true fs (qr (am P fs 24 cI)) λdb fP=>
 aD cz true fP (λq=>ia (dC P .empty .len [24] [db]) (dC P fP .len [24] [db]) q) λdn gG=>
 aD cz true gG (bm (aZ P .eql 3 true dn (.int .i64 1))) λdu hM=>
 ab (cW cz (some du) (some (.bool false))) λdh=>
 aD dh true hM (bm (aF P 26 ai 1)) λdI ht=>
 aD dh true ht (qr (am P ht 23 dI)) λcH kL=>
 aD dh true kL (bm (en P 23 cH (.int .i64 0))) λep iC=>
 aD dh true iC (bm (aF P 66 ep 1)) λdV hU=>
 aD dh true hU (bm (aF P 43 dV 1)) λef kM=>
 aD dh true kM (qr (am P kM 3 ef)) λe6 hB=>
 aD dh true hB (bm (aZ P .eql 3 true e6 (.int .i64 1))) λeg pd=>
 ab (cW dh (some eg) (some (.bool false))) λej=>
 aD ej true pd (bm (aF P 26 ai 0)) λfj lR=>
 aD ej true lR (qr (am P lR 22 fj)) λft mP=>
 aD ej true mP (bm (en P 22 ft (.int .i64 0))) λe7 qh=>
 aD ej true qh (bm (aF P 41 e7 2)) λfy lS=>
 aD ej true lS (qr (am P lS 3 fy)) λfW wa=>
 aD ej true wa (bm (aZ P .eql 3 true fW (.int .i64 7))) λgv qi=>
 ab (cW ej (some gv) (some (.bool false))) λeU=>
 aD eU true qi (qr (am P qi 26 ai)) λgb mQ=>
 aD eU true mQ (qr (am P mQ 26 ai)) λgS s4=>
 aD eU true s4 (λq=>fo s4 (G 14 [gb,gS] s4) q) λju YG=>
 ab (cW eU (some ju) (some (.bool false))) λhv=>
 aD hv true YG (qr (am P YG 26 ai)) λhV s5=>
 aD hv true s5 (dw (.agg [I.an,I.an,I.an])) λgx M7=>
 aD hv true M7 (λq=>fo M7 (G 14 [hV,gx] M7) q) λkm aoR=>
 aD hv true aoR (bm (fh .not km)) λjQ aoS=>
 ab (cW hv (some jQ) (some (.bool false))) λiR=>
 some (iR,aoS)
theorem ajJ(G:av)(N:Nat)(H:J):bp Tryz.f12 G N (cF []) H=IF G H:=by
 refine cP (A:=bp Tryz.f12 G N) (aN _) ?_;delta IF;kernel_rfl
theorem alK(N:Nat){H:J}{r:I×J}(h:IF (au P ao) H=some r):au P ao 12 [] H=some r:=
 cV ad Tryz.func12 ad ad ad ((ajJ (au P ao) N H).trans h)
end
end
section
section
variable {T:List Tok}
theorem Qf: ∀(n:Nat) (l:List dW) (s:aw) (p:List dW×aw),tE T n l s=some p->p.1.length<=l.length+n
 |0,_,_,_,h=>by cases h
 |n+1,l,s,p,h=>by
  rw[tE] at h;cases aS:(s.aA==0&& !b4 T s 4 [125]) with
  |true=>
   rw[aS,bx] at h;have:=Qf n _ _ _ h;simp only[List.length_append,List.length_cons,List.length_nil] at this;omega
  |false=>rw[aS,bi] at h;cases h;simp
theorem Qp: ∀(n:Nat) (l:List dW) (s:aw) (p:List dW×aw),pH T n l s=some p->p.1.length<=l.length+n
 |0,_,_,_,h=>by cases h
 |n+1,l,s,p,h=>by
  rw[pH] at h;cases aS:(fg T 4 [44] s).1 with
  |true=>
   rw[aS,bx] at h;have:=Qp n _ _ _ h;simp only[l6,List.length_append,List.length_cons,List.length_nil] at this;omega
  |false=>rw[aS,bi] at h;cases h;simp
theorem adU{l:List cy}{s:aw}{st:aw}(h:oU T 800000000 st=some (l,s)):(iL l s).1.length<=1000000000/\hi 1000000000 (iL l s).1:=by
 unfold iL;split
 ·exact(ZC T 800000000 Z).block _ _ h
 ·rw[hi];exact⟨by simp,trivial⟩
theorem adx(s:aw):(oV T s).1.length<=1000000000/\hi 1000000000 (oV T s).1:=by
 unfold oV;split
 ·rename_i p bA;exact adU bA
 ·rw[hi];exact⟨by simp,trivial⟩
theorem BP{M:Nat}(jw:M<=800000000): ∀(n:Nat) (g:eb) (s:aw) (p:eb×aw),Cp g->g.ey.length+n<=1000000000->g.globals.length+n<=1000000000->g.funcs.length+n<=1000000000->ot T M n g s=some p->Cp p.1
 |0,_,_,_,_,_,_,_,h=>by cases h
 |n+1,g,s,p,aX,U,aa,ae,h=>by
  rw[ot] at h;cases aS:(s.aA==0&&(aq T s.at_).kind != 0) with
  |false=>rw[aS,bi] at h;cases h;exact aX
  |true=>
   rw[aS,bx] at h;cases bJ:b4 T s 3 [114,101,99,111,114,100] with
   |true=>
    rw[bJ,bx] at h;obtain⟨⟨g2,s2⟩,aI,bc⟩:=hL h;have ax:=TU aI;obtain⟨q,f1,f2⟩:=hL aI;have bg:=Qf _ _ _ _ f1;simp only[List.length_nil] at bg;simp only[bD,dz] at f2;obtain⟨rfl,rfl⟩:=f2;simp only at ax;refine BP jw n _ _ p ?_ ?_ ?_ ?_ bc
    ·refine⟨⟨by simp;omega,λa b1=> ?_⟩,aX.sj,aX.f⟩;rcases List.mem_append.1 b1 with b1|b1
     ·exact aX.r.2 a b1
     ·simp only[List.mem_cons,List.not_mem_nil,or_false] at b1;rw[b1];show q.1.length<=_;omega
    ·simp;omega
    ·simp only;omega
    ·simp only;omega
   |false=>
    rw[bJ,bi] at h;cases c2:b4 T s 3 [103,108,111,98,97,108] with
    |true=>
     rw[c2,bx] at h;refine BP jw n _ _ p ?_ ?_ ?_ ?_ h
     ·exact⟨aX.r,by simp only[k6,List.length_append,List.length_cons,List.length_nil];omega,aX.f⟩
     ·simp only[k6];omega
     ·simp only[k6,List.length_append,List.length_cons,List.length_nil];omega
     ·simp only[k6];omega
    |false=>
     rw[c2,bi] at h;cases c3:b4 T s 3 [102,117,110,99] with
     |true=>
      rw[c3,bx] at h;obtain⟨⟨g2,s2⟩,aI,bc⟩:=hL h;have ax:=Tx aI;obtain⟨q,f1,f2⟩:=hL aI;have bg:q.1.length<=M+1:=by
       unfold yJ at f1;revert f1;cases b4 T (cY T [40] (hQ T (aE (gP T true g.funcs.length 16 s))).2).2 4 [41] with
       |true=>intro f1;rw[bx] at f1;cases f1;simp
       |false=>
        intro f1;rw[bi] at f1;have:=Qp _ _ _ _ f1;simp only[l6,List.nil_append,List.length_cons,List.length_nil] at this;omega
      simp only[bD] at f2;have fv:=congrArg Prod.fst f2;refine BP jw n g2 s2 p ?_ Z Z Z bc;simp only at fv;rw[<-fv];unfold oy;split
      ·exact aX
      ·refine⟨aX.r,aX.sj,by simp;omega,λa b1=> ?_⟩;rcases List.mem_append.1 b1 with b1|b1
       ·exact aX.f.2 a b1
       ·simp only[List.mem_cons,List.not_mem_nil,or_false] at b1;rw[b1];exact⟨by show q.1.length<=_;omega,adx _⟩
     |false=>
      rw[c3,bi] at h;exact BP jw n g _ p aX Z Z Z h
theorem Gy:Cp .none:=⟨⟨by simp[eb.none],λa b1=>by cases b1⟩,by simp[eb.none],by simp[eb.none],λa b1=>by cases b1⟩
end
theorem J0(a:dW):iV a a=true:=by simp[iV]
theorem abH(a:iG):lf a a=true:=by simp[lf,BD J0]
theorem abG(a:Fn):nu a a=true:=by simp[nu,BD J0,Gh]
theorem PM(g:eb):oZ g g=true:=by simp[oZ,BD abH,BD J0,BD abG]
def G4:bk:=[114,101,99,111,114,100,32,82,32,123,32,97,58,32,105,110,116,59,32,125,32,102,117,110,99,32,109,97,105,110,40,41,32,123,32,112,114,105,110,116,32,49,59,32,125,32,103,108,111,98,97,108,32,103,58,32,91,82,93,59]
def Zj:Bool:=(gg G4).2.1==0&&(match ot (gg G4).1 800000000 800000000 .none ⟨0,0,0,0⟩ with
 |some (g,s)=>s.aA==0&&(g.ey.length==1&&(g.globals.length==1&&(g.funcs.length==1&&((g.ey.all λx=>x.pos==7)&&(g.globals.all λx=>x.fS==1)))))
 |none=>false)
set_option maxRecDepth 100000 in
theorem afP:Zj=true:=by decide+kernel
theorem VI{α:Type}{l:List α}(h:l.length=1): ∃a,l=[a]:=by
 rcases l with _|⟨a,_|⟨b,l⟩⟩
 ·cases h
 ·exact⟨a,rfl⟩
 ·simp at h
theorem Kb{H:J}(aX:jv.ko H):W (au P ao 12 [] H) λv H'=>v= .bool true/\aR H H':=by
 refine cU (λ_=>alK 0) ?_;have ah:=afP;unfold Zj at ah;simp only[Bool.and_eq_true,beq_iff_eq] at ah;obtain⟨ak,ah⟩:=ah;split at ah
 ·rename_i g s bA;simp only[Bool.and_eq_true,beq_iff_eq] at ah;obtain⟨a6,U,aa,ae,al,aB⟩:=ah;have eD:=BP (bL _) 800000000 .none _ _ Gy cl cl cl bA;simp only at eD;rw[IF];refine aY (PE aX G4 (M:=800000000) (n:=800000000) (bL _) (bL _) (λ_=>bA)) ?_;rintro _ H1 ⟨ch,cf,ci,rfl,gj,e3,gk,aU⟩;refine⟨aU.1,?_⟩;have ev:j3 G4 g s=(g,0,0):=by unfold j3 uo;rw[if_pos ak,if_pos a6]
  rw[ev] at gj e3 gk ⊢;simp only at gj e3 gk ⊢;have bJ:=λH'=>gj.vE H'
  have c2:=λH'=>e3.rQ H'
  have c3:=λH'=>gk.vF H'
  rw[U] at bJ;rw[aa] at c2;rw[ae] at c3;have cZ:=gj.one;have dk:=e3.one;have dJ:=gk.one;have aJ:=(aU.bV (.row false 3 [[ch,cf,ci]])).bV (.row false 2 [[.int .i64 0,.int .i64 0]]);have cx:=(aR.push H1 (.row false 3 [[ch,cf,ci]])).bV (.row false 2 [[.int .i64 0,.int .i64 0]]);have aI:(((1:Nat):Int)==1)=true:=rfl;have nT:((0:Int)==0)=true:=rfl;obtain⟨a,b1⟩:=VI aa;obtain⟨b,ay⟩:=VI U;rw[b1] at aB;rw[ay] at al;simp only[List.all_cons,List.all_nil,Bool.and_true,beq_iff_eq] at al aB;obtain⟨bE,i1,aqQ,ar5,aqT,A9,OB,Jo⟩:=e3.row Z;obtain⟨h2,i2,aqR,ar6,aqU,lw,z2,z3⟩:=gj.row Z;obtain⟨aoy,e8,fT⟩:=Jo 0 a (by rw[b1];rfl)
  obtain⟨arn,ai,v2,rfl,-⟩:=z3 0 b (by rw[ay];rfl);obtain rfl:aoy=a.cells:=fT;have Zm:ga.esz=4:=rfl;have Zl:gQ.esz=3:=rfl;rw[aa,Zm] at A9;rw[U,Zl] at lw;rw[Zm] at OB;rw[Zl] at z2;simp only[dW.cells,aB,Nat.add_zero] at e8;rw[al,Nat.add_zero] at ai;have arQ:=J.aW OB;have arR:=J.aW z2;have arK:((0:Int)).toNat=0:=rfl;have hle:(0:Int)<=0:=Int.le_refl _;have eo:(0:Int)<((1:Nat):Int):=cl;have apP:en P 23 cf (.int .i64 0)=some (.ptr bE i1 0):=by rw[A9];exact Mz hle eo
  have apQ:en P 22 ch (.int .i64 0)=some (.ptr h2 i2 0):=by rw[lw];exact My hle eo
  have FZ:((7:Int)==7)=true:=rfl;have MV:((1:Int)==1)=true:=rfl;simp-implicitDefEqProofs(disch:=try exact ag) only[reduceAdd,reduceLeDiff,reduceIte,az,J.h8,bJ,c2,c3,aI,nT,cZ,dk,dJ,apP,apQ,OB,z2,e8,ai,FZ,MV];refine hh (Gn eD (gj.bo (d_.aK cx)) (e3.bo (d_.aK cx)) (gk.bo (d_.aK cx)) (gj.bo (d_.aK cx)) (e3.bo (d_.aK cx)) (gk.bo (d_.aK cx))) ?_;rintro _ bl ⟨rfl,bz⟩;refine⟨bz.1,?_⟩;have g2:=bz.get ((aR.push (H1.push (.row false 3 [[ch,cf,ci]])) (.row false 2 [[.int .i64 0,.int .i64 0]])).get (J.ca H1 (.row false 3 [[ch,cf,ci]])));have eM:=cx.trans bz;rw[PM];simp-implicitDefEqProofs(disch:=try exact ag) only[reduceAdd,reduceLeDiff,reduceIte,az,g2]
  have K7: ∀(H:J),eR gQ H (λ_=>True) eb.none.ey .an/\eR ga H (λ_=>True) eb.none.globals .an/\eR gN H (λ_=>True) eb.none.funcs .an:=λH=>⟨eR.nil,eR.nil,eR.nil⟩
  refine hh (Gn (g':= .none) eD (gj.bo (d_.aK eM)) (e3.bo (d_.aK eM)) (gk.bo (d_.aK eM)) (K7 _).1 (K7 _).2.1 (K7 _).2.2) ?_;rintro _ cu ⟨rfl,bK⟩;refine⟨bK.1,?_⟩;have dK:oZ g .none=false:=by
   unfold oZ;rw[wS g.ey eb.none.ey (by rw[U];simp[eb.none]),Bool.false_and]
  rw[dK];simp-implicitDefEqProofs(disch:=try exact ag) only[bj,bO,Bool.not_false];exact a8.2 ⟨rfl,(aJ.trans bz).trans bK⟩
 ·cases ah
end
section
section
variable {T:List Tok}{s:aw}
theorem pF{x:bk}(af:kw x=4):(cY T x s).2=cq T x s:=by
 unfold cY cq b2;rw[af];cases b4 T s 4 x<;>rfl
theorem su(h:s.aA≠0)(x:bk):(cY T x s).2=s:=by
 unfold cY;rw[l2 h,bi];exact iK h 2
theorem ss(h:s.aA≠0)(x:bk):cq T x s=s:=by
 unfold cq;rw[hg h,bi];exact iK h 2
theorem Pl(h:s.aA≠0)(k:Int)(x:bk):fg T k x s=(false,s):=by unfold fg;rw[l2 h,bi]
theorem PD(h:s.aA≠0)(b:Bool)(x y:Int):gP T b x y s=s:=by
 unfold gP;cases b&&decide (y<=x)
 ·rfl
 ·rw[bx];exact iK h 4
theorem Gg(h:s.aA≠0):nB T s=(([],0),s):=if_pos h
theorem JI(h:s.aA≠0):(hQ T s).2.aA=s.aA/\(hQ T s).2.cw=s.cw:=by
 unfold hQ;cases((aq T s.at_).kind != 1)
 ·exact⟨rfl,rfl⟩
 ·rw[bx,iK h];exact⟨rfl,rfl⟩
theorem Dr(h:s.aA≠0):(iW T s).2.aA=s.aA/\(iW T s).2.cw=s.cw:=by
 obtain⟨a,b⟩:=JI (T:=T) h;have U:(hQ T s).2.aA≠0:=by rw[a];exact h
 unfold iW;simp only[su U,Gg U];exact⟨a,b⟩
theorem yB(h:s.aA≠0)(n:Nat)(l:List dW):tE T (n+1) l s=some (l,s):=by
 have ay:(s.aA==0)=false:=by simpa using h
 rw[tE,ay];rfl
theorem OS(h:s.aA≠0)(n:Nat)(l:List dW):rp T (n+1) l s=some (l,s):=by
 have ay:(s.aA==0)=false:=by simpa using h
 rw[rp,ay];rfl
theorem Do(h:s.aA≠0)(n:Nat)(l:List dW):pH T (n+1) l s=some (l,s):=by
 rw[pH,Pl h];rfl
theorem Gb(h:s.aA≠0)(n:Nat)(l:List dW):nq T (n+1) l s=some (l,s):=by
 have ay:(s.aA==0)=false:=by simpa using h
 rw[nq,ay];rfl
theorem aaz(h:s.aA≠0):tP T s=s:=by
 unfold tP;rw[ss h,hg h];rfl
structure hx(T:List Tok)(s:aw):Prop where
 f:s.aA=0
 a:0<=s.at_
 b:s.at_<T.length
 o:s.bN=0
 z:s.cw=0
theorem hx.in(g:hx T s):In ((T.length:Int)-1) s:=⟨g.a,by have:=g.b;omega,by rw[g.o];omega,by rw[g.o];omega⟩
theorem hx.f_{s':aw}{k:Int}(g:hx T s)(h:fk ((T.length:Int)-1) s s' k)(ah:0<=k)(ct:s'.cw=s.cw):hx T s':=⟨h.nc,by have:=h.a;have:=g.a;omega,by have:=h.b;omega,by rw[h.o];exact g.o,by rw[ct];exact g.z⟩
theorem hx.take(aH:hq T)(g:hx T s){x:bk}(ak:(cq T x s).aA=0):hx T (cq T x s)/\s.at_+1<=(cq T x s).at_:=by
 obtain⟨U,aa,ae⟩:=l4 aH.g (λ_=>g.in) ak;exact⟨g.f_ ae Z (by rw[aa];rfl),ae.a⟩
theorem hx.go(aH:hq T)(g:hx T s)(ah:(aq T s.at_).kind≠0):hx T (aE s)/\s.at_+1<=(aE s).at_:=by
 obtain⟨U,aa⟩:=go_ok aH.g g.in g.f ah;exact⟨g.f_ aa Z rfl,aa.a⟩
theorem hx.typed(aH:hq T)(g:hx T s)(ak:(fN T s).2.aA=0):hx T (fN T s).2/\s.at_+3<=(fN T s).2.at_:=by
 obtain⟨-,-,f_⟩:=SE aH.g (λ_=>g.in) ak;have na:=KD aH.n (s:=s) (x:=s) g.f ⟨rfl,rfl,bL _⟩ g.z;have ct:(fN T s).2.cw=s.cw:=by
  rcases na.1 with⟨U,e⟩|⟨U,aa,-⟩
  ·rw[e];exact(na.2 U).2.1
  ·rw[aa] at ak;exact absurd ak U
 exact⟨g.f_ f_ Z ct,f_.a⟩
theorem KV(aH:hq T)(g:hx T s):e4 (iW T s) (gZ T s):=by
 have ql:(s.aA==0)=true:=by rw[g.f];rfl
 unfold iW gZ fN hQ da;rw[ql,Bool.true_and];cases ah:(aq T s.at_).kind==1 with
 |true=>
  have eZ:((aq T s.at_).kind != 1)=false:=by rw[bne,ah];rfl
  have jq:(aq T s.at_).kind≠0:=by
   have U:(aq T s.at_).kind=1:=by simpa using ah
   omega
  simp only[eZ,bi,bx];rw[pF cl];have g1:=(g.go aH jq).1;by_cases aa:(cq T [58] (aE s)).aA=0
  ·have g2:=(g1.take aH aa).1;rw[show nB T (cq T [58] (aE s))=mo T (cq T [58] (aE s)) from if_neg (λh=>h aa)];have na:=(Hi aH.n (s:=cq T [58] (aE s)) (x:=cq T [58] (aE s)) aa ⟨rfl,rfl,bL _⟩ g2.z).1;exact e4.mX na.mr λak=>by rw[na.eq ak]
  ·rw[Gg aa,DG aa];exact .inr ⟨aa,rfl,rfl⟩
 |false=>
  have eZ:((aq T s.at_).kind != 1)=true:=by rw[bne,ah];rfl
  have U:(cL T 2 s).aA≠0:=iU cl;simp only[eZ,bi,bx];rw[su U,Gg U,ss U,DG U];exact .inr ⟨U,rfl,rfl⟩
theorem sO(s:aw){x:bk}(h:kw x=4):b2 T s x=b4 T s 4 x:=by unfold b2;rw[h]
theorem L2(s:aw){x:bk}(h:kw x=3):b2 T s x=b4 T s 3 x:=by unfold b2;rw[h]
theorem QW(aH:hq T): ∀(k:Nat) (s:aw) (l:List dW),(s.aA=0->hx T s/\(T.length:Int)-s.at_<=k/\l.length<=8)-> ∀n cg,k+1<=n->k+1<=cg-> ∃p q,tE T n l s=some p/\rp T cg l s=some q/\e4 p q/\(p.2.aA=0->hx T p.2/\s.at_<=p.2.at_)
 |k,s,l,h,0,_,aV,_=>Z
 |k,s,l,h,_,0,_,aV=>Z
 |k,s,l,h,n+1,cg+1,aV,hk=>by
  by_cases ak:s.aA=0
  ·obtain⟨g,ah,ax⟩:=h ak;have ql:(s.aA==0)=true:=by rw[ak];rfl
   rw[tE,rp,ql,sO s cl];cases af:b4 T s 4 [125] with
   |true=>exact⟨_,_,rfl,rfl,.inl ⟨ak,rfl⟩,λ_=>⟨g,Int.le_refl _⟩⟩
   |false=>
    simp only[Bool.not_false,Bool.and_true,bx];have ay:=g.b;have b1:=g.a;obtain⟨n,rfl⟩: ∃m,n=m+1:=⟨n-1,Z⟩;obtain⟨cg,rfl⟩: ∃m,cg=m+1:=⟨cg-1,Z⟩;cases hm:((aq T s.at_).kind==1&&l.length==8) with
    |true=>
     simp only[Bool.and_eq_true,beq_iff_eq] at hm;have aI:gP T ((aq T s.at_).kind==1) l.length 8 s=cL T 4 s:=by
      unfold gP;rw[show((aq T s.at_).kind==1)=true by simpa using hm.1,show decide ((8:Int)<=(l.length:Int))=true by rw[hm.2];rfl];rfl
     have U:(cL T 4 s).aA≠0:=iU cl;rw[aI,bx];obtain⟨bd,a2⟩:=Dr (T:=T) U;have aa:(iW T (cL T 4 s)).2.aA≠0:=by rw[bd];exact U
     rw[su aa,yB aa];exact⟨_,_,rfl,rfl,.inr ⟨aa,bd.symm,a2.symm⟩,λbW=>absurd bW aa⟩
    |false=>
     have aI:gP T ((aq T s.at_).kind==1) l.length 8 s=s:=by
      unfold gP;cases jq:(aq T s.at_).kind==1 with
      |false=>rfl
      |true=>
       rw[jq,Bool.true_and] at hm;have:l.length≠8:=by simpa using hm
       rw[show decide ((8:Int)<=(l.length:Int))=false from decide_eq_false Z];rfl
     rw[aI,bi];rcases KV aH g with⟨U,e⟩|⟨U,aa,ae⟩
     ·rw[<-e,<-pF (x:=[59]) cl];rw[<-e] at U;obtain⟨g2,cD⟩:=g.typed aH (show(fN T s).2.aA=0 from U);have cC:(gZ T s).2=(fN T s).2:=rfl;have Ns:(aq T s.at_).kind=1:=by
       have j4:(da T s).2.aA=0:=by
        by_cases bg:(da T s).2.aA=0
        ·exact bg
        ·exfalso;have:(fN T s).2.aA≠0:=by
          unfold fN;simp only[ss bg,DG bg];exact bg
         exact this U
       unfold da at j4;rw[ql,Bool.true_and] at j4;cases bg:(aq T s.at_).kind==1 with
       |true=>simpa using bg
       |false=>rw[bg,bi] at j4;exact absurd j4 (iU cl)
      have i_:l.length≠8:=by
       rw[Ns] at hm;simpa using hm
      obtain⟨p,q,f1,f2,f3,f4⟩:=QW aH (k-1) ((cY T [59] (gZ T s).2).2) (l++[(gZ T s).1]) (λbg=>by
       rw[pF cl] at bg ⊢;rw[cC] at bg ⊢;obtain⟨g3,b3⟩:=g2.take aH bg;exact⟨g3,Z,by simp;omega⟩) (n+1) (cg+1) Z Z
      refine⟨p,q,f1,f2,f3,λbW=> ?_⟩;obtain⟨g4,ez⟩:=f4 bW;refine⟨g4,?_⟩;have bg:(cY T [59] (gZ T s).2).2.aA=0:=by
       by_cases bg:(cY T [59] (gZ T s).2).2.aA=0
       ·exact bg
       ·rw[yB bg] at f1;cases f1;exact absurd bW bg
      rw[pF cl,cC] at bg ez;have:=(g2.take aH bg).2;omega
     ·have al:(gZ T s).2.aA≠0:=by rw[aa];exact U
      rw[su U,yB U,ss al,OS al];exact⟨_,_,rfl,rfl,.inr ⟨U,aa,ae⟩,λbW=>absurd bW U⟩
  ·rw[yB ak,OS ak];exact⟨_,_,rfl,rfl,.inr ⟨ak,rfl,rfl⟩,λbW=>absurd bW ak⟩
end
end
section
section
variable {T:List Tok}{s:aw}
theorem ado(U:(fN T s).2.aA=0):s.aA=0/\(aq T s.at_).kind=1:=by
 have j4:(da T s).2.aA=0:=by
  by_cases bg:(da T s).2.aA=0
  ·exact bg
  ·exfalso;have:(fN T s).2.aA≠0:=by
    unfold fN;simp only[ss bg,DG bg];exact bg
   exact this U
 have ak:s.aA=0:=by
  by_cases bg:s.aA=0
  ·exact bg
  ·rw[Gd bg] at j4;exact j4
 have ql:(s.aA==0)=true:=by rw[ak];rfl
 refine⟨ak,?_⟩;unfold da at j4;rw[ql,Bool.true_and] at j4;cases bg:(aq T s.at_).kind==1 with
 |true=>simpa using bg
 |false=>rw[bg,bi] at j4;exact absurd j4 (iU cl)
theorem afW(h:(aq T s.at_).kind=1){n:Nat}{m:Int}(hm:m<=n):gP T ((aq T s.at_).kind==1) n m s=cL T 4 s:=by
 unfold gP;rw[show((aq T s.at_).kind==1)=true by simpa using h,show decide (m<=(n:Int))=true from decide_eq_true hm];rfl
theorem DK{b:Bool}{n:Nat}{m:Int}(hm:b=true->(n:Int)<m):gP T b n m s=s:=by
 unfold gP;cases b with
 |false=>rfl
 |true=>
  rw[show decide (m<=(n:Int))=false from decide_eq_false (by have:=hm rfl;omega)];rfl
theorem Gu{k:Int}{x y:bk}(h:b4 T s k x=true)(aV:x≠y):b4 T s k y=false:=by
 obtain⟨-,-,ae⟩:=sz h;cases ay:b4 T s k y with
 |false=>rfl
 |true=>obtain⟨-,-,al⟩:=sz ay;exact absurd (ae.symm.trans al) aV
theorem Vs{k:Int}{x:bk}(h:b4 T s k x=true)(ah:k≠0):(aq T s.at_).kind≠0:=by rw[(sz h).2.1];exact ah
def yt(T:List Tok)(p q:List dW×aw):Prop:=e4 (p.1,(cY T [41] p.2).2) (q.1,cq T [41] q.2)
theorem yt.failed{p q:List dW×aw}(U:p.2.aA≠0)(aa:q.2.aA=p.2.aA)(ae:q.2.cw=p.2.cw):yt T p q:=by
 unfold yt;rw[su U,ss (by rw[aa];exact U)];exact .inr ⟨U,aa,ae⟩
theorem e4.rfl'{α:Type}(p:α×aw):e4 p p:=by
 by_cases h:p.2.aA=0
 ·exact .inl ⟨h,rfl⟩
 ·exact .inr ⟨h,rfl,rfl⟩
theorem Rd(aH:hq T): ∀(k:Nat) (t:aw) (l:List dW),(t.aA=0->hx T t/\(T.length:Int)-t.at_<=k/\l.length<=6/\b4 T t 4 [41]=false)-> ∀n cg,k+1<=n->k+2<=cg-> ∃p q,pH T n (l6 T l t).1 (l6 T l t).2=some p/\nq T cg l t=some q/\yt T p q/\(p.2.aA=0->t.aA=0/\hx T p.2/\t.at_<=p.2.at_)
 |k,t,l,h,0,_,aV,_=>Z
 |k,t,l,h,_,0,_,aV=>Z
 |k,t,l,h,n+1,cg+1,aV,hk=>by
  by_cases ak:t.aA=0
  ·obtain⟨g,ah,ax,af⟩:=h ak;have ql:(t.aA==0)=true:=by rw[ak];rfl
   have ay:=g.b;have b1:=g.a;rw[nq,ql,sO t cl,af];simp only[Bool.not_false,Bool.and_true,bx];obtain⟨cg,rfl⟩: ∃m,cg=m+1:=⟨cg-1,Z⟩;unfold l6;cases hm:((aq T t.at_).kind==1&&l.length==6) with
   |true=>
    simp only[Bool.and_eq_true,beq_iff_eq] at hm;rw[afW hm.1 (by rw[hm.2];decide),bx];have U:(cL T 4 t).aA≠0:=iU cl;obtain⟨bd,a2⟩:=Dr (T:=T) U;have aa:(iW T (cL T 4 t)).2.aA≠0:=by rw[bd];exact U
    rw[Do aa];exact⟨_,_,rfl,rfl,.failed aa bd.symm a2.symm,λbW=>absurd bW aa⟩
   |false=>
    have aI:gP T ((aq T t.at_).kind==1) l.length 6 t=t:=DK λjq=>by
     rw[jq,Bool.true_and] at hm;have:l.length≠6:=by simpa using hm
     omega
    rw[aI,bi];rcases KV aH g with⟨U,e⟩|⟨U,aa,ae⟩
    ·rw[<-e];rw[<-e] at U;have fr:(fN T t).2.aA=0:=U;obtain⟨g2,cD⟩:=g.typed aH fr;have i_:l.length≠6:=by
      have bg:((aq T t.at_).kind==1)=true:=by simpa using(ado fr).2
      rw[bg,Bool.true_and] at hm;simpa using hm
     have cC:(gZ T t).2=(fN T t).2:=rfl;rw[cC];generalize (fN T t).2=s2 at fr g2 cD;generalize (gZ T t).1=w;cases aS:b4 T s2 4 [44] with
     |true=>
      have ano:b4 T s2 4 [41]=false:=Gu aS cl;have tm:pH T (n+1) (l++[w]) s2=pH T n (l6 T (l++[w]) (aE s2)).1 (l6 T (l++[w]) (aE s2)).2:=by
       rw[pH];unfold fg;rw[aS];rfl
      rw[tm,sO s2 cl,ano,bi];obtain⟨g3,b3⟩:=g2.go aH (Vs aS cl);have Oh:cq T [44] s2=aE s2:=by unfold cq;rw[sO s2 cl,aS];rfl
      unfold tP;rw[Oh,sO (aE s2) cl];cases bb:b4 T (aE s2) 4 [41] with
      |true=>
       rw[bx];have al:(cL T 2 (aE s2)).aA≠0:=iU cl;have Y0:(aq T (aE s2).at_).kind=4:=(sz bb).2.1;have bc:gP T ((aq T (aE s2).at_).kind==1) (l++[w]).length 6 (aE s2)=aE s2:=DK λjq=>by
        rw[Y0] at jq;exact absurd jq cl
       have dm:(iW T (aE s2)).2.aA=(cL T 2 (aE s2)).aA/\(iW T (aE s2)).2.cw=(cL T 2 (aE s2)).cw:=by
        have Ir:hQ T (aE s2)=(.none,cL T 2 (aE s2)):=by
         unfold hQ;rw[Y0];rfl
        unfold iW;rw[Ir];simp only[su al,Gg al,and_self]
       have aB:(iW T (aE s2)).2.aA≠0:=by rw[dm.1];exact al
       obtain⟨n,rfl⟩: ∃m,n=m+1:=⟨n-1,Z⟩;unfold l6;rw[bc,Do aB,Gb al];exact⟨_,_,rfl,rfl,.failed aB dm.1.symm dm.2.symm,λbW=>absurd bW aB⟩
      |false=>
       rw[bi];obtain⟨p,q,f1,f2,f3,f4⟩:=Rd aH (k-1) (aE s2) (l++[w]) (λ_=>⟨g3,Z,by simp;omega,bb⟩) n (cg+1) Z Z;exact⟨p,q,f1,f2,f3,λbW=>⟨ak,(f4 bW).2.1,by have:=(f4 bW).2.2;omega⟩⟩
     |false=>
      have tm:pH T (n+1) (l++[w]) s2=some (l++[w],s2):=by
       rw[pH];unfold fg;rw[aS];rfl
      rw[tm];cases bb:b4 T s2 4 [41] with
      |true=>
       rw[sO s2 cl,bb,bx];have:nq T (cg+1) (l++[w]) s2=some (l++[w],s2):=by
        rw[nq,sO s2 cl,bb,Bool.not_true,Bool.and_false,bi]
       refine⟨_,_,rfl,this,?_,λ_=>⟨ak,g2,by show t.at_<=s2.at_;omega⟩⟩;unfold yt;rw[pF cl];exact e4.rfl' _
      |false=>
       rw[sO s2 cl,bb,bi];have al:(cL T 2 s2).aA≠0:=iU cl;have Oh:cq T [44] s2=cL T 2 s2:=by unfold cq;rw[sO s2 cl,aS];rfl
       have aqi:tP T s2=cL T 2 s2:=by unfold tP;rw[Oh,hg al];rfl
       rw[aqi,Gb al];refine⟨_,_,rfl,rfl,?_,λ_=>⟨ak,g2,by show t.at_<=s2.at_;omega⟩⟩;unfold yt;have aqj:(cY T [41] s2).2=cL T 2 s2:=by unfold cY;rw[bb];rfl
       simp only[aqj,ss al];exact e4.rfl' _
    ·have al:(gZ T t).2.aA≠0:=by rw[aa];exact U
     rw[Do U,hg al,bi,aaz al,Gb al];exact⟨_,_,rfl,rfl,.failed U aa ae,λbW=>absurd bW U⟩
  ·unfold l6;rw[PD ak];obtain⟨bd,a2⟩:=Dr (T:=T) ak;have aa:(iW T t).2.aA≠0:=by rw[bd];exact ak
   rw[Do aa,Gb ak];exact⟨_,_,rfl,rfl,.failed aa bd.symm a2.symm,λbW=>absurd bW aa⟩
theorem abj(aH:hq T)(t:aw)(h:t.aA=0->hx T t): ∃p q,yJ T 800000000 t=some p/\nq T 800000000 [] t=some q/\yt T p q/\(p.2.aA=0->t.aA=0/\hx T p.2/\t.at_<=p.2.at_):=by
 have aV:=aH.n;unfold yJ;cases ay:b4 T t 4 [41] with
 |true=>
  have g:=h (sz ay).1;rw[bx];have:nq T 800000000 [] t=some ([],t):=by
   rw[show(800000000:Nat)=799999999+1 from rfl,nq,sO t cl,ay,Bool.not_true,Bool.and_false,bi]
  refine⟨_,_,rfl,this,?_,λ_=>⟨(sz ay).1,g,Int.le_refl _⟩⟩;unfold yt;rw[pF cl];exact e4.rfl' _
 |false=>
  rw[bi];exact Rd aH T.length t [] (λak=>⟨h ak,by have:=(h ak).a;omega,cl,ay⟩) _ _ Z Z
theorem afH(aH:hq T){p:aw}{s':aw}(h:g_ (cY T [41] p).2 s')(aX:(cY T [41] p).2.aA=0->hx T (cY T [41] p).2):e4 (j0 T p) (oE T s')/\((j0 T p).2.aA=0->(cY T [41] p).2.aA=0/\hx T (j0 T p).2/\(cY T [41] p).2.at_<=(j0 T p).2.at_):=by
 unfold j0;generalize (cY T [41] p).2=w at h aX;unfold oE fg;rcases h with⟨h,rfl⟩|⟨U,aa,ae⟩
 ·have g:=aX h;rw[sO s' cl];cases aS:b4 T s' 4 [58] with
  |true=>
   simp only[bx];obtain⟨g2,cD⟩:=g.go aH (Vs aS cl);rw[show nB T (aE s')=mo T (aE s') from if_neg (λh=>h g2.f)];obtain⟨MR,aov⟩:=Hi aH.n (s:=aE s') (x:=aE s') g2.f ⟨rfl,rfl,bL _⟩ g2.z;refine⟨e4.mX MR.mr λak=>by rw[MR.eq ak],λak=> ?_⟩;obtain⟨bJ,c2,-⟩:=aov ak;have eq:=MR.eq ak;obtain⟨-,f_⟩:=Ep aH.g (λ_=>g2.in) (show(e5 T (aE s')).2.aA=0 by rw[eq];exact ak);rw[eq] at f_;exact⟨h,g2.f_ f_ Z c2,by have:=f_.a;show s'.at_<=(mo T (aE s')).2.at_;omega⟩
  |false=>
   simp only[bi];exact⟨e4.rfl' _,λ_=>⟨h,g,Int.le_refl _⟩⟩
 ·have bZ:s'.aA≠0:=by rw[aa];exact U
  rw[l2 U,hg bZ];exact⟨.inr ⟨U,aa,ae⟩,λak=>absurd ak U⟩
end
end
section
section
variable {T:List Tok}{s t:aw}
theorem agW(aH:hq T)(g:hx T t):(hQ T t).2=(da T t).2/\((da T t).2.aA=0->(hQ T t).1.text=(da T t).1/\(hQ T t).1.pos=(aq T t.at_).pos/\hx T (da T t).2/\t.at_+1<=(da T t).2.at_):=by
 have ql:(t.aA==0)=true:=by rw[g.f];rfl
 unfold hQ da;rw[ql,Bool.true_and];cases ah:(aq T t.at_).kind==1 with
 |true=>
  have eZ:((aq T t.at_).kind != 1)=false:=by rw[bne,ah];rfl
  have jq:(aq T t.at_).kind≠0:=by
   have U:(aq T t.at_).kind=1:=by simpa using ah
   omega
  rw[eZ,bi,bx];exact⟨rfl,λ_=>⟨rfl,rfl,g.go aH jq⟩⟩
 |false=>
  have eZ:((aq T t.at_).kind != 1)=true:=by rw[bne,ah];rfl
  rw[eZ,bx,bi];exact⟨rfl,λak=>absurd ak (iU cl)⟩
theorem y9(x:bk)(h:(cq T x s).aA=0):s.aA=0:=by
 by_cases aO:s.aA=0
 ·exact aO
 ·rw[ss aO] at h;exact h
theorem TM(aH:hq T)(g:hx T t){x:bk}(af:kw x=4):(cY T x (hQ T t).2).2=cq T x (da T t).2/\((cq T x (da T t).2).aA=0->(hQ T t).1.text=(da T t).1/\(hQ T t).1.pos=(aq T t.at_).pos/\hx T (cq T x (da T t).2)/\t.at_+2<=(cq T x (da T t).2).at_):=by
 obtain⟨bd,a2⟩:=agW aH g;rw[pF af,bd];refine⟨rfl,λak=> ?_⟩;obtain⟨bJ,c2,c3,c4⟩:=a2 (y9 x ak);obtain⟨d1,d2⟩:=c3.take aH ak;exact⟨bJ,c2,d1,Z⟩
theorem ad1(aH:hq T)(g:eb)(gs:hx T s)(ah:(aq T s.at_).kind≠0)(ax:g.ey.length<12): ∃p q,wU T 800000000 g s=some p/\tF T 800000000 (aE s)=some q/\e4 p ({g with ey:=g.ey++[q.1]},q.2)/\(p.2.aA=0->hx T p.2/\s.at_+1<=p.2.at_):=by
 have aV:=aH.n;obtain⟨g1,c_⟩:=gs.go aH ah;have aI:gP T true g.ey.length 12 s=s:=DK λ_=>Z
 unfold wU tF;rw[aI];obtain⟨bd,a2⟩:=TM aH g1 (x:=[123]) cl;rw[bd];obtain⟨p,q,f1,f2,f3,f4⟩:=QW aH T.length (cq T [123] (da T (aE s)).2) [] (λak=>⟨(a2 ak).2.2.1,by have:=(a2 ak).2.2.1.a;omega,cl⟩) 800000000 800000000 Z Z;rw[f1,f2];refine⟨_,_,rfl,rfl,e4.mX (Bq f3.mr cl) λak=> ?_,λak=> ?_⟩
 ·have eX:(cY T [125] p.2).2.aA=0:=ak;have a6:p.2.aA=0:=by rw[pF cl] at eX;exact y9 _ eX
  obtain⟨g4,ez⟩:=f4 a6;have U:(cq T [123] (da T (aE s)).2).aA=0:=by
   by_cases bg:(cq T [123] (da T (aE s)).2).aA=0
   ·exact bg
   ·rw[show(800000000:Nat)=799999999+1 from rfl,yB bg] at f1;cases f1;exact absurd a6 bg
  obtain⟨bJ,c2,-,-⟩:=a2 U;rw[bJ,c2,f3.eq a6]
 ·have eX:(cY T [125] p.2).2.aA=0:=ak;rw[pF cl] at eX;have a6:p.2.aA=0:=y9 _ eX;obtain⟨g4,ez⟩:=f4 a6;have U:(cq T [123] (da T (aE s)).2).aA=0:=by
   by_cases bg:(cq T [123] (da T (aE s)).2).aA=0
   ·exact bg
   ·rw[show(800000000:Nat)=799999999+1 from rfl,yB bg] at f1;cases f1;exact absurd a6 bg
  obtain⟨-,-,-,c4⟩:=a2 U;obtain⟨d1,d2⟩:=g4.take aH eX;simp only[pF (show kw [125]=4 by decide)];exact⟨d1,Z⟩
theorem adJ(aH:hq T)(g:eb)(gs:hx T s)(ah:(aq T s.at_).kind≠0)(ax:g.globals.length<8):e4 (k6 T g s) ({g with globals:=g.globals++[(gZ T (aE s)).1]},cq T [59] (gZ T (aE s)).2)/\((k6 T g s).2.aA=0->hx T (k6 T g s).2/\s.at_+1<=(k6 T g s).2.at_):=by
 obtain⟨g1,c_⟩:=gs.go aH ah;have aI:gP T true g.globals.length 8 s=s:=DK λ_=>Z
 unfold k6;rw[aI];have na:=KV aH g1;refine⟨e4.mX (Bq na.mr cl) λak=> ?_,λak=> ?_⟩
 ·have eX:(cY T [59] (iW T (aE s)).2).2.aA=0:=ak;rw[pF cl] at eX;rw[na.eq (y9 _ eX)]
 ·have eX:(cY T [59] (iW T (aE s)).2).2.aA=0:=ak;rw[pF cl] at eX;have eq:=na.eq (y9 _ eX);simp only[pF (show kw [59]=4 by decide)];have a6:=y9 _ eX;rw[<-eq] at eX a6 ⊢;obtain⟨bJ,c2⟩:=g1.typed aH (show(fN T (aE s)).2.aA=0 from a6);obtain⟨d1,d2⟩:=bJ.take aH eX;exact⟨d1,by show s.at_+1<=(cq T [59] (fN T (aE s)).2).at_;omega⟩
theorem aaw(h:s.aA≠0)(n:Nat): ∃q,jX T (n+2) s=some q/\q.2.aA=s.aA/\q.2.cw=s.cw:=by
 have U:(ig s).aA≠0:=h;have ay:((ig s).aA==0)=false:=by simpa using U
 have aI:eE T [123] s=ig s:=by
  unfold eE;rw[hg h,ss h];rfl
 rw[jX,aI,mK,ay,Bool.false_and,bi,Option.bind_some];refine⟨_,rfl,?_,?_⟩
 ·unfold f0;rw[ss U];rfl
 ·unfold f0;rw[ss U];rfl
theorem afw(aH:hq T)(g:hx T s): ∃q,jX T 800000000 s=some q/\e4 (oV T s) q/\((oV T s).2.aA=0->hx T (oV T s).2/\s.at_<=(oV T s).2.at_):=by
 have nT:lE s.at_ 0=s:=by
  have:=PT (x:=s) g.f g.z (by rw[g.o];exact Int.le_refl 0);rw[g.o] at this;exact this
 obtain⟨p,q,aI,bc,-,na⟩:=P9 aH.n s.at_ 0;rw[nT] at bc na;refine⟨q,bc,?_⟩;unfold oV;rw[aI];by_cases ak:p.2.aA=0
 ·have eq:=na.1.eq ak;obtain⟨bJ,c2,-⟩:=na.2 ak;have F0:oz p.2.at_ 0 0 s=p.2:=by
   unfold oz;rw[if_neg (λh=>h rfl)];have:=g.f;have:=g.o;have:=g.z;cases s;cases bA:p.2;rw[bA] at ak bJ c2
   simp_all
  simp only[iL,if_pos ak,F0];obtain⟨f_,-,-⟩:=(LC aH.g (Ym aH.n) 800000000).block s q (λ_=>g.in) bc (by rw[eq];exact ak);rw[eq] at f_;exact⟨.inl ⟨ak,eq⟩,λ_=>⟨g.f_ f_ Z c2,by have:=f_.a;omega⟩⟩
 ·simp only[iL,if_neg ak];have F0:oz 0 p.2.aA p.2.cw s={s with aA:=p.2.aA,cw:=p.2.cw}:=if_pos ak;rw[F0];rcases na.1 with⟨h,-⟩|⟨-,aa,ae⟩
  ·exact absurd h ak
  ·exact⟨.inr ⟨ak,aa,ae⟩,λh=>absurd h ak⟩
theorem abl(aH:hq T)(g:eb)(gs:hx T s)(ah:(aq T s.at_).kind≠0)(ax:g.funcs.length<16): ∃p q,wN T 800000000 g s=some p/\tz T 800000000 (aE s)=some q/\e4 p ({g with funcs:=g.funcs++[q.1]},q.2)/\(p.2.aA=0->hx T p.2/\s.at_+1<=p.2.at_/\p.1.funcs.length=g.funcs.length+1):=by
 obtain⟨g1,c_⟩:=gs.go aH ah;have aI:gP T true g.funcs.length 16 s=s:=DK λ_=>Z
 unfold wN tz;rw[aI];obtain⟨bd,a2⟩:=TM aH g1 (x:=[40]) cl;rw[bd];obtain⟨p,q,f1,f2,f3,f4⟩:=abj aH (cq T [40] (da T (aE s)).2) (λak=>(a2 ak).2.2.1);rw[f1,f2];simp only[Option.bind_some];have hw:(cY T [41] p.2).2.aA=0->p.2.aA=0/\hx T (cY T [41] p.2).2/\p.2.at_<=(cY T [41] p.2).2.at_:=λak=>by
  rw[pF cl] at ak ⊢;have a6:=y9 _ ak;obtain⟨-,g4,-⟩:=f4 a6;obtain⟨d1,d2⟩:=g4.take aH ak;exact⟨a6,d1,Z⟩
 obtain⟨gj,e3⟩:=afH aH (p:=p.2) (s':=cq T [41] q.2) f3.mr λak=>(hw ak).2.1
 by_cases ae:(j0 T p.2).2.aA=0
 ·obtain⟨cS,dq,dP⟩:=e3 ae;obtain⟨gd,-,jx⟩:=hw cS;obtain⟨jT,uY,ZY⟩:=f4 gd;obtain⟨bJ,c2,c3,c4⟩:=a2 jT;have bY:=gj.eq ae;have eq:q.1=p.1:=(Prod.ext_iff.1 (f3.eq cS)).1;obtain⟨b,m1,m2,m3⟩:=afw aH dq;rw[bY,m1];refine⟨_,_,rfl,rfl,?_⟩;unfold oy;rw[if_neg (λh=>h ae)];refine⟨e4.mX m2.mr λak=> ?_,λak=> ?_⟩
  ·rw[m2.eq ak,bJ,c2,eq]
  ·obtain⟨fw,n2⟩:=m3 ak;exact⟨fw,by show s.at_+1<=(oV T (j0 T p.2).2).2.at_;omega,by simp⟩
 ·rcases gj with⟨h,-⟩|⟨-,al,aB⟩
  ·exact absurd h ae
  ·obtain⟨b,m1,m2,m3⟩:=aaw (T:=T) (s:=(oE T (cq T [41] q.2)).2) (by rw[al];exact ae) 799999998;rw[show(800000000:Nat)=799999998+2 from rfl,m1];refine⟨_,_,rfl,rfl,?_⟩;unfold oy;rw[if_pos ae];exact⟨.inr ⟨ae,m2.trans al,m3.trans aB⟩,λh=>absurd h ae⟩
end
end
end Go.Proofs.YtghmbpmaafnodaaGreatDoor
