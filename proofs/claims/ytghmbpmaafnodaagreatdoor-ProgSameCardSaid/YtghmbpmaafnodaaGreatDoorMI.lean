/-
  Texts of one proof, laid together: ShC Y1 Y2 Y3.
-/
import Derived.Test.YtghmbpmaafnodaaGreatDoorMD
import Derived.Test.YtghmbpmaafnodaaGreatDoorMG
import Derived.Test.YtghmbpmaafnodaaGreatDoorME
set_option linter.unusedVariables false
set_option linter.unusedSimpArgs false
namespace Go.Proofs.YtghmbpmaafnodaaGreatDoor
open Go.f7
open Nat (reduceAdd reduceLeDiff)
section
set_option maxRecDepth 100000
noncomputable section
def AF(G:av)(Y:I)(H:J):O:=
 cv H [(.int .i64 0),(.str []),(.int .i64 0),(.int .i64 0)] λap U=>
 ab (b7 Y) λa_=>
 ab (aF P 63 a_ 1) λbf=>
 ab (am P U 3 bf) λbB=>
 ab (aZ P .lss 3 true bB (.int .i64 0)) λbu=>
 aD bu false U (dw Y) λbF aa=>
 aD bu false aa (bm (b7 bF)) λcr ae=>
 aD bu false ae (bm (aF P 63 cr 1)) λb8 al=>
 aD bu false al (qr (am P al 3 b8)) λcb aB=>
 aD bu false aB (dw Y) λb0 aG=>
 aD bu false aG (bm (b7 b0)) λbT aP=>
 aD bu false aP (bm (aF P 63 bT 0)) λbX bn=>
 aD bu false bn (qr (am P bn 50 bX)) λbI bH=>
 aD bu false bH (λq=>ia (dC P .empty .len [50] [bI]) (dC P bH .len [50] [bI]) q) λcc co=>
 aD bu false co (bm (aZ P .geq 3 false cb cc)) λcG dp=>
 ab (cW bu (some (.bool true)) (some cG)) λc6=>
 bQ (some c6) (a1 dp (aQ P dp 57 ap (.agg [(.int .i64 0),(.str []),(.int .i64 0),(.int .i64 0)])) λdR=>
 ab (am P dR 57 ap) λr=>
 some (r,dR)) (ab (b7 Y) λc7=>
 ab (aF P 63 c7 0) λcI=>
 ab (am P dp 50 cI) λdb=>
 ab (b7 Y) λdu=>
 ab (aF P 63 du 1) λdh=>
 ab (am P dp 3 dh) λdT=>
 ab (en P 50 db dT) λdI=>
 ab (am P dp 57 dI) λcH=>
 a1 dp (aQ P dp 57 ap cH) λdR=>
 ab (am P dR 57 ap) λr=>
 some (r,dR))
theorem ajV(G:av)(N:Nat)(Y:I)(H:J):bp Tryz.f26 G N (cF [Y]) H=AF G Y H:=by
 refine cP (A:=bp Tryz.f26 G N) (aN _) ?_;delta AF;kernel_rfl
theorem alW(N:Nat){Y:I}{H:J}{r:I×J}(h:AF (au P ao) Y H=some r):au P ao 26 [Y] H=some r:=
 cV ad Tryz.func26 ad ad ad ((ajV (au P ao) N Y H).trans h)
def IN(G:av)(Y:I)(H:J):O:=
 ab (b7 Y) λa_=>
 ab (aF P 63 a_ 3) λbf=>
 ab (aF P 29 bf 0) λbB=>
 ab (am P H 27 bB) λbu=>
 ab (aZ P .eql 27 true bu (.int .i64 0)) λbS=>
 some (bS,H)
theorem ajU(G:av)(N:Nat)(Y:I)(H:J):bp Tryz.f25 G N (cF [Y]) H=IN G Y H:=by
 refine cP (A:=bp Tryz.f25 G N) (aN _) ?_;delta IN;kernel_rfl
theorem alV(N:Nat){Y:I}{H:J}{r:I×J}(h:IN (au P ao) Y H=some r):au P ao 25 [Y] H=some r:=
 cV ad Tryz.func25 ad ad ad ((ajU (au P ao) N Y H).trans h)
def AG(G:av)(Y ai:I)(H:J):O:=
 aL H (G 25 [Y] H) λbf U=>
 bQ (some bf) (aL U (G 26 [Y] U) λbF aa=>
 ab (d8 P 57 bF 3) λcr=>
 ab (cM P 29 [(0,ai),(1,cr)]) λb8=>
 ab (b7 Y) λcb=>
 ab (aF P 63 cb 3) λb0=>
 a1 aa (aQ P aa 29 b0 b8) λae=>
 some (.tuple [],ae)) (some (.tuple [],U))
theorem ajX(G:av)(N:Nat)(Y:I)(ai:I)(H:J):bp Tryz.f28 G N (cF [Y,ai]) H=AG G Y ai H:=by
 refine cP (A:=bp Tryz.f28 G N) (aN _) ?_;delta AG;kernel_rfl
theorem alY(N:Nat){Y ai:I}{H:J}{r:I×J}(h:AG (au P ao) Y ai H=some r):au P ao 28 [Y,ai] H=some r:=
 cV ad Tryz.func28 ad ad ad ((ajX (au P ao) N Y ai H).trans h)
def zk(G:av)(Y ai:I)(bf bB:I)(H:J):O:=
 aL H (G 25 [Y] H) λcG U=>
 aD cG true U (bm (aF P 57 bf 0)) λcN aa=>
 aD cG true aa (qr (am P aa 3 cN)) λcz ae=>
 aD cG true ae (dw bB) λc7 al=>
 aD cG true al (bm (aZ P .eql 3 false cz c7)) λcI aB=>
 ab (cW cG (some cI) (some (.bool false))) λdb=>
 aD db true aB (bm (aF P 57 bf 1)) λdu aG=>
 aD db true aG (qr (am P aG 9 du)) λdh aP=>
 aD db true aP (dw ai) λdT bn=>
 aD db true bn (bm (aZ P .eql 9 false dh dT)) λdI bH=>
 ab (cW db (some dI) (some (.bool false))) λcH=>
 some (cH,bH)
theorem aej(G:av)(N:Nat): ∀R H,cA P G N (Code.snd (Code.snd (Code.snd (Code.snd (di Tryz.f27))))) (b_ Tryz.f27) [] (b_ Tryz.f27) R H=zk G (R 0) (R 1) (R 5) (R 6) H:=by
 refine ds (aN _) λR H=> ?_
 delta zk;kernel_rfl
def uL(G:av)(Y ai:I)(H:J):O:=
 aL H (G 26 [Y] H) λbS U=>
 cv U [(.int .i64 0),(.str []),(.int .i64 0),(.int .i64 0)] λbf aa=>
 a1 aa (aQ P aa 57 bf bS) λae=>
 ab (hP P 9 ai (.int .i64 0)) λcr=>
 ab (aZ P .geq 5 true cr (.int .u8 97)) λb8=>
 aD b8 true ae (dw ai) λb0 al=>
 aD b8 true al (bm (hP P 9 b0 (.int .i64 0))) λbT aB=>
 aD b8 true aB (bm (aZ P .leq 5 true bT (.int .u8 122))) λbX aG=>
 ab (cW b8 (some bX) (some (.bool false))) λbI=>
 bQ (some bI) (zk G Y ai bf (.int .i64 3) aG) (zk G Y ai bf (.int .i64 4) aG)
theorem ajW(G:av)(N:Nat)(Y:I)(ai:I)(H:J):bp Tryz.f27 G N (cF [Y,ai]) H=uL G Y ai H:=by
 refine cP (A:=bp Tryz.f27 G N) ((br ad ((br ad ((br ad ((br ad (aej G N) (aN _))) (aN _))) (aN _))) (aN _))) ?_;delta uL;generalize zk G=ba;revert ba;refine id ?_;intro ba;kernel_rfl
theorem alX(N:Nat){Y ai:I}{H:J}{r:I×J}(h:uL (au P ao) Y ai H=some r):au P ao 27 [Y,ai] H=some r:=
 cV ad Tryz.func27 ad ad ad ((ajW (au P ao) N Y ai H).trans h)
def AH(G:av)(Y ai:I)(H:J):O:=
 aL H (G 27 [Y,ai] H) λbB U=>
 ab (fh .not bB) λbu=>
 bQ (some bu) (aL U (G 28 [Y,(.int .i64 2)] U) λbF aa=>
 some (.tuple [],aa)) (ab (b7 Y) λb8=>
 ab (aF P 63 b8 1) λcb=>
 ab (am P U 3 cb) λb0=>
 ab (aZ P .add 3 true b0 (.int .i64 1)) λbT=>
 ab (b7 Y) λbX=>
 ab (aF P 63 bX 1) λbI=>
 a1 U (aQ P U 3 bI bT) λaa=>
 some (.tuple [],aa))
theorem aj0(G:av)(N:Nat)(Y:I)(ai:I)(H:J):bp Tryz.f31 G N (cF [Y,ai]) H=AH G Y ai H:=by
 refine cP (A:=bp Tryz.f31 G N) (aN _) ?_;delta AH;kernel_rfl
theorem al1(N:Nat){Y ai:I}{H:J}{r:I×J}(h:AH (au P ao) Y ai H=some r):au P ao 31 [Y,ai] H=some r:=
 cV ad Tryz.func31 ad ad ad ((aj0 (au P ao) N Y ai H).trans h)
def Hy(Y cG:I)(aP:J):O:=
 ab (b7 Y) λcN=>
 ab (aF P 63 cN 2) λcz=>
 ab (am P aP 3 cz) λc7=>
 ab (aZ P .add 3 true c7 (.int .i64 1)) λcI=>
 ab (b7 Y) λdb=>
 ab (aF P 63 db 2) λdn=>
 a1 aP (aQ P aP 3 dn cI) λbn=>
 some (.tuple [],bn)
def wv(G:av)(Y ai:I)(H:J):O:=
 aL H (G 27 [Y,ai] H) λbB U=>
 aD bB true U (dw Y) λbS aa=>
 aD bB true aa (bm (b7 bS)) λbF ae=>
 aD bB true ae (bm (aF P 63 bF 2)) λcr al=>
 aD bB true al (qr (am P al 3 cr)) λb8 aB=>
 aD bB true aB (bm (aZ P .geq 3 true b8 (.int .i64 50))) λcb aG=>
 ab (cW bB (some cb) (some (.bool false))) λb0=>
 bQ (some b0) (aL aG (G 28 [Y,(.int .i64 4)] aG) λbX aP=>
 some (.tuple [],aP)) (aL aG (G 31 [Y,ai] aG) (Hy Y))
theorem akI(G:av)(N:Nat)(Y:I)(ai:I)(H:J):bp Tryz.f83 G N (cF [Y,ai]) H=wv G Y ai H:=by
 refine cP (A:=bp Tryz.f83 G N) (aN _) ?_;delta wv Hy;kernel_rfl
theorem amJ(N:Nat){Y ai:I}{H:J}{r:I×J}(h:wv (au P ao) Y ai H=some r):au P ao 83 [Y,ai] H=some r:=
 cV ad Tryz.func83 ad ad ad ((akI (au P ao) N Y ai H).trans h)
def FO(G:av)(Y ai:I)(H:J):O:=
 aL H (G 31 [Y,ai] H) λbB U=>
 ab (b7 Y) λbS=>
 ab (aF P 63 bS 2) λbF=>
 ab (am P U 3 bF) λcr=>
 ab (aZ P .sub 3 true cr (.int .i64 1)) λb8=>
 ab (b7 Y) λcb=>
 ab (aF P 63 cb 2) λb0=>
 a1 U (aQ P U 3 b0 b8) λaa=>
 some (.tuple [],aa)
theorem akK(G:av)(N:Nat)(Y:I)(ai:I)(H:J):bp Tryz.f85 G N (cF [Y,ai]) H=FO G Y ai H:=by
 refine cP (A:=bp Tryz.f85 G N) (aN _) ?_;delta FO;kernel_rfl
theorem amL(N:Nat){Y ai:I}{H:J}{r:I×J}(h:FO (au P ao) Y ai H=some r):au P ao 85 [Y,ai] H=some r:=
 cV ad Tryz.func85 ad ad ad ((akK (au P ao) N Y ai H).trans h)
def B6(cI:I)(bn:J):O:=
 some ((.str []),bn)
def wu(G:av)(Y:I)(H:J):O:=
 aL H (G 26 [Y] H) λbf U=>
 cv U [(.int .i64 0),(.str []),(.int .i64 0),(.int .i64 0)] λaC aa=>
 a1 aa (aQ P aa 57 aC bf) λae=>
 aL ae (G 25 [Y] ae) λbu al=>
 aD bu true al (bm (aF P 57 aC 0)) λbF aB=>
 aD bu true aB (qr (am P aB 3 bF)) λcr aG=>
 aD bu true aG (bm (aZ P .eql 3 true cr (.int .i64 1))) λb8 aP=>
 ab (cW bu (some b8) (some (.bool false))) λcb=>
 bQ (some cb) (ab (b7 Y) λbT=>
 ab (aF P 63 bT 1) λbX=>
 ab (am P aP 3 bX) λbI=>
 ab (aZ P .add 3 true bI (.int .i64 1)) λcc=>
 ab (b7 Y) λcG=>
 ab (aF P 63 cG 1) λc6=>
 a1 aP (aQ P aP 3 c6 cc) λbn=>
 ab (aF P 57 aC 1) λcN=>
 ab (am P bn 9 cN) λcz=>
 some (cz,bn)) (aL aP (G 28 [Y,(.int .i64 2)] aP) (B6))
theorem akm(G:av)(N:Nat)(Y:I)(H:J):bp Tryz.f59 G N (cF [Y]) H=wu G Y H:=by
 refine cP (A:=bp Tryz.f59 G N) (aN _) ?_;delta wu B6;kernel_rfl
theorem amn(N:Nat){Y:I}{H:J}{r:I×J}(h:wu (au P ao) Y H=some r):au P ao 59 [Y] H=some r:=
 cV ad Tryz.func59 ad ad ad ((akm (au P ao) N Y H).trans h)
def kG(G:av)(N:Nat)(ap a_:I)(H:J):O:=
 ab (am P H 43 a_) λh1=>
 a1 H (aQ P H 43 ap h1) λU=>
 ab (am P U 43 ap) λr=>
 some (r,U)
theorem aeK(G:av)(N:Nat): ∀R H,cA P G N (Code.snd (Code.snd (Code.snd (Code.snd (Code.snd (Code.snd (di Tryz.f60))))))) (b_ Tryz.f60) [] (b_ Tryz.f60) R H=kG G N (R 2) (R 4) H:=by
 refine ds (aN _) λR H=> ?_
 delta kG;kernel_rfl
def lC(G:av)(N:Nat)(lr:I->I->I->I->I->J->O)(Y ap:I)(aC a_ bf:I)(H:J):O:=
 ab (aZ P .lss 3 false bf aC) λgw=>
 bQ (some gw) (aL H (G 31 [Y,(.str [93])] H) λhv U=>
 ab (aZ P .add 3 true bf (.int .i64 1)) λgS=>
 lr Y ap aC a_ gS U) (kG G N ap a_ H)
def xl(G:av)(N:Nat):Nat->I->I->I->I->I->J->O
 |0,_,_,_,_,_,_=>none
 |n+1,Y,ap,aC,a_,bf,H=>lC G N (xl G N n) Y ap aC a_ bf H
theorem aeG(G:av)(N:Nat)(lr:I->I->I->I->I->J->O): ∀R H,cA P G N (Code.fst (Code.fst (Code.snd (Code.fst (Code.snd (Code.snd (Code.snd (Code.snd (Code.snd (di Tryz.f60)))))))))) (λR H=>lr (R 0) (R 2) (R 3) (R 4) (R 5) H) [(3,(λR H=>kG G N (R 2) (R 4) H))] (b_ Tryz.f60) R H=lC G N lr (R 0) (R 2) (R 3) (R 4) (R 5) H:=by
 refine ds (aN _) λR H=> ?_
 delta lC;generalize kG G N=ba;revert ba;refine id ?_;intro ba;kernel_rfl
def mF(G:av)(N:Nat)(Y ap:I)(aC a_:I)(H:J):O:=
 xl G N N Y ap aC a_ (.int .i64 0) H
theorem aeJ(G:av)(N:Nat): ∀R H,cA P G N (Code.snd (Code.snd (Code.snd (Code.snd (Code.snd (di Tryz.f60)))))) (b_ Tryz.f60) [] (b_ Tryz.f60) R H=mF G N (R 0) (R 2) (R 3) (R 4) H:=by
 refine ds ((br ad (aeK G N) ((br ad ((fL ad ((gD (k:=λm R H=>xl G N m (R 0) (R 2) (R 3) (R 4) (R 5) H) ad (λR H=>ad) (λm=>aeG G N (xl G N m)))))) (aN _))))) λR H=> ?_
 delta mF;generalize xl G N N=ba;revert ba;refine id ?_;intro ba;kernel_rfl
def l8(G:av)(N:Nat)(Y ap:I)(aC a_ dh:I)(H:J):O:=
 bQ (some dh) (aL H (G 26 [Y] H) λef U=>
 ab (d8 P 57 ef 1) λe6=>
 ab (aF P 43 a_ 0) λeg=>
 a1 U (aQ P U 9 eg e6) λaa=>
 ab (b7 Y) λed=>
 ab (aF P 63 ed 1) λfj=>
 ab (am P aa 3 fj) λft=>
 ab (aZ P .add 3 true ft (.int .i64 1)) λe7=>
 ab (b7 Y) λfy=>
 ab (aF P 63 fy 1) λfW=>
 a1 aa (aQ P aa 3 fW e7) λae=>
 mF G N Y ap aC a_ ae) (aL H (G 59 [Y] H) λdn U=>
 ab (aF P 43 a_ 0) λdu=>
 a1 U (aQ P U 9 du dn) λaa=>
 mF G N Y ap aC a_ aa)
theorem aeL(G:av)(N:Nat): ∀R H,cA P G N (Code.snd (Code.fst (Code.fst (Code.snd (Code.snd (Code.snd (Code.snd (di Tryz.f60)))))))) (λR H=>mF G N (R 0) (R 2) (R 3) (R 4) H) [(2,(λR H=>mF G N (R 0) (R 2) (R 3) (R 4) H))] (b_ Tryz.f60) R H=l8 G N (R 0) (R 2) (R 3) (R 4) (R 27) H:=by
 refine ds (aN _) λR H=> ?_
 delta l8;generalize mF G N=ba;revert ba;refine id ?_;intro ba;kernel_rfl
def nt(G:av)(N:Nat)(Y ap aC:I)(H:J):O:=
 ab (cM P 43 [(1,aC)]) λcI=>
 cv H [(.str []),(.int .i64 0)] λa_ U=>
 a1 U (aQ P U 43 a_ cI) λaa=>
 aL aa (G 27 [Y,(.str [105,110,116])] aa) λdI ae=>
 bQ (some dI) (l8 G N Y ap aC a_ dI ae) (aL ae (G 27 [Y,(.str [98,111,111,108])] ae) λep al=>
 l8 G N Y ap aC a_ ep al)
theorem aeI(G:av)(N:Nat): ∀R H,cA P G N (Code.snd (Code.snd (Code.snd (di Tryz.f60)))) (b_ Tryz.f60) [] (b_ Tryz.f60) R H=nt G N (R 0) (R 2) (R 3) H:=by
 refine ds ((br ad ((br ad (aeJ G N) ((fL ad ((br ad (aeL G N) (aN _))))))) (aN _))) λR H=> ?_
 delta nt;generalize l8 G N=ba;revert ba;refine id ?_;intro ba;kernel_rfl
def l7(G:av)(N:Nat)(Jd:I->I->I->J->O)(Y ap aC:I)(H:J):O:=
 aL H (G 27 [Y,(.str [91])] H) λbu U=>
 bQ (some bu) (ab (aZ P .eql 3 true aC (.int .i64 3)) λbF=>
 bQ (some bF) (aL U (G 28 [Y,(.int .i64 4)] U) λb8 aa=>
 a1 aa (aQ P aa 43 ap (.agg [(.str []),(.int .i64 0)])) λae=>
 ab (am P ae 43 ap) λr=>
 some (r,ae)) (ab (b7 Y) λbT=>
 ab (aF P 63 bT 1) λbX=>
 ab (am P U 3 bX) λbI=>
 ab (aZ P .add 3 true bI (.int .i64 1)) λcc=>
 ab (b7 Y) λcG=>
 ab (aF P 63 cG 1) λc6=>
 a1 U (aQ P U 3 c6 cc) λaa=>
 ab (aZ P .add 3 true aC (.int .i64 1)) λcz=>
 Jd Y ap cz aa)) (nt G N Y ap aC U)
def xm(G:av)(N:Nat):Nat->I->I->I->J->O
 |0,_,_,_,_=>none
 |n+1,Y,ap,aC,H=>l7 G N (xm G N n) Y ap aC H
theorem aeH(G:av)(N:Nat)(Jd:I->I->I->J->O): ∀R H,cA P G N (Code.fst (Code.fst (Code.fst (Code.snd (Code.snd (di Tryz.f60)))))) (λR H=>Jd (R 0) (R 2) (R 3) H) [(0,(λR H=>nt G N (R 0) (R 2) (R 3) H))] (b_ Tryz.f60) R H=l7 G N Jd (R 0) (R 2) (R 3) H:=by
 refine ds (aN _) λR H=> ?_
 delta l7;generalize nt G N=ba;revert ba;refine id ?_;intro ba;kernel_rfl
def lY(G:av)(N:Nat)(Y:I)(H:J):O:=
 cv H [(.str []),(.int .i64 0)] λap U=>
 xm G N N Y ap (.int .i64 0) U
theorem akn(G:av)(N:Nat)(Y:I)(H:J):bp Tryz.f60 G N (cF [Y]) H=lY G N Y H:=by
 refine cP (A:=bp Tryz.f60 G N) ((br ad ((br ad ((br ad (aeI G N) ((fL ad ((gD (k:=λm R H=>xm G N m (R 0) (R 2) (R 3) H) ad (λR H=>ad) (λm=>aeH G N (xm G N m)))))))) (aN _))) (aN _))) ?_;delta lY;generalize xm G N N=ba;revert ba;refine id ?_;intro ba;kernel_rfl
theorem amo(N:Nat){Y:I}{H:J}{r:I×J}(h:lY (au P ao) N Y H=some r):au P ao 60 [Y] H=some r:=
 cV ad Tryz.func60 ad ad ad ((akn (au P ao) N Y H).trans h)
def tG(G:av)(N:Nat)(H:J):O:=
 some ((.int .i64 0),H)
theorem acN(G:av)(N:Nat): ∀R H,cA P G N (Code.snd (Code.snd (Code.snd (Code.snd (Code.snd (di Tryz.f128)))))) (b_ Tryz.f128) [] (b_ Tryz.f128) R H=tG G N H:=by
 refine ds (aN _) λR H=> ?_
 delta tG;kernel_rfl
def yX(G:av)(N:Nat)(bE:I->I->I->I->I->J->O)(Y aC:I)(bf bB bu:I)(H:J):O:=
 ab (en P 163 bf Y) λdu=>
 ab (am P H 48 du) λdh=>
 bj P .len [48] [dh] H λdT=>
 ab (aZ P .lss 3 false bu dT) λdI=>
 bQ (some dI) (ab (en P 163 bf Y) λe6=>
 ab (am P H 48 e6) λeg=>
 ab (en P 48 eg bu) λed=>
 ab (am P H 9 ed) λfj=>
 ab (aF P 57 aC 1) λft=>
 ab (am P H 9 ft) λe7=>
 ab (aZ P .eql 9 false fj e7) λfy=>
 bQ (some fy) (ab (en P 164 bB Y) λeU=>
 ab (am P H 35 eU) λgw=>
 ab (en P 35 gw bu) λgS=>
 ab (am P H 3 gS) λju=>
 some (ju,H)) (ab (aZ P .add 3 true bu (.int .i64 1)) λep=>
 bE Y aC bf bB ep H)) (tG G N H)
def tH(G:av)(N:Nat):Nat->I->I->I->I->I->J->O
 |0,_,_,_,_,_,_=>none
 |n+1,Y,aC,bf,bB,bu,H=>yX G N (tH G N n) Y aC bf bB bu H
theorem acM(G:av)(N:Nat)(bE:I->I->I->I->I->J->O): ∀R H,cA P G N (Code.fst (Code.fst (Code.snd (Code.fst (Code.snd (Code.snd (Code.snd (Code.snd (di Tryz.f128))))))))) (λR H=>bE (R 0) (R 3) (R 5) (R 6) (R 7) H) [(0,(λR H=>tG G N H))] (b_ Tryz.f128) R H=yX G N bE (R 0) (R 3) (R 5) (R 6) (R 7) H:=by
 refine ds (aN _) λR H=> ?_
 delta yX;generalize tG G N=ba;revert ba;refine id ?_;intro ba;kernel_rfl
def xV(G:av)(N:Nat)(Y ai:I)(H:J):O:=
 dA H (eW (H).next ai) λaC U=>
 ab (aF P 57 aC 0) λbS=>
 ab (am P U 3 bS) λbF=>
 ab (aZ P .neq 3 true bF (.int .i64 4)) λcr=>
 bQ (some cr) (some ((.int .i64 0),U)) (dA U (some (.aM (U).next 0 1 1 (some 1),.row false 1 [[(.str [124,124])]])) λb8 aa=>
 dA aa (some (.aM (aa).next 0 1 1 (some 1),.row false 1 [[(.str [38,38])]])) λcb ae=>
 dA ae (some (.aM (ae).next 0 4 1 (some 4),.row false 1 [[(.str [60])],[(.str [60,61])],[(.str [61,61])],[(.str [33,61])]])) λb0 al=>
 dA al (some (.aM (al).next 0 2 1 (some 2),.row false 1 [[(.str [43])],[(.str [45])]])) λbT aB=>
 dA aB (some (.aM (aB).next 0 3 1 (some 3),.row false 1 [[(.str [42])],[(.str [47])],[(.str [37])]])) λbX aG=>
 dA aG (dH P (aG).next 163 5 [(0,b8),(1,cb),(2,b0),(3,bT),(4,bX)]) λbI aP=>
 dA aP (some (.aM (aP).next 0 1 1 (some 1),.row false 1 [[(.int .i64 24)]])) λcc bn=>
 dA bn (some (.aM (bn).next 0 1 1 (some 1),.row false 1 [[(.int .i64 23)]])) λcG bH=>
 dA bH (some (.aM (bH).next 0 4 1 (some 4),.row false 1 [[(.int .i64 19)],[(.int .i64 20)],[(.int .i64 21)],[(.int .i64 22)]])) λc6 co=>
 dA co (some (.aM (co).next 0 2 1 (some 2),.row false 1 [[(.int .i64 14)],[(.int .i64 15)]])) λcN dp=>
 dA dp (some (.aM (dp).next 0 3 1 (some 3),.row false 1 [[(.int .i64 16)],[(.int .i64 17)],[(.int .i64 18)]])) λcz dR=>
 dA dR (dH P (dR).next 164 5 [(0,cc),(1,cG),(2,c6),(3,cN),(4,cz)]) λc7 eF=>
 tH G N N Y aC bI c7 (.int .i64 0) eF)
theorem ahs(G:av)(N:Nat)(Y:I)(ai:I)(H:J):bp Tryz.f128 G N (cF [Y,ai]) H=xV G N Y ai H:=by
 refine cP (A:=bp Tryz.f128 G N) ((br ad ((br ad ((br ad ((br ad ((br ad (acN G N) ((br ad ((fL ad ((gD (k:=λm R H=>tH G N m (R 0) (R 3) (R 5) (R 6) (R 7) H) ad (λR H=>ad) (λm=>acM G N (tH G N m)))))) (aN _))))) (aN _))) (aN _))) (aN _))) (aN _))) ?_;delta xV;generalize tH G N N=ba;revert ba;refine id ?_;intro ba;kernel_rfl
theorem ai4(N:Nat){Y ai:I}{H:J}{r:I×J}(h:xV (au P ao) N Y ai H=some r):au P ao 128 [Y,ai] H=some r:=
 cV ad Tryz.func128 ad ad ad ((ahs (au P ao) N Y ai H).trans h)
def yU(G:av)(N:Nat)(a_ bf:I)(H:J):O:=
 ab (am P H 103 bf) λgS=>
 a1 H (aQ P H 103 a_ gS) λU=>
 ab (am P U 103 a_) λr=>
 some (r,U)
theorem acF(G:av)(N:Nat): ∀R H,cA P G N (Code.snd (Code.snd (Code.snd (Code.snd (di Tryz.f109))))) (b_ Tryz.f109) [] (b_ Tryz.f109) R H=yU G N (R 4) (R 5) H:=by
 refine ds (aN _) λR H=> ?_
 delta yU;kernel_rfl
def pS(bE:I->I->I->I->J->O)(Y ai:I)(a_ bf:I)(gG:J):O:=
 bE Y ai a_ bf gG
def D0(G:av)(N:Nat)(bE:I->I->I->I->J->O)(Y ai:I)(a_ bf:I)(H:J):O:=
 aL H (G 25 [Y] H) λcc U=>
 aD cc true U (dw ai) λc6 aa=>
 aD cc true aa (dw Y) λcN ae=>
 aD cc true ae (λq=>fo ae (G 26 [cN] ae) q) λcz al=>
 aD cc true al (λq=>fo al (G 128 [c6,cz] al) q) λc7 aB=>
 aD cc true aB (bm (aZ P .neq 3 true c7 (.int .i64 0))) λcI aG=>
 ab (cW cc (some cI) (some (.bool false))) λdb=>
 bQ (some db) (aL aG (G 26 [Y] aG) λdu aP=>
 cv aP [(.int .i64 0),(.str []),(.int .i64 0),(.int .i64 0)] λbB bn=>
 a1 bn (aQ P bn 57 bB du) λbH=>
 ab (b7 Y) λdT=>
 ab (aF P 63 dT 1) λdI=>
 ab (am P bH 3 dI) λcH=>
 ab (aZ P .add 3 true cH (.int .i64 1)) λep=>
 ab (b7 Y) λdV=>
 ab (aF P 63 dV 1) λef=>
 a1 bH (aQ P bH 3 ef ep) λco=>
 ab (aZ P .add 3 true ai (.int .i64 1)) λej=>
 aL co (G 109 [Y,ej] co) λed dp=>
 cv dp [(.int .i64 0),(.int .i64 0),(.str []),(.str []),(.int .i64 0),I.an,(.int .i64 0),(.int .i64 0),(.int .i64 0),(.int .i64 0),(.int .i64 0)] λbu dR=>
 a1 dR (aQ P dR 103 bu ed) λeF=>
 ab (am P eF 57 bB) λft=>
 aL eF (G 128 [ai,ft] eF) λe7 fs=>
 ab (am P fs 103 bf) λfy=>
 ab (am P fs 103 bu) λfW=>
 dA fs (dH P (fs).next 96 2 [(0,fy),(1,fW)]) λgv fP=>
 ab (aF P 57 bB 3) λeU=>
 ab (am P fP 3 eU) λgw=>
 ab (cM P 103 [(0,e7),(4,gv),(5,gw)]) λgb=>
 a1 fP (aQ P fP 103 bf gb) λgG=>
 bif ((cd (am P eF 57 bB) ft&&true)&&((cd (am P eF 103 bf) fy&&(cd (am P fs 103 bf) fy&&true))&&((cd (am P eF 103 bu) fW&&(cd (am P fs 103 bu) fW&&true))&&((cd (am P eF 3 eU) gw&&(cd (am P fs 3 eU) gw&&(cd (am P fP 3 eU) gw&&true)))&&true)))) then(pS bE Y ai a_ bf gG) else none) (yU G N a_ bf aG)
def yV(G:av)(N:Nat):Nat->I->I->I->I->J->O
 |0,_,_,_,_,_=>none
 |n+1,Y,ai,a_,bf,H=>D0 G N (yV G N n) Y ai a_ bf H
theorem acE(G:av)(N:Nat)(bE:I->I->I->I->J->O): ∀R H,cA P G N (Code.fst (Code.fst (Code.fst (Code.snd (Code.snd (Code.snd (di Tryz.f109))))))) (λR H=>bE (R 0) (R 1) (R 4) (R 5) H) [(0,(λR H=>yU G N (R 4) (R 5) H))] (b_ Tryz.f109) R H=D0 G N bE (R 0) (R 1) (R 4) (R 5) H:=by
 refine ds (aN _) λR H=> ?_
 delta D0 pS;generalize yU G N=ba;revert ba;refine id ?_;intro ba;kernel_rfl
def oR(G:av)(N:Nat)(Y ai:I)(a_ bf:I)(al:J):O:=
 yV G N N Y ai a_ bf al
def oS(G:av)(N:Nat)(bX Y:I)(ai a_ bf:I)(ae:J):O:=
 a1 ae (aQ P ae 103 bf bX) (oR G N Y ai a_ bf)
def oT(G:av)(N:Nat)(Y ai:I)(a_ bX:I)(aa:J):O:=
 cv aa [(.int .i64 0),(.int .i64 0),(.str []),(.str []),(.int .i64 0),I.an,(.int .i64 0),(.int .i64 0),(.int .i64 0),(.int .i64 0),(.int .i64 0)] (oS G N bX Y ai a_)
def o8(G:av)(N:Nat)(Y ai:I)(H:J):O:=
 cv H [(.int .i64 0),(.int .i64 0),(.str []),(.str []),(.int .i64 0),I.an,(.int .i64 0),(.int .i64 0),(.int .i64 0),(.int .i64 0),(.int .i64 0)] λa_ U=>
 ab (aZ P .eql 3 true ai (.int .i64 5)) λbF=>
 bQ (some bF) (aL U (G 127 [Y] U) λb8 aa=>
 a1 aa (aQ P aa 103 a_ b8) λae=>
 ab (am P ae 103 a_) λr=>
 some (r,ae)) (ab (aZ P .add 3 true ai (.int .i64 1)) λbT=>
 aL U (G 109 [Y,bT] U) (oT G N Y ai a_))
theorem ahe(G:av)(N:Nat)(Y:I)(ai:I)(H:J):bp Tryz.f109 G N (cF [Y,ai]) H=o8 G N Y ai H:=by
 refine cP (A:=bp Tryz.f109 G N) ((br ad ((br ad ((br ad ((br ad (acF G N) ((fL ad ((gD (k:=λm R H=>yV G N m (R 0) (R 1) (R 4) (R 5) H) ad (λR H=>ad) (λm=>acE G N (yV G N m)))))))) (aN _))) (aN _))) (aN _))) ?_;delta o8 oT oS oR;generalize yV G N N=ba;revert ba;refine id ?_;intro ba;kernel_rfl
theorem aiQ(N:Nat){Y ai:I}{H:J}{r:I×J}(h:o8 (au P ao) N Y ai H=some r):au P ao 109 [Y,ai] H=some r:=
 cV ad Tryz.func109 ad ad ad ((ahe (au P ao) N Y ai H).trans h)
def u9(G:av)(Y ap:I)(aC a_:I)(H:J):O:=
 ab (aF P 57 aC 1) λc6=>
 ab (am P H 9 c6) λcN=>
 aL H (G 83 [Y,cN] H) λcz U=>
 aL U (G 109 [Y,(.int .i64 5)] U) λcI aa=>
 cv aa [(.int .i64 0),(.int .i64 0),(.str []),(.str []),(.int .i64 0),I.an,(.int .i64 0),(.int .i64 0),(.int .i64 0),(.int .i64 0),(.int .i64 0)] λbf ae=>
 a1 ae (aQ P ae 103 bf cI) λal=>
 ab (b7 Y) λdn=>
 ab (aF P 63 dn 2) λdu=>
 ab (am P al 3 du) λdh=>
 ab (aZ P .sub 3 true dh (.int .i64 1)) λdT=>
 ab (b7 Y) λdI=>
 ab (aF P 63 dI 2) λcH=>
 a1 al (aQ P al 3 cH dT) λaB=>
 ab (am P aB 103 bf) λdV=>
 dA aB (dH P (aB).next 96 1 [(0,dV)]) λef aG=>
 ab (aF P 57 aC 3) λe6=>
 ab (am P aG 3 e6) λeg=>
 ab (cM P 103 [(0,a_),(4,ef),(5,eg)]) λej=>
 a1 aG (aQ P aG 103 ap ej) λaP=>
 ab (am P aP 103 ap) λr=>
 some (r,aP)
theorem acL(G:av)(N:Nat): ∀R H,cA P G N (Code.snd (Code.snd (Code.snd (Code.snd (di Tryz.f127))))) (b_ Tryz.f127) [] (b_ Tryz.f127) R H=u9 G (R 0) (R 2) (R 3) (R 4) H:=by
 refine ds (aN _) λR H=> ?_
 delta u9;kernel_rfl
def qJ(G:av)(Y ap:I)(U:J):O:=
 aL U (G 26 [Y] U) λbu aa=>
 cv aa [(.int .i64 0),(.str []),(.int .i64 0),(.int .i64 0)] λaC ae=>
 a1 ae (aQ P ae 57 aC bu) λal=>
 aL al (G 27 [Y,(.str [45])] al) λbT aB=>
 bQ (some bT) (u9 G Y ap aC (.int .i64 12) aB) (aL aB (G 27 [Y,(.str [33])] aB) λcc aG=>
 bQ (some cc) (u9 G Y ap aC (.int .i64 13) aG) (aL aG (G 146 [Y] aG) λcr aP=>
 aL aP (G 145 [Y,cr] aP) λb8 bn=>
 a1 bn (aQ P bn 103 ap b8) λbH=>
 ab (am P bH 103 ap) λr=>
 some (r,bH)))
def p9(G:av)(Y:I)(H:J):O:=
 cv H [(.int .i64 0),(.int .i64 0),(.str []),(.str []),(.int .i64 0),I.an,(.int .i64 0),(.int .i64 0),(.int .i64 0),(.int .i64 0),(.int .i64 0)] (qJ G Y)
theorem ahr(G:av)(N:Nat)(Y:I)(H:J):bp Tryz.f127 G N (cF [Y]) H=p9 G Y H:=by
 refine cP (A:=bp Tryz.f127 G N) ((br ad ((br ad ((br ad ((br ad (acL G N) (aN _))) (aN _))) (aN _))) (aN _))) ?_;delta p9 qJ;generalize u9 G=ba;revert ba;refine id ?_;intro ba;kernel_rfl
theorem ai3(N:Nat){Y:I}{H:J}{r:I×J}(h:p9 (au P ao) Y H=some r):au P ao 127 [Y] H=some r:=
 cV ad Tryz.func127 ad ad ad ((ahr (au P ao) N Y H).trans h)
def y1(G:av)(N:Nat)(aC a_:I)(H:J):O:=
 ab (am P H 103 aC) λgv=>
 a1 H (aQ P H 103 a_ gv) λU=>
 ab (am P U 103 a_) λr=>
 some (r,U)
theorem acU(G:av)(N:Nat): ∀R H,cA P G N (Code.snd (Code.snd (di Tryz.f145))) (b_ Tryz.f145) [] (b_ Tryz.f145) R H=y1 G N (R 3) (R 4) H:=by
 refine ds (aN _) λR H=> ?_
 delta y1;kernel_rfl
def rF(bE:I->I->I->J->O)(Y aC a_:I)(dp:J):O:=
 bE Y aC a_ dp
def tI(bE:I->I->I->J->O)(Y aC a_:I)(fs:J):O:=
 bE Y aC a_ fs
def pK(G:av)(bE:I->I->I->J->O)(Y aC:I)(bf a_:I)(aG:J):O:=
 aL aG (G 27 [Y,(.str [46])] aG) λbI aP=>
 bQ (some bI) (ab (b7 Y) λcG=>
 ab (aF P 63 cG 1) λc6=>
 ab (am P aP 3 c6) λcN=>
 ab (aZ P .add 3 true cN (.int .i64 1)) λcz=>
 ab (b7 Y) λc7=>
 ab (aF P 63 c7 1) λcI=>
 a1 aP (aQ P aP 3 cI cz) λbn=>
 aL bn (G 59 [Y] bn) λdn bH=>
 ab (am P bH 103 aC) λdu=>
 dA bH (dH P (bH).next 96 1 [(0,du)]) λdh co=>
 ab (aF P 57 bf 3) λdT=>
 ab (am P co 3 dT) λdI=>
 ab (cM P 103 [(0,(.int .i64 5)),(2,dn),(4,dh),(5,dI)]) λcH=>
 a1 co (aQ P co 103 aC cH) λdp=>
 bif ((cd (am P bn 103 aC) du&&(cd (am P bH 103 aC) du&&true))&&((cd (am P bn 3 dT) dI&&(cd (am P bH 3 dT) dI&&(cd (am P co 3 dT) dI&&true)))&&true)) then(rF bE Y aC a_ dp) else none) (aL aP (G 83 [Y,(.str [91])] aP) λdV bn=>
 aL bn (G 109 [Y,(.int .i64 0)] bn) λe6 bH=>
 cv bH [(.int .i64 0),(.int .i64 0),(.str []),(.str []),(.int .i64 0),I.an,(.int .i64 0),(.int .i64 0),(.int .i64 0),(.int .i64 0),(.int .i64 0)] λbB co=>
 a1 co (aQ P co 103 bB e6) λdp=>
 aL dp (G 85 [Y,(.str [93])] dp) λej dR=>
 ab (am P dR 103 aC) λed=>
 ab (am P dR 103 bB) λfj=>
 dA dR (dH P (dR).next 96 2 [(0,ed),(1,fj)]) λft eF=>
 ab (aF P 57 bf 3) λe7=>
 ab (am P eF 3 e7) λfy=>
 ab (cM P 103 [(0,(.int .i64 6)),(4,ft),(5,fy)]) λfW=>
 a1 eF (aQ P eF 103 aC fW) (tI bE Y aC a_))
def pL(G:av)(bE:I->I->I->J->O)(bT Y:I)(aC a_ bf:I)(aB:J):O:=
 a1 aB (aQ P aB 57 bf bT) (pK G bE Y aC bf a_)
def pM(G:av)(bE:I->I->I->J->O)(Y aC:I)(a_ bT:I)(al:J):O:=
 cv al [(.int .i64 0),(.str []),(.int .i64 0),(.int .i64 0)] (pL G bE bT Y aC a_)
def sB(G:av)(bE:I->I->I->J->O)(ae:J)(Y aC a_:I):O:=
 aL ae (G 26 [Y] ae) (pM G bE Y aC a_)
def D1(G:av)(N:Nat)(bE:I->I->I->J->O)(Y aC a_:I)(H:J):O:=
 aL H (G 27 [Y,(.str [46])] H) λbS U=>
 aD bS false U (dw Y) λcr aa=>
 aD bS false aa (λq=>fo aa (G 27 [cr,(.str [91])] aa) q) λb8 ae=>
 ab (cW bS (some (.bool true)) (some b8)) λcb=>
 bQ (some cb) (sB G bE ae Y aC a_) (y1 G N aC a_ ae)
def w5(G:av)(N:Nat):Nat->I->I->I->J->O
 |0,_,_,_,_=>none
 |n+1,Y,aC,a_,H=>D1 G N (w5 G N n) Y aC a_ H
theorem acT(G:av)(N:Nat)(bE:I->I->I->J->O): ∀R H,cA P G N (Code.fst (Code.fst (Code.fst (Code.snd (di Tryz.f145))))) (λR H=>bE (R 0) (R 3) (R 4) H) [(0,(λR H=>y1 G N (R 3) (R 4) H))] (b_ Tryz.f145) R H=D1 G N bE (R 0) (R 3) (R 4) H:=by
 refine ds (aN _) λR H=> ?_
 delta D1 sB pM pL pK tI rF;generalize y1 G N=ba;revert ba;refine id ?_;intro ba;kernel_rfl
def pN(G:av)(N:Nat)(Y aC a_:I)(aa:J):O:=
 w5 G N N Y aC a_ aa
def pO(G:av)(N:Nat)(Y aC:I)(U:J):O:=
 cv U [(.int .i64 0),(.int .i64 0),(.str []),(.str []),(.int .i64 0),I.an,(.int .i64 0),(.int .i64 0),(.int .i64 0),(.int .i64 0),(.int .i64 0)] (pN G N Y aC)
def o9(G:av)(N:Nat)(Y ai:I)(H:J):O:=
 dA H (eW (H).next ai) (pO G N Y)
theorem ahD(G:av)(N:Nat)(Y:I)(ai:I)(H:J):bp Tryz.f145 G N (cF [Y,ai]) H=o9 G N Y ai H:=by
 refine cP (A:=bp Tryz.f145 G N) ((br ad ((br ad (acU G N) ((fL ad ((gD (k:=λm R H=>w5 G N m (R 0) (R 3) (R 4) H) ad (λR H=>ad) (λm=>acT G N (w5 G N m)))))))) (aN _))) ?_;delta o9 pO pN;generalize w5 G N N=ba;revert ba;refine id ?_;intro ba;kernel_rfl
theorem aje(N:Nat){Y ai:I}{H:J}{r:I×J}(h:o9 (au P ao) N Y ai H=some r):au P ao 145 [Y,ai] H=some r:=
 cV ad Tryz.func145 ad ad ad ((ahD (au P ao) N Y ai H).trans h)
def Ad(G:av)(Y:I)(H:J):O:=
 cv H [(.int .i64 0),(.int .i64 0),(.str []),(.str []),(.int .i64 0),I.an,(.int .i64 0),(.int .i64 0),(.int .i64 0),(.int .i64 0),(.int .i64 0)] λap U=>
 aL U (G 83 [Y,(.str [40])] U) λbf aa=>
 aL aa (G 109 [Y,(.int .i64 0)] aa) λbu ae=>
 cv ae [(.int .i64 0),(.int .i64 0),(.str []),(.str []),(.int .i64 0),I.an,(.int .i64 0),(.int .i64 0),(.int .i64 0),(.int .i64 0),(.int .i64 0)] λaC al=>
 a1 al (aQ P al 103 aC bu) λaB=>
 aL aB (G 85 [Y,(.str [41])] aB) λbF aG=>
 ab (am P aG 103 aC) λcr=>
 a1 aG (aQ P aG 103 ap cr) λaP=>
 ab (am P aP 103 ap) λr=>
 some (r,aP)
theorem ahJ(G:av)(N:Nat)(Y:I)(H:J):bp Tryz.f157 G N (cF [Y]) H=Ad G Y H:=by
 refine cP (A:=bp Tryz.f157 G N) (aN _) ?_;delta Ad;kernel_rfl
theorem ajk(N:Nat){Y:I}{H:J}{r:I×J}(h:Ad (au P ao) Y H=some r):au P ao 157 [Y] H=some r:=
 cV ad Tryz.func157 ad ad ad ((ahJ (au P ao) N Y H).trans h)
def tJ(G:av)(Y ap aC:I)(H:J):O:=
 aL H (G 59 [Y] H) λH_ U=>
 aL U (G 27 [Y,(.str [40])] U) λAh aa=>
 ab (fh .not Ah) λvX=>
 bQ (some vX) (ab (aF P 57 aC 3) λE3=>
 ab (am P aa 3 E3) λMO=>
 ab (cM P 103 [(0,(.int .i64 4)),(2,H_),(5,MO)]) λMP=>
 a1 aa (aQ P aa 103 ap MP) λae=>
 ab (am P ae 103 ap) λr=>
 some (r,ae)) (aL aa (G 158 [Y] aa) λaom ae=>
 ab (aF P 57 aC 3) λE4=>
 ab (am P ae 3 E4) λE5=>
 ab (cM P 103 [(0,(.int .i64 7)),(2,H_),(4,aom),(5,E5)]) λMQ=>
 a1 ae (aQ P ae 103 ap MQ) λal=>
 bif ((cd (am P aa 3 E4) E5&&(cd (am P ae 3 E4) E5&&true))&&true) then(ab (am P al 103 ap) λr=>
 some (r,al)) else none)
theorem acV(G:av)(N:Nat): ∀R H,cA P G N (Code.snd (Code.snd (Code.snd (di Tryz.f146)))) (b_ Tryz.f146) [] (b_ Tryz.f146) R H=tJ G (R 0) (R 2) (R 3) H:=by
 refine ds (aN _) λR H=> ?_
 delta tJ;kernel_rfl
def k7(Y:I)(bn:J)(aC ap:I):O:=
 ab (b7 Y) λcc=>
 ab (aF P 63 cc 1) λcG=>
 ab (am P bn 3 cG) λc6=>
 ab (aZ P .add 3 true c6 (.int .i64 1)) λcN=>
 ab (b7 Y) λcz=>
 ab (aF P 63 cz 1) λc7=>
 a1 bn (aQ P bn 3 c7 cN) λbH=>
 ab (aF P 57 aC 2) λcI=>
 ab (am P bH 3 cI) λdb=>
 ab (aF P 57 aC 3) λdn=>
 ab (am P bH 3 dn) λdu=>
 ab (cM P 103 [(0,(.int .i64 1)),(1,db),(5,du)]) λdh=>
 a1 bH (aQ P bH 103 ap dh) λco=>
 ab (am P co 103 ap) λr=>
 some (r,co)
def y2(G:av)(ap aC a_:I)(H:J):O:=
 ab (aF P 57 aC 3) λeU=>
 ab (am P H 3 eU) λgw=>
 ab (cM P 103 [(0,(.int .i64 2)),(1,a_),(5,gw)]) λgb=>
 a1 H (aQ P H 103 ap gb) λU=>
 ab (am P U 103 ap) λr=>
 some (r,U)
theorem acX(G:av)(N:Nat): ∀R H,cA P G N (Code.snd (Code.snd (Code.snd (Code.fst (Code.snd (Code.snd (Code.snd (Code.fst (Code.fst (Code.snd (Code.snd (di Tryz.f146)))))))))))) (λR H=>tJ G (R 0) (R 2) (R 3) H) [(0,(λR H=>tJ G (R 0) (R 2) (R 3) H))] (b_ Tryz.f146) R H=y2 G (R 2) (R 3) (R 4) H:=by
 refine ds (aN _) λR H=> ?_
 delta y2;kernel_rfl
def k8(G:av)(Y:I)(H:J)(aC ap:I):O:=
 ab (b7 Y) λe6=>
 ab (aF P 63 e6 1) λeg=>
 ab (am P H 3 eg) λej=>
 ab (aZ P .add 3 true ej (.int .i64 1)) λed=>
 ab (b7 Y) λfj=>
 ab (aF P 63 fj 1) λft=>
 a1 H (aQ P H 3 ft ed) λU=>
 ab (aF P 57 aC 1) λe7=>
 ab (am P U 9 e7) λfy=>
 ab (aZ P .eql 9 true fy (.str [116,114,117,101])) λfW=>
 bQ (some fW) (y2 G ap aC (.int .i64 1) U) (y2 G ap aC (.int .i64 0) U)
def k9(G:av)(Y:I)(U:J)(aC ap:I):O:=
 ab (b7 Y) λhV=>
 ab (aF P 63 hV 1) λgx=>
 ab (am P U 3 gx) λkm=>
 ab (aZ P .add 3 true km (.int .i64 1)) λjQ=>
 ab (b7 Y) λiR=>
 ab (aF P 63 iR 1) λnL=>
 a1 U (aQ P U 3 nL jQ) λaa=>
 aL aa (G 60 [Y] aa) λkR ae=>
 ab (aF P 57 aC 3) λnM=>
 ab (am P ae 3 nM) λjF=>
 ab (cM P 103 [(0,(.int .i64 3)),(3,kR),(5,jF)]) λrc=>
 a1 ae (aQ P ae 103 ap rc) λal=>
 bif ((cd (am P aa 3 nM) jF&&(cd (am P ae 3 nM) jF&&true))&&true) then(ab (am P al 103 ap) λr=>
 some (r,al)) else none
def k_(G:av)(Y:I)(aa:J)(aC ap:I):O:=
 ab (b7 Y) λoN=>
 ab (aF P 63 oN 1) λpq=>
 ab (am P aa 3 pq) λhn=>
 ab (aZ P .add 3 true hn (.int .i64 1)) λkn=>
 ab (b7 Y) λAN=>
 ab (aF P 63 AN 1) λnO=>
 a1 aa (aQ P aa 3 nO kn) λae=>
 ab (aF P 57 aC 3) λmY=>
 ab (am P ae 3 mY) λnP=>
 aL ae (G 156 [Y,nP] ae) λwy al=>
 a1 al (aQ P al 103 ap wy) λaB=>
 ab (am P aB 103 ap) λr=>
 some (r,aB)
def la(G:av)(Y:I)(ae:J)(aC ap:I):O:=
 ab (b7 Y) λqs=>
 ab (aF P 63 qs 1) λre=>
 ab (am P ae 3 re) λrf=>
 ab (aZ P .add 3 true rf (.int .i64 1)) λAP=>
 ab (b7 Y) λrh=>
 ab (aF P 63 rh 1) λqt=>
 a1 ae (aQ P ae 3 qt AP) λal=>
 aL al (G 157 [Y] al) λN6 aB=>
 dA aB (dH P (aB).next 96 1 [(0,N6)]) λwz aG=>
 ab (aF P 57 aC 3) λuR=>
 ab (am P aG 3 uR) λoO=>
 ab (cM P 103 [(0,(.int .i64 10)),(4,wz),(5,oO)]) λN7=>
 a1 aG (aQ P aG 103 ap N7) λaP=>
 bif ((cd (am P al 3 uR) oO&&(cd (am P aB 3 uR) oO&&(cd (am P aG 3 uR) oO&&true)))&&true) then(ab (am P aP 103 ap) λr=>
 some (r,aP)) else none
def kU(G:av)(Y:I)(al:J)(aC ap:I):O:=
 ab (b7 Y) λAR=>
 ab (aF P 63 AR 1) λN8=>
 ab (am P al 3 N8) λqu=>
 ab (aZ P .add 3 true qu (.int .i64 1)) λFU=>
 ab (b7 Y) λvV=>
 ab (aF P 63 vV 1) λAf=>
 a1 al (aQ P al 3 Af FU) λaB=>
 aL aB (G 83 [Y,(.str [40])] aB) λCK aG=>
 aL aG (G 85 [Y,(.str [41])] aG) λr4 aP=>
 ab (aF P 57 aC 3) λMN=>
 ab (am P aP 3 MN) λAg=>
 ab (cM P 103 [(0,(.int .i64 11)),(5,Ag)]) λEX=>
 a1 aP (aQ P aP 103 ap EX) λbn=>
 ab (am P bn 103 ap) λr=>
 some (r,bn)
def kt(G:av)(aB:J)(Y ap:I):O:=
 aL aB (G 157 [Y] aB) λH9 aG=>
 a1 aG (aQ P aG 103 ap H9) λaP=>
 ab (am P aP 103 ap) λr=>
 some (r,aP)
def kV(G:av)(Y ap aC:I)(aB:J):O:=
 tJ G Y ap aC aB
def ku(G:av)(Y ap:I)(aC E0:I)(aB:J):O:=
 bQ (some E0) (kt G aB Y ap) (kV G Y ap aC aB)
def kW(G:av)(al:J)(Y ap aC:I):O:=
 aL al (G 27 [Y,(.str [40])] al) (ku G Y ap aC)
def kx(G:av)(Y aC:I)(ap FT:I)(al:J):O:=
 bQ (some FT) (kU G Y al aC ap) (kW G al Y ap aC)
def kX(G:av)(ae:J)(Y aC ap:I):O:=
 aL ae (G 27 [Y,(.str [114,101,97,100])] ae) (kx G Y aC ap)
def ky(G:av)(Y aC:I)(ap AO:I)(ae:J):O:=
 bQ (some AO) (la G Y ae aC ap) (kX G ae Y aC ap)
def kY(G:av)(aa:J)(Y aC ap:I):O:=
 aL aa (G 27 [Y,(.str [108,101,110])] aa) (ky G Y aC ap)
def kz(G:av)(Y aC:I)(ap nN:I)(aa:J):O:=
 bQ (some nN) (k_ G Y aa aC ap) (kY G aa Y aC ap)
def kZ(G:av)(U:J)(Y aC ap:I):O:=
 aL U (G 27 [Y,(.str [110,101,119])] U) (kz G Y aC ap)
def kA(G:av)(Y aC:I)(ap hv:I)(U:J):O:=
 bQ (some hv) (k9 G Y U aC ap) (kZ G U Y aC ap)
def kB(G:av)(H:J)(Y aC ap:I):O:=
 aL H (G 27 [Y,(.str [110,117,108,108])] H) (kA G Y aC ap)
def w6(G:av)(Y ap:I)(aC dT:I)(H:J):O:=
 bQ (some dT) (k8 G Y H aC ap) (kB G H Y aC ap)
theorem acW(G:av)(N:Nat): ∀R H,cA P G N (Code.snd (Code.snd (Code.snd (Code.fst (Code.fst (Code.snd (Code.snd (di Tryz.f146)))))))) (λR H=>tJ G (R 0) (R 2) (R 3) H) [(0,(λR H=>tJ G (R 0) (R 2) (R 3) H))] (b_ Tryz.f146) R H=w6 G (R 0) (R 2) (R 3) (R 28) H:=by
 refine ds ((qF ad ((br ad ((br ad ((br ad (acX G N) (aN _))) (aN _))) (aN _))) (aN _))) λR H=> ?_
 delta w6 kB kA kZ kz kY ky kX kx kW ku kV kt kU la k_ k9 k8;generalize tJ G=ba;generalize y2 G=lZ;revert ba lZ;refine id ?_;intro ba lZ;kernel_rfl
def k0(G:av)(Y ap:I)(aC cH:I)(bH:J):O:=
 w6 G Y ap aC cH bH
def kC(G:av)(Y ap:I)(aC dV:I)(co:J):O:=
 w6 G Y ap aC dV co
def k1(G:av)(bH:J)(Y ap aC:I):O:=
 aL bH (G 27 [Y,(.str [102,97,108,115,101])] bH) (kC G Y ap aC)
def kD(G:av)(Y ap:I)(aC cH:I)(bH:J):O:=
 bQ (some cH) (k0 G Y ap aC cH bH) (k1 G bH Y ap aC)
def kE(G:av)(bn:J)(Y ap aC:I):O:=
 aL bn (G 27 [Y,(.str [116,114,117,101])] bn) (kD G Y ap aC)
def ka(G:av)(Y:I)(bn:J)(aC ap bX:I):O:=
 bQ (some bX) (k7 Y bn aC ap) (kE G bn Y ap aC)
def kb(G:av)(cr Y:I)(aC ap bT:I)(bn:J):O:=
 ab (cW cr (some bT) (some (.bool false))) (ka G Y bn aC ap)
def kd(G:av)(cr Y:I)(aC ap b0:I)(aP:J):O:=
 aD cr true aP (bm (aZ P .eql 3 true b0 (.int .i64 2))) (kb G cr Y aC ap)
def ke(G:av)(cr Y:I)(aC ap cb:I)(aG:J):O:=
 aD cr true aG (qr (am P aG 3 cb)) (kd G cr Y aC ap)
def kf(G:av)(aC Y:I)(ap cr:I)(aB:J):O:=
 aD cr true aB (bm (aF P 57 aC 0)) (ke G cr Y aC ap)
def k2(G:av)(Y aC ap:I)(al:J):O:=
 aL al (G 25 [Y] al) (kf G aC Y ap)
def k3(G:av)(bu Y:I)(ap aC:I)(ae:J):O:=
 a1 ae (aQ P ae 57 aC bu) (k2 G Y aC ap)
def k4(G:av)(Y ap bu:I)(aa:J):O:=
 cv aa [(.int .i64 0),(.str []),(.int .i64 0),(.int .i64 0)] (k3 G bu Y ap)
def k5(G:av)(Y ap:I)(U:J):O:=
 aL U (G 26 [Y] U) (k4 G Y ap)
def kJ(G:av)(Y:I)(H:J):O:=
 cv H [(.int .i64 0),(.int .i64 0),(.str []),(.str []),(.int .i64 0),I.an,(.int .i64 0),(.int .i64 0),(.int .i64 0),(.int .i64 0),(.int .i64 0)] (k5 G Y)
theorem ahE(G:av)(N:Nat)(Y:I)(H:J):bp Tryz.f146 G N (cF [Y]) H=kJ G Y H:=by
 refine cP (A:=bp Tryz.f146 G N) ((br ad ((br ad ((br ad (acV G N) ((fL ad ((br ad ((qF ad (aN _) ((br ad (acW G N) (aN _))))) (aN _))))))) (aN _))) (aN _))) ?_;delta kJ k5 k4 k3 k2 kf ke kd kb ka kE kD k1 kC k0 k7;generalize w6 G=ba;revert ba;refine id ?_;intro ba;kernel_rfl
theorem ajf(N:Nat){Y:I}{H:J}{r:I×J}(h:kJ (au P ao) Y H=some r):au P ao 146 [Y] H=some r:=
 cV ad Tryz.func146 ad ad ad ((ahE (au P ao) N Y H).trans h)
def ux(G:av)(Y ai:I)(H:J):O:=
 cv H [(.int .i64 0),(.int .i64 0),(.str []),(.str []),(.int .i64 0),I.an,(.int .i64 0),(.int .i64 0),(.int .i64 0),(.int .i64 0),(.int .i64 0)] λa_ U=>
 aL U (G 27 [Y,(.str [91])] U) λbu aa=>
 ab (fh .not bu) λbS=>
 bQ (some bS) (aL aa (G 59 [Y] aa) λcr ae=>
 ab (cM P 43 [(0,cr)]) λb8=>
 ab (cM P 103 [(0,(.int .i64 8)),(3,b8),(5,ai)]) λb0=>
 a1 ae (aQ P ae 103 a_ b0) λal=>
 ab (am P al 103 a_) λr=>
 some (r,al)) (ab (b7 Y) λbX=>
 ab (aF P 63 bX 1) λbI=>
 ab (am P aa 3 bI) λcc=>
 ab (aZ P .add 3 true cc (.int .i64 1)) λcG=>
 ab (b7 Y) λc6=>
 ab (aF P 63 c6 1) λcN=>
 a1 aa (aQ P aa 3 cN cG) λae=>
 aL ae (G 60 [Y] ae) λc7 al=>
 cv al [(.str []),(.int .i64 0)] λbf aB=>
 a1 aB (aQ P aB 43 bf c7) λaG=>
 aL aG (G 31 [Y,(.str [93])] aG) λdb aP=>
 aL aP (G 157 [Y] aP) λdh bn=>
 ab (am P bn 43 bf) λdn=>
 dA bn (dH P (bn).next 96 1 [(0,dh)]) λdT bH=>
 ab (cM P 103 [(0,(.int .i64 9)),(3,dn),(4,dT),(5,ai)]) λcH=>
 a1 bH (aQ P bH 103 a_ cH) λco=>
 bif ((cd (am P aP 43 bf) dn&&(cd (am P bn 43 bf) dn&&(cd (am P bH 43 bf) dn&&true)))&&true) then(ab (am P co 103 a_) λr=>
 some (r,co)) else none)
theorem ahI(G:av)(N:Nat)(Y:I)(ai:I)(H:J):bp Tryz.f156 G N (cF [Y,ai]) H=ux G Y ai H:=by
 refine cP (A:=bp Tryz.f156 G N) (aN _) ?_;delta ux;kernel_rfl
theorem ajj(N:Nat){Y ai:I}{H:J}{r:I×J}(h:ux (au P ao) Y ai H=some r):au P ao 156 [Y,ai] H=some r:=
 cV ad Tryz.func156 ad ad ad ((ahI (au P ao) N Y ai H).trans h)
def oj(G:av)(N:Nat)(Y aC:I)(H:J):O:=
 aL H (G 85 [Y,(.str [41])] H) λcH U=>
 some (aC,U)
theorem ac0(G:av)(N:Nat): ∀R H,cA P G N (Code.snd (Code.snd (Code.snd (Code.snd (Code.snd (Code.snd (di Tryz.f158))))))) (b_ Tryz.f158) [] (b_ Tryz.f158) R H=oj G N (R 0) (R 3) H:=by
 refine ds (aN _) λR H=> ?_
 delta oj;kernel_rfl
def y3(G:av)(N:Nat)(bE:I->I->J->O)(Y aC:I)(H:J):O:=
 aL H (G 27 [Y,(.str [44])] H) λbI U=>
 bQ (some bI) (ab (b7 Y) λcG=>
 ab (aF P 63 cG 1) λc6=>
 ab (am P U 3 c6) λcN=>
 ab (aZ P .add 3 true cN (.int .i64 1)) λcz=>
 ab (b7 Y) λc7=>
 ab (aF P 63 c7 1) λcI=>
 a1 U (aQ P U 3 cI cz) λaa=>
 aL aa (G 109 [Y,(.int .i64 0)] aa) λdu ae=>
 dA ae (dH P (ae).next 96 1 [(0,du)]) λdh al=>
 aL al (fM P al [96,96] aC dh) λdT aB=>
 bE Y dT aB) (oj G N Y aC U)
def y4(G:av)(N:Nat):Nat->I->I->J->O
 |0,_,_,_=>none
 |n+1,Y,aC,H=>y3 G N (y4 G N n) Y aC H
theorem acZ(G:av)(N:Nat)(bE:I->I->J->O): ∀R H,cA P G N (Code.fst (Code.fst (Code.fst (Code.snd (Code.snd (Code.snd (Code.snd (Code.snd (di Tryz.f158))))))))) (λR H=>bE (R 0) (R 3) H) [(0,(λR H=>oj G N (R 0) (R 3) H))] (b_ Tryz.f158) R H=y3 G N bE (R 0) (R 3) H:=by
 refine ds (aN _) λR H=> ?_
 delta y3;generalize oj G N=ba;revert ba;refine id ?_;intro ba;kernel_rfl
def o_(G:av)(N:Nat)(Y:I)(H:J):O:=
 aL H (G 83 [Y,(.str [40])] H) λbf U=>
 aL U (G 27 [Y,(.str [41])] U) λbu aa=>
 bQ (some bu) (aL aa (G 85 [Y,(.str [41])] aa) λbF ae=>
 some (I.an,ae)) (aL aa (G 109 [Y,(.int .i64 0)] aa) λcb ae=>
 dA ae (dH P (ae).next 96 1 [(0,cb)]) λb0 al=>
 aL al (fM P al [96,96] I.an b0) λbT aB=>
 y4 G N N Y bT aB)
theorem ahK(G:av)(N:Nat)(Y:I)(H:J):bp Tryz.f158 G N (cF [Y]) H=o_ G N Y H:=by
 refine cP (A:=bp Tryz.f158 G N) ((br ad ((br ad ((br ad ((br ad ((br ad ((br ad (ac0 G N) ((fL ad ((gD (k:=λm R H=>y4 G N m (R 0) (R 3) H) ad (λR H=>ad) (λm=>acZ G N (y4 G N m)))))))) (aN _))) (aN _))) (aN _))) (aN _))) (aN _))) ?_;delta o_;generalize y4 G N N=ba;revert ba;refine id ?_;intro ba;kernel_rfl
theorem ajl(N:Nat){Y:I}{H:J}{r:I×J}(h:o_ (au P ao) N Y H=some r):au P ao 158 [Y] H=some r:=
 cV ad Tryz.func158 ad ad ad ((ahK (au P ao) N Y H).trans h)
end
end
section
def c1(H:J)(r:Nat)(aj:I)(s:aw):Prop:=H.get r=some (.row false 5 [[aj,.int .i64 s.at_,.int .i64 s.bN,.int .i64 s.aA,.int .i64 s.cw]])
structure c8(H:J)(r:Nat)(T:List Tok)(aj:I)(s:aw):Prop where
 rd:c1 H r aj s
 b9:h9 H aj T
theorem c1.aK{H H':J}{r:Nat}{aj:I}{s:aw}(a7:c1 H r aj s)(p:aR H H'):c1 H' r aj s:=p.get a7
theorem c1.lt{H:J}{r:Nat}{aj:I}{s:aw}(a7:c1 H r aj s):r<H.next:=J.aW a7
theorem c8.mut{H H':J}{r:Nat}{T:List Tok}{aj:I}{s s':aw}(h:c8 H r T aj s)(m:cB r H H')(bb:c1 H' r aj s'):c8 H' r T aj s':=
 ⟨bb,h.b9.bo λl ro els e=>m.get e (by
  rintro rfl;rw[h.rd] at e;simp only[bD,dZ.row.injEq] at e;omega)⟩
theorem c8.aK{H H':J}{r:Nat}{T:List Tok}{aj:I}{s:aw}(h:c8 H r T aj s)(p:aR H H'):c8 H' r T aj s:=h.mut (p.mut _) (h.rd.aK p)
theorem hT{H:J}{r:Nat}{aj:I}{s:aw}(a7:c1 H r aj s)(s':aw):cB r H (H.set r (.row false 5 [[aj,.int .i64 s'.at_,.int .i64 s'.bN,.int .i64 s'.aA,.int .i64 s'.cw]]))/\c1 (H.set r (.row false 5 [[aj,.int .i64 s'.at_,.int .i64 s'.bN,.int .i64 s'.aA,.int .i64 s'.cw]])) r aj s':=
 ⟨dE.de (S:=(· =r)) (dE.refl _ _) (.inl rfl) _,J.get_set_same a7.lt⟩
theorem nZ{H:J}{r:Nat}{aj:I}{s:aw}{T:List Tok}(a7:c1 H r aj s)(bC:h9 H aj T):W (au P ao 26 [.ptr r 0 0] H) λv H'=>v=(aq T s.at_).v/\aR H H':=by
 unfold c1 at a7;have ax:=J.aW a7;refine cU (λ_=>alW 0) ?_;by_cases a6:s.at_<0
 ·simp-implicitDefEqProofs(disch:=try exact ag) only[AF,bj,bO,Nat.reduceAdd,Nat.reduceLeDiff,reduceIte,I.cells,eu,fl,am,dy,aQ,dy,ei,dD,BU,BV,a7,a6,decide_true,a8];exact⟨by simp[aq,a6,Tok.v,Tok.none],aR.push _ _⟩
 ·rcases bC with⟨rfl,rfl⟩|⟨l,i,cap,rfl,hB⟩
  ·have U:(0:Int)<=s.at_:=Z;simp-implicitDefEqProofs(disch:=try exact ag) only[AF,bj,bO,Nat.reduceAdd,Nat.reduceLeDiff,reduceIte,I.cells,eu,fl,am,dy,aQ,dy,ei,dD,BU,BV,a7,a6,U,decide_true,decide_false,a8,En];exact⟨by simp[aq,a6,Tok.v,Tok.none,U],aR.push _ _⟩
  ·by_cases U:(T.length:Int)<=s.at_
   ·simp-implicitDefEqProofs(disch:=try exact ag) only[AF,bj,bO,Nat.reduceAdd,Nat.reduceLeDiff,reduceIte,I.cells,eu,fl,am,dy,aQ,dy,ei,dD,BU,BV,a7,a6,U,decide_true,decide_false,a8,xP];exact⟨by simp[aq,a6,Tok.v,Tok.none,U],aR.push _ _⟩
   ·have eo:s.at_.toNat<T.length:=Z;obtain⟨ro,els,aa,ae⟩:=hB.resolve_left (by rintro rfl;simp at eo);have lV:=J.aW aa;have al:=ae s.at_.toNat T[s.at_.toNat] (by simp[eo]);simp only[Tok.cells] at al;simp-implicitDefEqProofs(disch:=try exact ag) only[AF,bj,bO,Nat.reduceAdd,Nat.reduceLeDiff,reduceIte,I.cells,eu,fl,am,dy,aQ,dy,ei,dD,BU,BV,a7,a6,U,decide_true,decide_false,a8,xP,EF,aa,al];refine⟨?_,aR.push _ _⟩;simp[aq,a6,U,Tok.v,eo]
theorem tB{H:J}{r:Nat}{aj:I}{s:aw}(a7:c1 H r aj s):W (au P ao 25 [.ptr r 0 0] H) λv H'=>v= .bool (s.aA==0)/\H'=H:=by
 unfold c1 at a7;refine cU (λ_=>alV 0) ?_;simp-implicitDefEqProofs(disch:=try exact ag) only[IN,reduceAdd,reduceLeDiff,reduceIte,az,a7];exact a8.2 ⟨rfl,rfl⟩
theorem sv{H:J}{r:Nat}{T:List Tok}{aj:I}{s:aw}(af:c8 H r T aj s)(e:Int):W (au P ao 28 [.ptr r 0 0,.int .i64 e] H) λv H'=>v= .tuple []/\cB r H H'/\c8 H' r T aj (cL T e s):=by
 refine cU (λ_=>alY 0) ?_;have a7:=af.rd;have df:=af.b9.one;rw[AG];refine aY (tB a7) ?_;rintro _ H1 ⟨rfl,rfl⟩;refine⟨bL _,?_⟩;by_cases U:s.aA=0
 ·rw[show cL T e s={s with aA:=e,cw:=(aq T s.at_).pos} by simp[cL,U]];simp-implicitDefEqProofs(disch:=try exact ag) only[AG,bj,bO,U,beq_self_eq_true];refine aY (nZ a7 af.b9) ?_;rintro _ bl ⟨rfl,aJ⟩;refine⟨aJ.1,?_⟩;have cJ:c1 bl r aj s:=a7.aK aJ;have fH:=cJ;unfold c1 at fH;simp-implicitDefEqProofs(disch:=try exact ag) only[AG,reduceAdd,reduceLeDiff,reduceIte,az,Tok.v,fH,df];obtain⟨m,bb⟩:=hT cJ {s with aA:=e,cw:=(aq T s.at_).pos};exact a8.2 ⟨rfl,(aJ.mut _).trans m,af.mut ((aJ.mut _).trans m) bb⟩
 ·have fr:(s.aA==0)=false:=by simpa using U
  rw[show cL T e s=s by simp[cL,U]];simp-implicitDefEqProofs(disch:=try exact ag) only[AG,bj,bO,fr];exact a8.2 ⟨rfl,dE.refl _ _,af⟩
theorem NM(s:bk)(c:UInt8):hP P 9 (.str (c::s)) (.int .i64 0)=some (.int .u8 c.toNat):=ad
theorem Lb{H0 H:J}{r:Nat}{T:List Tok}{aj:I}{s:aw}(p:aR H0 H)(cp:c1 H r aj s){b:Nat}(ay:H.get b=some (.row false 4 [[.int .i64 (aq T s.at_).kind,.str (aq T s.at_).text,.int .i64 (aq T s.at_).n,.int .i64 (aq T s.at_).pos]]))(x:bk)(k:Int):
  W (zk (au P ao) (.ptr r 0 0) (.str x) (.ptr b 0 0) (.int .i64 k) H) λv H'=>v= .bool (b4 T s k x)/\aR H0 H':=by
 rw[zk];refine aY (tB cp) ?_;rintro _ H1 ⟨rfl,rfl⟩;refine⟨bL _,?_⟩;by_cases U:s.aA=0
 ·by_cases aa:(aq T s.at_).kind=k
  ·simp-implicitDefEqProofs(disch:=try exact ag) only[uL,reduceAdd,reduceLeDiff,reduceIte,az,U,aa,ay,beq_self_eq_true];exact a8.2 ⟨by simp[b4,U,aa],p⟩
  ·have hb:((aq T s.at_).kind==k)=false:=by simpa using aa
   simp-implicitDefEqProofs(disch:=try exact ag) only[uL,reduceAdd,reduceLeDiff,reduceIte,az,U,hb,ay,beq_self_eq_true];exact a8.2 ⟨by simp[b4,U,aa],p⟩
 ·have fr:(s.aA==0)=false:=by simpa using U
  simp-implicitDefEqProofs(disch:=try exact ag) only[uL,reduceAdd,reduceLeDiff,reduceIte,az,fr,ay];exact a8.2 ⟨by simp[b4,U],p⟩
theorem gI{H:J}{r:Nat}{T:List Tok}{aj:I}{s:aw}(a7:c1 H r aj s)(bC:h9 H aj T)(x:bk)(af:x≠[]):W (au P ao 27 [.ptr r 0 0,.str x] H) λv H'=>v= .bool (b2 T s x)/\aR H H':=by
 refine cU (λ_=>alX 0) ?_;obtain⟨c,x,rfl⟩: ∃c y,x=c::y:=by cases x with
  |nil=>exact absurd rfl af
  |cons c y=>exact⟨c,y,rfl⟩
 rw[uL];refine aY (nZ a7 bC) ?_;rintro _ H1 ⟨rfl,aU⟩;refine⟨aU.1,?_⟩;have aJ:=aU.bV (.row false 4 [[.int .i64 (aq T s.at_).kind,.str (aq T s.at_).text,.int .i64 (aq T s.at_).n,.int .i64 (aq T s.at_).pos]]);have ay:=J.ca H1 (.row false 4 [[.int .i64 (aq T s.at_).kind,.str (aq T s.at_).text,.int .i64 (aq T s.at_).n,.int .i64 (aq T s.at_).pos]]);by_cases U:97<=c.toNat
 ·have fr:(97:Int)<=(c.toNat:Int):=Z;by_cases aa:c.toNat<=122
  ·have hb:(c.toNat:Int)<=122:=Z;rw[show b2 T s (c::x)=b4 T s 3 (c::x) by simp[b2,kw,U,aa]];simp-implicitDefEqProofs(disch:=try exact ag) only[uL,reduceAdd,reduceLeDiff,reduceIte,az,Tok.v,NM,fr,hb,decide_true];exact Lb aJ (a7.aK aJ) ay _ 3
  ·have hb: ¬(c.toNat:Int)<=122:=Z;rw[show b2 T s (c::x)=b4 T s 4 (c::x) by simp[b2,kw,U,aa]];simp-implicitDefEqProofs(disch:=try exact ag) only[uL,reduceAdd,reduceLeDiff,reduceIte,az,Tok.v,NM,fr,hb,decide_true,decide_false];exact Lb aJ (a7.aK aJ) ay _ 4
 ·have fr: ¬(97:Int)<=(c.toNat:Int):=Z;rw[show b2 T s (c::x)=b4 T s 4 (c::x) by simp[b2,kw,U]];simp-implicitDefEqProofs(disch:=try exact ag) only[uL,reduceAdd,reduceLeDiff,reduceIte,az,Tok.v,NM,fr,decide_false];exact Lb aJ (a7.aK aJ) ay _ 4
theorem ly{H:J}{r:Nat}{T:List Tok}{aj:I}{s:aw}(af:c8 H r T aj s)(x:bk)(dK:x≠[]):W (au P ao 31 [.ptr r 0 0,.str x] H) λv H'=>v= .tuple []/\cB r H H'/\c8 H' r T aj (cq T x s):=by
 refine cU (λ_=>al1 0) ?_;have df:=af.b9.one;rw[AH];refine aY (gI af.rd af.b9 x dK) ?_;rintro _ H1 ⟨rfl,aU⟩;refine⟨aU.1,?_⟩;have cJ:=af.rd.aK aU;have fH:=cJ;unfold c1 at fH;cases ay:b2 T s x with
 |false=>
  rw[show cq T x s=cL T 2 s by simp[cq,ay]];simp-implicitDefEqProofs(disch:=try exact ag) only[AH,reduceAdd,reduceLeDiff,reduceIte,az,Bool.not_false];refine aY (sv (af.aK aU) 2) ?_;rintro _ bl ⟨rfl,m2,cK⟩;refine⟨m2.1,?_⟩
  try simp only[AH]
  exact a8.2 ⟨rfl,(aU.mut _).trans m2,cK⟩
 |true=>
  rw[show cq T x s=aE s by simp[cq,ay]];simp-implicitDefEqProofs(disch:=try exact ag) only[AH,reduceAdd,reduceLeDiff,reduceIte,az,fH,df,Bool.not_true];obtain⟨m,bb⟩:=hT cJ (aE s);exact a8.2 ⟨rfl,(aU.mut _).trans m,af.mut ((aU.mut _).trans m) bb⟩
theorem Bk{H:J}{r:Nat}{T:List Tok}{aj:I}{s:aw}(af:c8 H r T aj s)(x:bk)(dK:x≠[]):W (au P ao 83 [.ptr r 0 0,.str x] H) λv H'=>v= .tuple []/\cB r H H'/\c8 H' r T aj (eE T x s):=by
 refine cU (λ_=>amJ 0) ?_;have df:=af.b9.one;rw[wv];refine aY (gI af.rd af.b9 x dK) ?_;rintro _ H1 ⟨rfl,aU⟩;refine⟨aU.1,?_⟩;have dt:=af.aK aU;have fH:=dt.rd;unfold c1 at fH;have more:eE T x s=ig (cq T x s)->W (aL H1 (au P ao 31 [.ptr r 0 0,.str x] H1) (Hy (.ptr r 0 0))) λv H'=>v= .tuple []/\cB r H H'/\c8 H' r T aj (eE T x s):=by
  intro he;rw[he];refine aY (ly dt x dK) ?_;rintro _ bl ⟨rfl,m2,cK⟩;refine⟨m2.1,?_⟩;have mV:=cK.rd;have xN:=mV;unfold c1 at xN;simp-implicitDefEqProofs(disch:=try exact ag) only[Hy,wv,reduceAdd,reduceLeDiff,reduceIte,az,xN,df];obtain⟨m,bb⟩:=hT mV (ig (cq T x s));exact a8.2 ⟨rfl,((aU.mut _).trans m2).trans m,af.mut (((aU.mut _).trans m2).trans m) bb⟩
 cases ay:b2 T s x with
 |false=>
  simp-implicitDefEqProofs(disch:=try exact ag) only[wv,reduceAdd,reduceLeDiff,reduceIte,az];exact more (by simp[eE,ay])
 |true=>
  by_cases bs:50<=s.bN
  ·rw[show eE T x s=cL T 4 s by simp[eE,ay,bs]];simp-implicitDefEqProofs(disch:=try exact ag) only[wv,reduceAdd,reduceLeDiff,reduceIte,az,fH,bs,decide_true];refine aY (sv dt 4) ?_;rintro _ bl ⟨rfl,m2,cK⟩;refine⟨m2.1,?_⟩
   try simp only[wv]
   exact a8.2 ⟨rfl,(aU.mut _).trans m2,cK⟩
  ·simp-implicitDefEqProofs(disch:=try exact ag) only[wv,reduceAdd,reduceLeDiff,reduceIte,az,fH,bs,decide_false];exact more (by simp[eE,ay,bs])
theorem Bc{H:J}{r:Nat}{T:List Tok}{aj:I}{s:aw}(af:c8 H r T aj s)(x:bk)(dK:x≠[]):W (au P ao 85 [.ptr r 0 0,.str x] H) λv H'=>v= .tuple []/\cB r H H'/\c8 H' r T aj (f0 T x s):=by
 refine cU (λ_=>amL 0) ?_;have df:=af.b9.one;rw[FO];refine aY (ly af x dK) ?_;rintro _ bl ⟨rfl,m2,cK⟩;refine⟨m2.1,?_⟩;have mV:=cK.rd;have xN:=mV;unfold c1 at xN;simp-implicitDefEqProofs(disch:=try exact ag) only[FO,reduceAdd,reduceLeDiff,reduceIte,az,xN,df];obtain⟨m,bb⟩:=hT mV (fU (cq T x s));exact a8.2 ⟨rfl,m2.trans m,af.mut (m2.trans m) bb⟩
theorem wK{H:J}{r:Nat}{T:List Tok}{aj:I}{s:aw}(af:c8 H r T aj s):W (au P ao 59 [.ptr r 0 0] H) λv H'=>v= .str (da T s).1/\cB r H H'/\c8 H' r T aj (da T s).2:=by
 refine cU (λ_=>amn 0) ?_;have df:=af.b9.one;have ax:=af.rd.lt;rw[wu];refine aY (nZ af.rd af.b9) ?_;rintro _ H1 ⟨rfl,aU⟩;refine⟨aU.1,?_⟩;have aJ:=aU.bV (.row false 4 [[.int .i64 (aq T s.at_).kind,.str (aq T s.at_).text,.int .i64 (aq T s.at_).n,.int .i64 (aq T s.at_).pos]]);have ay:=J.ca H1 (.row false 4 [[.int .i64 (aq T s.at_).kind,.str (aq T s.at_).text,.int .i64 (aq T s.at_).n,.int .i64 (aq T s.at_).pos]]);simp-implicitDefEqProofs(disch:=try exact ag) only[B6,wu,reduceAdd,reduceLeDiff,reduceIte,az,Tok.v];have cK:=af.aK aJ;refine aY (tB cK.rd) ?_;rintro _ cQ ⟨rfl,rfl⟩;refine⟨bL _,?_⟩;have C0:=aU.1
 have fH:=af.rd.aK aU;unfold c1 at fH;have ZT:da T s=([],cL T 2 s)->W (aL (H1.push (.row false 4 [[.int .i64 (aq T s.at_).kind,.str (aq T s.at_).text,.int .i64 (aq T s.at_).n,.int .i64 (aq T s.at_).pos]])) (au P ao 28 [.ptr r 0 0,.int .i64 2] (H1.push (.row false 4 [[.int .i64 (aq T s.at_).kind,.str (aq T s.at_).text,.int .i64 (aq T s.at_).n,.int .i64 (aq T s.at_).pos]]))) B6) λv H'=>v= .str (da T s).1/\cB r H H'/\c8 H' r T aj (da T s).2:=by
  intro he;rw[he];refine aY (sv cK 2) ?_;rintro _ cu ⟨rfl,m4,fa⟩;refine⟨m4.1,?_⟩
  try simp only[B6,wu]
  exact a8.2 ⟨rfl,(aJ.mut _).trans m4,fa⟩
 by_cases U:s.aA=0
 ·by_cases aa:(aq T s.at_).kind=1
  ·have fr:(s.aA==0)=true:=by simpa using U
   have hb:((aq T s.at_).kind==1)=true:=by simpa using aa
   rw[show da T s=((aq T s.at_).text,aE s) by simp[da,U,aa]];simp-implicitDefEqProofs(disch:=try exact ag) only[B6,wu,reduceAdd,reduceLeDiff,reduceIte,az,fr,hb,fH,df];obtain⟨m,bb⟩:=hT cK.rd (aE s);exact a8.2 ⟨rfl,(aJ.mut _).trans m,af.mut ((aJ.mut _).trans m) bb⟩
  ·have hb:((aq T s.at_).kind==1)=false:=by simpa using aa
   simp-implicitDefEqProofs(disch:=try exact ag) only[wu,reduceAdd,reduceLeDiff,reduceIte,az,U,hb,beq_self_eq_true];exact ZT (by simp[da,hb])
 ·have fr:(s.aA==0)=false:=by simpa using U
  simp-implicitDefEqProofs(disch:=try exact ag) only[wu,reduceAdd,reduceLeDiff,reduceIte,az,fr];exact ZT (by simp[da,fr])
end
section
theorem aib(l:Nat)(eI fB gL hO tr:Nat):dH P l 163 5 [(0,.aM eI 0 1 1 (some 1)),(1,.aM fB 0 1 1 (some 1)),(2,.aM gL 0 4 1 (some 4)),(3,.aM hO 0 2 1 (some 2)),(4,.aM tr 0 3 1 (some 3))]=
 some (.aM l 0 5 1 (some 5),.row false 1 [[.aM eI 0 1 1 (some 1)],[.aM fB 0 1 1 (some 1)],[.aM gL 0 4 1 (some 4)],[.aM hO 0 2 1 (some 2)],[.aM tr 0 3 1 (some 3)]]):=ad
theorem aic(l:Nat)(eI fB gL hO tr:Nat):dH P l 164 5 [(0,.aM eI 0 1 1 (some 1)),(1,.aM fB 0 1 1 (some 1)),(2,.aM gL 0 4 1 (some 4)),(3,.aM hO 0 2 1 (some 2)),(4,.aM tr 0 3 1 (some 3))]=
 some (.aM l 0 5 1 (some 5),.row false 1 [[.aM eI 0 1 1 (some 1)],[.aM fB 0 1 1 (some 1)],[.aM gL 0 4 1 (some 4)],[.aM hO 0 2 1 (some 2)],[.aM tr 0 3 1 (some 3)]]):=ad
theorem acl{H0 H:J}(eh:aR H0 H){b S K ys yr:Nat}{t:Tok}(ay:H.get b=some (.row false 4 [[.int .i64 t.kind,.str t.text,.int .i64 t.n,.int .i64 t.pos]])){pC gH:List (List I)}(F4:H.get S=some (.row false 1 pC))(tp:H.get K=some (.row false 1 gH)){lev:Nat}(o3:lev<5)(all:List (bk×Int))(hG:all.length<=1000){cs FY:Option Nat}
  (aO:pC[lev]? =some [.aM ys 0 all.length 1 cs]) (ah:gH[lev]? =some [.aM yr 0 all.length 1 FY]) (YM:H.get ys=some (.row false 1 (all.map λp=>[I.str p.1]))) (aoX:H.get yr=some (.row false 1 (all.map λp=>[I.int .i64 p.2]))) (N:Nat):
  ∀(rest pre:List (bk×Int)),all=pre++rest-> ∀(n:Nat),rest.length<n->
   W (tH (au P ao) N n (.int .i64 lev) (.ptr b 0 0) (.aM S 0 5 1 (some 5)) (.aM K 0 5 1 (some 5)) (.int .i64 pre.length) H) λv H'=>v= .int .i64 (uv t.text rest)/\aR H0 H':=by
 have a6:(0:Int)<=(lev:Int):=Z;have aB:(lev:Int)<((5:Nat):Int):=Z;have bC:((lev:Int)).toNat=lev:=Z;have i1:en P 163 (.aM S 0 5 1 (some 5)) (.int .i64 (lev:Int))=some (.ptr S lev 0):=by rw[LZ a6 aB,bC,Nat.zero_add]
 have i2:en P 164 (.aM K 0 5 1 (some 5)) (.int .i64 (lev:Int))=some (.ptr K lev 0):=by rw[L0 a6 aB,bC,Nat.zero_add]
 intro rest
 induction rest with
 |nil=>
  intro pre bA n aV;obtain⟨n,rfl⟩: ∃k,n=k+1:=⟨n-1,by simp at aV;omega⟩;have U: ¬((pre.length:Int)<(all.length:Int)):=by rw[bA];simp
  simp-implicitDefEqProofs(disch:=try exact ag) only[tH,tG,yX,xV,reduceAdd,reduceLeDiff,reduceIte,az,EU,ET,i1,F4,aO,U,decide_false];exact a8.2 ⟨rfl,eh⟩
 |cons q rest aT=>
  intro pre bA n aV;obtain⟨x,k⟩:=q;obtain⟨n,rfl⟩: ∃k,n=k+1:=⟨n-1,by simp at aV;omega⟩;have U:(pre.length:Int)<(all.length:Int):=by rw[bA];simp;omega
  have Y8:(0:Int)<=(pre.length:Int):=Z;have aI:((pre.length:Int)).toNat=pre.length:=Z;have gU:all[pre.length]? =some (x,k):=by rw[bA];simp
  have i3:en P 48 (.aM ys 0 all.length 1 cs) (.int .i64 (pre.length:Int))=some (.ptr ys pre.length 0):=by rw[MB Y8 U,aI,Nat.zero_add]
  have i4:en P 35 (.aM yr 0 all.length 1 FY) (.int .i64 (pre.length:Int))=some (.ptr yr pre.length 0):=by rw[MA Y8 U,aI,Nat.zero_add]
  have g1:(all.map λp=>[I.str p.1])[pre.length]? =some [.str x]:=by rw[List.getElem?_map,gU];rfl
  have g2:(all.map λp=>[I.int .i64 p.2])[pre.length]? =some [.int .i64 k]:=by rw[List.getElem?_map,gU];rfl
  cases af:x==t.text with
  |true=>
   simp-implicitDefEqProofs(disch:=try exact ag) only[tH,tG,yX,xV,reduceAdd,reduceLeDiff,reduceIte,az,EU,ET,i1,i2,i3,i4,F4,tp,aO,ah,YM,aoX,g1,g2,ay,U,decide_true,af];exact a8.2 ⟨by simp[uv,af],eh⟩
  |false=>
   have hw:IntKind.i64.wrap ((pre.length:Int)+1)=((pre++[(x,k)]).length:Int):=by
    have eo:pre.length<all.length:=Z;rw[wrap_i64 Z Z];simp
   simp-implicitDefEqProofs(disch:=try exact ag) only[tH,tG,yX,xV,reduceAdd,reduceLeDiff,reduceIte,az,EU,ET,i1,i3,F4,aO,YM,g1,ay,U,decide_true,af,hw];refine(aT (pre++[(x,k)]) (by simp[bA]) n (by simp at aV;omega)).mono ?_;rintro v H' ⟨rfl,q⟩;exact⟨by simp[uv,af],q⟩
set_option maxHeartbeats 1000000 in
theorem Qm{H:J}(lev:Nat)(o3:lev<5)(t:Tok):W (au P ao 128 [.int .i64 lev,t.v] H) λv H'=>v= .int .i64 (jk lev t)/\aR H H':=by
 refine cU (λ_=>ai4 10) ?_;have ic: ∀l,eW l t.v=some (.ptr l 0 0,.row false 4 [[.int .i64 t.kind,.str t.text,.int .i64 t.n,.int .i64 t.pos]]):=λl=>ij l _ rfl
 cases ah:t.kind != 4 with
 |true=>
  simp-implicitDefEqProofs(disch:=try exact ag) only[tG,yX,xV,reduceAdd,reduceLeDiff,reduceIte,az,ic,ah];exact a8.2 ⟨by simp[jk,ah],aR.push _ _⟩
 |false=>
  simp-implicitDefEqProofs(disch:=try exact ag) only[tG,xV,reduceAdd,reduceLeDiff,reduceIte,az,ic,ah,aib,aic];obtain⟨all,rY⟩: ∃all,mO[lev]? =some all:=⟨mO[lev]'(by simpa [mO] using o3),by simp[mO]⟩;have eo:all.length<10:=by
   have: ∀a∈mO,a.length<10:=cl;exact this all (List.mem_of_getElem? rY)
  have key: ∀(dU:J),aR H dU->dU.get H.next=some (.row false 4 [[.int .i64 t.kind,.str t.text,.int .i64 t.n,.int .i64 t.pos]])-> ∀(S K ys yr:Nat) (pC gH:List (List I)) (cs FY:Option Nat),dU.get S=some (.row false 1 pC)->dU.get K=some (.row false 1 gH)->pC[lev]? =some [.aM ys 0 all.length 1 cs]->gH[lev]? =some [.aM yr 0 all.length 1 FY]->
    dU.get ys=some (.row false 1 (all.map λp=>[I.str p.1]))->dU.get yr=some (.row false 1 (all.map λp=>[I.int .i64 p.2]))->
    W (tH (au P ao) 10 10 (.int .i64 lev) (.ptr H.next 0 0) (.aM S 0 5 1 (some 5)) (.aM K 0 5 1 (some 5)) (.int .i64 0) dU) λv H'=>v= .int .i64 (jk lev t)/\aR H H':=by
   intro dU p ay S K ys yr pC gH cs FY U aa ae al aB aG;refine(acl p ay U aa o3 all Z ae al aB aG 10 all [] rfl 10 eo).mono ?_;rintro v H' ⟨rfl,q⟩;exact⟨by simp[jk,ah,rY],q⟩
  have aB:lev=0\/lev=1\/lev=2\/lev=3\/lev=4:=Z;rcases aB with rfl|rfl|rfl|rfl|rfl<;>(simp only[mO,List.getElem?_cons_zero,List.getElem?_cons_succ,bD] at rY;subst rY)
  ·refine key _ ?_ ?_ (H.next+1+1+1+1+1+1) (H.next+1+1+1+1+1+1+1+1+1+1+1+1) (H.next+1) (H.next+1+1+1+1+1+1+1) [[.aM (H.next+1) 0 1 1 (some 1)],[.aM (H.next+1+1) 0 1 1 (some 1)],[.aM (H.next+1+1+1) 0 4 1 (some 4)],[.aM (H.next+1+1+1+1) 0 2 1 (some 2)],[.aM (H.next+1+1+1+1+1) 0 3 1 (some 3)]] [[.aM (H.next+1+1+1+1+1+1+1) 0 1 1 (some 1)],[.aM (H.next+1+1+1+1+1+1+1+1) 0 1 1 (some 1)],[.aM (H.next+1+1+1+1+1+1+1+1+1) 0 4 1 (some 4)],[.aM (H.next+1+1+1+1+1+1+1+1+1+1) 0 2 1 (some 2)],[.aM (H.next+1+1+1+1+1+1+1+1+1+1+1) 0 3 1 (some 3)]] (some 1) (some 1) ?_ ?_ rfl rfl ?_ ?_
   ·exact((((((((((((aR.push H _).bV _).bV _).bV _).bV _).bV _).bV _).bV _).bV _).bV _).bV _).bV _).bV _
   all_goals (simp-implicitDefEqProofs(disch:=try exact ag) only[dD];try rfl)
  ·refine key _ ?_ ?_ (H.next+1+1+1+1+1+1) (H.next+1+1+1+1+1+1+1+1+1+1+1+1) (H.next+1+1) (H.next+1+1+1+1+1+1+1+1) [[.aM (H.next+1) 0 1 1 (some 1)],[.aM (H.next+1+1) 0 1 1 (some 1)],[.aM (H.next+1+1+1) 0 4 1 (some 4)],[.aM (H.next+1+1+1+1) 0 2 1 (some 2)],[.aM (H.next+1+1+1+1+1) 0 3 1 (some 3)]] [[.aM (H.next+1+1+1+1+1+1+1) 0 1 1 (some 1)],[.aM (H.next+1+1+1+1+1+1+1+1) 0 1 1 (some 1)],[.aM (H.next+1+1+1+1+1+1+1+1+1) 0 4 1 (some 4)],[.aM (H.next+1+1+1+1+1+1+1+1+1+1) 0 2 1 (some 2)],[.aM (H.next+1+1+1+1+1+1+1+1+1+1+1) 0 3 1 (some 3)]] (some 1) (some 1) ?_ ?_ rfl rfl ?_ ?_
   ·exact((((((((((((aR.push H _).bV _).bV _).bV _).bV _).bV _).bV _).bV _).bV _).bV _).bV _).bV _).bV _
   all_goals (simp-implicitDefEqProofs(disch:=try exact ag) only[dD];try rfl)
  ·refine key _ ?_ ?_ (H.next+1+1+1+1+1+1) (H.next+1+1+1+1+1+1+1+1+1+1+1+1) (H.next+1+1+1) (H.next+1+1+1+1+1+1+1+1+1) [[.aM (H.next+1) 0 1 1 (some 1)],[.aM (H.next+1+1) 0 1 1 (some 1)],[.aM (H.next+1+1+1) 0 4 1 (some 4)],[.aM (H.next+1+1+1+1) 0 2 1 (some 2)],[.aM (H.next+1+1+1+1+1) 0 3 1 (some 3)]] [[.aM (H.next+1+1+1+1+1+1+1) 0 1 1 (some 1)],[.aM (H.next+1+1+1+1+1+1+1+1) 0 1 1 (some 1)],[.aM (H.next+1+1+1+1+1+1+1+1+1) 0 4 1 (some 4)],[.aM (H.next+1+1+1+1+1+1+1+1+1+1) 0 2 1 (some 2)],[.aM (H.next+1+1+1+1+1+1+1+1+1+1+1) 0 3 1 (some 3)]] (some 4) (some 4) ?_ ?_ rfl rfl ?_ ?_
   ·exact((((((((((((aR.push H _).bV _).bV _).bV _).bV _).bV _).bV _).bV _).bV _).bV _).bV _).bV _).bV _
   all_goals (simp-implicitDefEqProofs(disch:=try exact ag) only[dD];try rfl)
  ·refine key _ ?_ ?_ (H.next+1+1+1+1+1+1) (H.next+1+1+1+1+1+1+1+1+1+1+1+1) (H.next+1+1+1+1) (H.next+1+1+1+1+1+1+1+1+1+1) [[.aM (H.next+1) 0 1 1 (some 1)],[.aM (H.next+1+1) 0 1 1 (some 1)],[.aM (H.next+1+1+1) 0 4 1 (some 4)],[.aM (H.next+1+1+1+1) 0 2 1 (some 2)],[.aM (H.next+1+1+1+1+1) 0 3 1 (some 3)]] [[.aM (H.next+1+1+1+1+1+1+1) 0 1 1 (some 1)],[.aM (H.next+1+1+1+1+1+1+1+1) 0 1 1 (some 1)],[.aM (H.next+1+1+1+1+1+1+1+1+1) 0 4 1 (some 4)],[.aM (H.next+1+1+1+1+1+1+1+1+1+1) 0 2 1 (some 2)],[.aM (H.next+1+1+1+1+1+1+1+1+1+1+1) 0 3 1 (some 3)]] (some 2) (some 2) ?_ ?_ rfl rfl ?_ ?_
   ·exact((((((((((((aR.push H _).bV _).bV _).bV _).bV _).bV _).bV _).bV _).bV _).bV _).bV _).bV _).bV _
   all_goals (simp-implicitDefEqProofs(disch:=try exact ag) only[dD];try rfl)
  ·refine key _ ?_ ?_ (H.next+1+1+1+1+1+1) (H.next+1+1+1+1+1+1+1+1+1+1+1+1) (H.next+1+1+1+1+1) (H.next+1+1+1+1+1+1+1+1+1+1+1) [[.aM (H.next+1) 0 1 1 (some 1)],[.aM (H.next+1+1) 0 1 1 (some 1)],[.aM (H.next+1+1+1) 0 4 1 (some 4)],[.aM (H.next+1+1+1+1) 0 2 1 (some 2)],[.aM (H.next+1+1+1+1+1) 0 3 1 (some 3)]] [[.aM (H.next+1+1+1+1+1+1+1) 0 1 1 (some 1)],[.aM (H.next+1+1+1+1+1+1+1+1) 0 1 1 (some 1)],[.aM (H.next+1+1+1+1+1+1+1+1+1) 0 4 1 (some 4)],[.aM (H.next+1+1+1+1+1+1+1+1+1+1) 0 2 1 (some 2)],[.aM (H.next+1+1+1+1+1+1+1+1+1+1+1) 0 3 1 (some 3)]] (some 3) (some 3) ?_ ?_ rfl rfl ?_ ?_
   ·exact((((((((((((aR.push H _).bV _).bV _).bV _).bV _).bV _).bV _).bV _).bV _).bV _).bV _).bV _).bV _
   all_goals (simp-implicitDefEqProofs(disch:=try exact ag) only[dD];try rfl)
end
section
theorem KO{r:Nat}{T:List Tok}{aj:I}{H0:J}{s0:aw}(bt:c8 H0 r T aj s0){b t:Nat}(ay:H0.next<=b)(bC:H0.next<=t)(Ap:b≠t){x:bk}(d:Nat)(bb:d<=1000)(N:Nat):
  ∀(j i:Nat),i+j=d-> ∀(m:Nat) (H:J) (s:aw),j<m->cB r H0 H->c1 H r aj s->H.get b=some (.row false 2 [[.str [],.int .i64 0]])->H.get t=some (.row false 2 [[.str x,.int .i64 d]])->
   W (xl (au P ao) N m (.ptr r 0 0) (.ptr b 0 0) (.int .i64 d) (.ptr t 0 0) (.int .i64 i) H) λv H'=>v= .agg [.str x,.int .i64 d]/\cB r H0 H'/\c8 H' r T aj (takeN T [93] j s)
 |0,i,be,0,H,s,hm,mt,nE,gz,jN=>Z
 |0,i,be,m+1,H,s,hm,mt,nE,gz,jN=>by
  have U: ¬((i:Int)<(d:Int)):=Z;have io:=J.aW gz;simp-implicitDefEqProofs(disch:=try exact ag) only[xl,kG,lC,mF,l8,nt,l7,lY,reduceAdd,reduceLeDiff,reduceIte,az,U,decide_false,gz,jN];exact a8.2 ⟨rfl,mt.de (.inr ay) _,bt.mut (mt.de (.inr ay) _) (by
   have:=bt.rd.lt;unfold c1 at nE ⊢;rw[J.get_set_other Z];exact nE)⟩
 |j+1,i,be,0,H,s,hm,mt,nE,gz,jN=>Z
 |j+1,i,be,m+1,H,s,hm,mt,nE,gz,jN=>by
  have U:((i:Int)<(d:Int)):=Z;have h0:=bt.rd.lt;simp-implicitDefEqProofs(disch:=try exact ag) only[xl,kG,lC,mF,l8,nt,l7,lY,reduceAdd,reduceLeDiff,reduceIte,az,U,decide_true];refine aY (ly (bt.mut mt nE) [93] (by simp)) ?_;rintro _ bl ⟨rfl,m2,cK⟩;refine⟨m2.1,?_⟩;have hw:IntKind.i64.wrap ((i:Int)+1)=((i+1:Nat):Int):=by rw[wrap_i64 Z Z];simp
  simp-implicitDefEqProofs(disch:=try exact ag) only[kG,lC,mF,l8,nt,l7,lY,reduceAdd,reduceLeDiff,reduceIte,az,hw];refine(KO bt ay bC Ap d bb N j (i+1) Z m bl _ Z (mt.trans m2) cK.rd (m2.get gz Z) (m2.get jN Z)).mono ?_;rintro v H' ⟨rfl,cE,cx⟩;exact⟨rfl,cE,cx⟩
theorem TX{r:Nat}{T:List Tok}{aj:I}{H0:J}{s0:aw}(bt:c8 H0 r T aj s0){b t:Nat}(ay:H0.next<=b)(bC:H0.next<=t)(Ap:b≠t)(d:Nat)(bb:d<=1000)(N:Nat)(dX:d<N){H:J}{s:aw}(mt:cB r H0 H)(cp:c1 H r aj s)(gz:H.get b=some (.row false 2 [[.str [],.int .i64 0]]))
  (jN:H.get t=some (.row false 2 [[.str [],.int .i64 d]])) {c:Bool} (aS:(b2 T s [105,110,116]||b2 T s [98,111,111,108])=c):
  W (l8 (au P ao) N (.ptr r 0 0) (.ptr b 0 0) (.int .i64 d) (.ptr t 0 0) (.bool c) H) λv H'=>v= .agg [.str (jl T d s).1.1,.int .i64 (jl T d s).1.2]/\cB r H0 H'/\c8 H' r T aj (jl T d s).2:=by
 have h0:=bt.rd.lt;have io:=J.aW gz;have eo:=J.aW jN;have hle:=mt.1;have af:=bt.mut mt cp;have df:=af.b9.one;cases c with
 |true=>
  rw[show jl T d s=(((aq T s.at_).text,(d:Int)),takeN T [93] d (aE s)) by simp[jl,aS]];simp-implicitDefEqProofs(disch:=try exact ag) only[kG,lC,l8,nt,l7,lY,reduceAdd,reduceLeDiff,reduceIte,az];refine aY (nZ cp af.b9) ?_;rintro _ H1 ⟨rfl,aU⟩;refine⟨aU.1,?_⟩;have Ez:=aU.get jN;have Ms:=J.aW Ez;have mU:=cp.aK aU;have Cv:=mU;unfold c1 at Cv;have anO:=mU.lt;simp-implicitDefEqProofs(disch:=try exact ag) only[kG,lC,l8,nt,l7,lY,reduceAdd,reduceLeDiff,reduceIte,az,Tok.v,Ez,Cv,df];simp only[mF];have m2:cB r H0 (H1.set t (.row false 2 [[.str (aq T s.at_).text,.int .i64 d]])):=(mt.trans (aU.mut _)).de (.inr bC) _
  have cJ:c1 (H1.set t (.row false 2 [[.str (aq T s.at_).text,.int .i64 d]])) r aj s:=by
   unfold c1;rw[J.get_set_other Z];exact Cv
  obtain⟨m3,lp⟩:=hT cJ (aE s);refine KO bt ay bC Ap d bb N d 0 Z N _ _ dX (m2.trans m3) lp (m3.get ?_ Z) (m3.get (J.get_set_same Ms) Z);rw[J.get_set_other Z];exact aU.get gz
 |false=>
  rw[show jl T d s=(((da T s).1,(d:Int)),takeN T [93] d (da T s).2) by simp[jl,aS]];simp-implicitDefEqProofs(disch:=try exact ag) only[kG,lC,l8,nt,l7,lY,reduceAdd,reduceLeDiff,reduceIte,az];refine aY (wK af) ?_;rintro _ H1 ⟨rfl,m1,dt⟩;refine⟨m1.1,?_⟩;have Ez:=m1.get jN Z;have Ms:=J.aW Ez;simp-implicitDefEqProofs(disch:=try exact ag) only[kG,lC,l8,nt,l7,lY,reduceAdd,reduceLeDiff,reduceIte,az,Ez];simp only[mF];refine KO bt ay bC Ap d bb N d 0 Z N _ _ dX ((mt.trans m1).de (.inr bC) _) ?_ ?_ (J.get_set_same Ms)
  ·have:=dt.rd;unfold c1 at this ⊢;rw[J.get_set_other Z];exact this
  ·rw[J.get_set_other Z];exact m1.get gz Z
theorem TW{r:Nat}{T:List Tok}{aj:I}{H0:J}{s0:aw}(bt:c8 H0 r T aj s0){b:Nat}(ay:H0.next<=b)(d:Nat)(bb:d<=1000)(N:Nat)(dX:d<N){H:J}{s:aw}(mt:cB r H0 H)(cp:c1 H r aj s)(gz:H.get b=some (.row false 2 [[.str [],.int .i64 0]])):
  W (nt (au P ao) N (.ptr r 0 0) (.ptr b 0 0) (.int .i64 d) H) λv H'=>v= .agg [.str (jl T d s).1.1,.int .i64 (jl T d s).1.2]/\cB r H0 H'/\c8 H' r T aj (jl T d s).2:=by
 have h0:=bt.rd.lt;have io:=J.aW gz;have hle:=mt.1;have af:=bt.mut mt cp;simp-implicitDefEqProofs(disch:=try exact ag) only[kG,lC,nt,l7,lY,reduceAdd,reduceLeDiff,reduceIte,az];have aU:=aR.push H (.row false 2 [[.str [],.int .i64 d]]);have jN:=J.ca H (.row false 2 [[.str [],.int .i64 d]]);refine aY (gI (cp.aK aU) (af.b9.aK aU) _ (by simp)) ?_;rintro _ bl ⟨rfl,aJ⟩;refine⟨aJ.1,?_⟩;have bz:=aU.trans aJ;cases be:b2 T s [105,110,116] with
 |true=>
  simp-implicitDefEqProofs(disch:=try exact ag) only[kG,lC,nt,l7,lY,reduceAdd,reduceLeDiff,reduceIte,az];exact TX bt ay Z Z d bb N dX (mt.trans (bz.mut _)) (cp.aK bz) (bz.get gz) (aJ.get jN) (by simp[be])
 |false=>
  simp-implicitDefEqProofs(disch:=try exact ag) only[kG,lC,nt,l7,lY,reduceAdd,reduceLeDiff,reduceIte,az];refine aY (gI (cp.aK bz) (af.b9.aK bz) _ (by simp)) ?_;rintro _ cu ⟨rfl,bK⟩;refine⟨bK.1,?_⟩;have cO:=bz.trans bK
  try simp only[kG,lC,nt,l7,lY]
  exact TX bt ay Z Z d bb N dX (mt.trans (cO.mut _)) (cp.aK cO) (cO.get gz) ((aJ.trans bK).get jN) (by simp[be])
theorem af8{r:Nat}{T:List Tok}{aj:I}{H0:J}{s0:aw}(bt:c8 H0 r T aj s0){b:Nat}(ay:H0.next<=b)(N:Nat)(dX:3<N):
  ∀(n d:Nat),n+d=3-> ∀(m:Nat) (H:J) (s:aw),n<m->cB r H0 H->c1 H r aj s->H.get b=some (.row false 2 [[.str [],.int .i64 0]])->
   W (xm (au P ao) N m (.ptr r 0 0) (.ptr b 0 0) (.int .i64 d) H) λv H'=> ∃p:(bk×Int)×aw,p=(match jm T n d s with| .inr s'=>(([],0),s')| .inl (d,s')=>jl T d s')/\v= .agg [.str p.1.1,.int .i64 p.1.2]/\cB r H0 H'/\c8 H' r T aj p.2:=by
 intro n
 induction n with
 |zero=>
  intro d bb m H s hm mt cp gz;obtain⟨m,rfl⟩: ∃k,m=k+1:=⟨m-1,Z⟩;have lp:d=3:=Z;subst lp;have af:=bt.mut mt cp;have h0:=bt.rd.lt;have io:=J.aW gz;simp only[xm];rw[l7];refine aY (gI cp af.b9 [91] (by simp)) ?_;rintro _ H1 ⟨rfl,aU⟩;refine⟨aU.1,?_⟩;have p7:=aU.get gz;cases be:b2 T s [91] with
  |true=>
   simp-implicitDefEqProofs(disch:=try exact ag) only[kG,lC,mF,l8,l7,lY,reduceAdd,reduceLeDiff,reduceIte,az,beq_self_eq_true,Int.cast_ofNat_Int];refine aY (sv (af.aK aU) 4) ?_;rintro _ bl ⟨rfl,m2,cK⟩;refine⟨m2.1,?_⟩;have Ey:=m2.get p7 Z;have vM:=J.aW Ey;simp-implicitDefEqProofs(disch:=try exact ag) only[kG,lC,mF,l8,l7,lY,reduceAdd,reduceLeDiff,reduceIte,az,Ey];have m3:=((mt.trans (aU.mut _)).trans m2).de (.inr ay) (.row false 2 [[.str [],.int .i64 0]]);refine a8.2 ⟨(([],0),cL T 4 s),by simp[jm,be],rfl,m3,bt.mut m3 ?_⟩;have:=cK.rd;unfold c1 at this ⊢;rw[J.get_set_other Z];exact this
  |false=>
   simp-implicitDefEqProofs(disch:=try exact ag) only[kG,lC,mF,l8,l7,lY,reduceAdd,reduceLeDiff,reduceIte,az];refine(TW bt ay 3 Z N dX (mt.trans (aU.mut _)) (cp.aK aU) p7).mono ?_;rintro v H' ⟨rfl,cE,cx⟩;exact⟨jl T 3 s,by simp[jm,be],rfl,cE,cx⟩
 |succ n aT=>
  intro d bb m H s hm mt cp gz;obtain⟨m,rfl⟩: ∃k,m=k+1:=⟨m-1,Z⟩;have af:=bt.mut mt cp;have h0:=bt.rd.lt;have io:=J.aW gz;have df:=af.b9.one;simp only[xm];rw[l7];refine aY (gI cp af.b9 [91] (by simp)) ?_;rintro _ H1 ⟨rfl,aU⟩;refine⟨aU.1,?_⟩;have p7:=aU.get gz;have vN:=cp.aK aU;have Em:=vN;unfold c1 at Em;cases be:b2 T s [91] with
  |true=>
   have ae:((d:Int)==3)=false:=by simp;omega
   have hw:IntKind.i64.wrap ((d:Int)+1)=((d+1:Nat):Int):=by rw[wrap_i64 Z Z];simp
   obtain⟨m2,mS⟩:=hT vN (aE s);simp-implicitDefEqProofs(disch:=try exact ag) only[kG,lC,mF,l8,lY,reduceAdd,reduceLeDiff,reduceIte,az,ae,hw,Em,df];refine(aT (d+1) Z m _ _ Z ((mt.trans (aU.mut _)).trans m2) mS (m2.get p7 Z)).mono ?_;rintro v H' ⟨p,bA,rfl,cE,cx⟩;exact⟨p,by rw[bA];simp[jm,be],rfl,cE,cx⟩
  |false=>
   simp-implicitDefEqProofs(disch:=try exact ag) only[kG,lC,mF,l8,lY,reduceAdd,reduceLeDiff,reduceIte,az];refine(TW bt ay d Z N Z (mt.trans (aU.mut _)) (cp.aK aU) p7).mono ?_;rintro v H' ⟨rfl,cE,cx⟩;exact⟨jl T d s,by simp[jm,be],rfl,cE,cx⟩
theorem DS{H:J}{r:Nat}{T:List Tok}{aj:I}{s:aw}(af:c8 H r T aj s):W (au P ao 60 [.ptr r 0 0] H) λv H'=>v= .agg [.str (e5 T s).1.1,.int .i64 (e5 T s).1.2]/\cB r H H'/\c8 H' r T aj (e5 T s).2:=by
 refine cU (λ_=>amo 10) ?_;simp only[kG,lC,mF,l8,lY,cv];have p:=aR.push H (.row false 2 [[.str [],.int .i64 0]]);refine(af8 af (bL _) 10 Z 3 0 rfl 10 _ s Z (p.mut _) (af.rd.aK p) (J.ca _ _)).mono ?_;rintro v H' ⟨q,bg,rfl,cE,cx⟩;have:q=e5 T s:=by rw[bg];rfl
 subst this;exact⟨rfl,cE,cx⟩
end
end Go.Proofs.YtghmbpmaafnodaaGreatDoor
