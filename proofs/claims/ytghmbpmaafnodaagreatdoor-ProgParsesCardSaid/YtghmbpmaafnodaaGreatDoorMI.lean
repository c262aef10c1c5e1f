/-
  Texts of one proof, laid together: ShC Y1 Y2 Y3.
-/
import Derived.Test.YtghmbpmaafnodaaGreatDoorMD
import Derived.Test.YtghmbpmaafnodaaGreatDoorMG
import Derived.Test.YtghmbpmaafnodaaGreatDoorME
set_option linter.unusedVariables false
set_option linter.unusedSimpArgs false
namespace Go.Proofs.YtghmbpmaafnodaaGreatDoor
open Go.gd
open Nat (reduceAdd reduceLeDiff)
section
set_option maxRecDepth 100000
noncomputable section
def AL(G:av)(Y:I)(H:J):O:=
 cy H [(.int .i64 0),(.str []),(.int .i64 0),(.int .i64 0)] λan U=>
 ab (b5 Y) λba=>
 ab (aE P 63 ba 1) λbb=>
 ab (aj P U 3 bb) λbu=>
 ab (aW P .lss 3 true bu (.int .i64 0)) λbx=>
 aD bx false U (di Y) λbE aa=>
 aD bx false aa (bh (b5 bE)) λcq ae=>
 aD bx false ae (bh (aE P 63 cq 1)) λb1 am=>
 aD bx false am (qr (aj P am 3 b1)) λcb aB=>
 aD bx false aB (di Y) λb6 aG=>
 aD bx false aG (bh (b5 b6)) λbT aP=>
 aD bx false aP (bh (aE P 63 bT 0)) λbW bq=>
 aD bx false bq (qr (aj P bq 50 bW)) λbG bJ=>
 aD bx false bJ (λq=>iu (dF P .empty .len [50] [bG]) (dF P bJ .len [50] [bG]) q) λcc co=>
 aD bx false co (bh (aW P .geq 3 false cb cc)) λcK ds=>
 ab (cX bx (some (.bool true)) (some cK)) λcM=>
 bO (some cM) (a7 ds (aQ P ds 57 an (.agg [(.int .i64 0),(.str []),(.int .i64 0),(.int .i64 0)])) λdV=>
 ab (aj P dV 57 an) λr=>
 some (r,dV)) (ab (b5 Y) λcz=>
 ab (aE P 63 cz 0) λcH=>
 ab (aj P ds 50 cH) λc1=>
 ab (b5 Y) λdt=>
 ab (aE P 63 dt 1) λdc=>
 ab (aj P ds 3 dc) λdT=>
 ab (dS P 50 c1 dT) λdJ=>
 ab (aj P ds 57 dJ) λcF=>
 a7 ds (aQ P ds 57 an cF) λdV=>
 ab (aj P dV 57 an) λr=>
 some (r,dV))
theorem aiV(G:av)(N:Nat)(Y:I)(H:J):bn Tryz.f26 G N (cB [Y]) H=AL G Y H:=by
 refine cL (A:=bn Tryz.f26 G N) (aL _) ?_;delta AL;kernel_rfl
theorem akY(N:Nat){Y:I}{H:J}{r:I×J}(h:AL (aq P ao) Y H=some r):aq P ao 26 [Y] H=some r:=
 cQ ad Tryz.func26 ad ad ad ((aiV (aq P ao) N Y H).trans h)
def ID(G:av)(Y:I)(H:J):O:=
 ab (b5 Y) λba=>
 ab (aE P 63 ba 3) λbb=>
 ab (aE P 29 bb 0) λbu=>
 ab (aj P H 27 bu) λbx=>
 ab (aW P .eql 27 true bx (.int .i64 0)) λbS=>
 some (bS,H)
theorem aiU(G:av)(N:Nat)(Y:I)(H:J):bn Tryz.f25 G N (cB [Y]) H=ID G Y H:=by
 refine cL (A:=bn Tryz.f25 G N) (aL _) ?_;delta ID;kernel_rfl
theorem akX(N:Nat){Y:I}{H:J}{r:I×J}(h:ID (aq P ao) Y H=some r):aq P ao 25 [Y] H=some r:=
 cQ ad Tryz.func25 ad ad ad ((aiU (aq P ao) N Y H).trans h)
def AM(G:av)(Y ai:I)(H:J):O:=
 aO H (G 25 [Y] H) λbb U=>
 bO (some bb) (aO U (G 26 [Y] U) λbE aa=>
 ab (d8 P 57 bE 3) λcq=>
 ab (cO P 29 [(0,ai),(1,cq)]) λb1=>
 ab (b5 Y) λcb=>
 ab (aE P 63 cb 3) λb6=>
 a7 aa (aQ P aa 29 b6 b1) λae=>
 some (.tuple [],ae)) (some (.tuple [],U))
theorem aiX(G:av)(N:Nat)(Y:I)(ai:I)(H:J):bn Tryz.f28 G N (cB [Y,ai]) H=AM G Y ai H:=by
 refine cL (A:=bn Tryz.f28 G N) (aL _) ?_;delta AM;kernel_rfl
theorem ak0(N:Nat){Y ai:I}{H:J}{r:I×J}(h:AM (aq P ao) Y ai H=some r):aq P ao 28 [Y,ai] H=some r:=
 cQ ad Tryz.func28 ad ad ad ((aiX (aq P ao) N Y ai H).trans h)
def zo(G:av)(Y ai:I)(bb bu:I)(H:J):O:=
 aO H (G 25 [Y] H) λcK U=>
 aD cK true U (bh (aE P 57 bb 0)) λcA aa=>
 aD cK true aa (qr (aj P aa 3 cA)) λcx ae=>
 aD cK true ae (di bu) λcz am=>
 aD cK true am (bh (aW P .eql 3 false cx cz)) λcH aB=>
 ab (cX cK (some cH) (some (.bool false))) λc1=>
 aD c1 true aB (bh (aE P 57 bb 1)) λdt aG=>
 aD c1 true aG (qr (aj P aG 9 dt)) λdc aP=>
 aD c1 true aP (di ai) λdT bq=>
 aD c1 true bq (bh (aW P .eql 9 false dc dT)) λdJ bJ=>
 ab (cX c1 (some dJ) (some (.bool false))) λcF=>
 some (cF,bJ)
theorem adH(G:av)(N:Nat): ∀R H,cw P G N (Code.snd (Code.snd (Code.snd (Code.snd (c6 Tryz.f27))))) (bY Tryz.f27) [] (bY Tryz.f27) R H=zo G (R 0) (R 1) (R 5) (R 6) H:=by
 refine dj (aL _) λR H=> ?_
 delta zo;kernel_rfl
def uN(G:av)(Y ai:I)(H:J):O:=
 aO H (G 26 [Y] H) λbS U=>
 cy U [(.int .i64 0),(.str []),(.int .i64 0),(.int .i64 0)] λbb aa=>
 a7 aa (aQ P aa 57 bb bS) λae=>
 ab (h1 P 9 ai (.int .i64 0)) λcq=>
 ab (aW P .geq 5 true cq (.int .u8 97)) λb1=>
 aD b1 true ae (di ai) λb6 am=>
 aD b1 true am (bh (h1 P 9 b6 (.int .i64 0))) λbT aB=>
 aD b1 true aB (bh (aW P .leq 5 true bT (.int .u8 122))) λbW aG=>
 ab (cX b1 (some bW) (some (.bool false))) λbG=>
 bO (some bG) (zo G Y ai bb (.int .i64 3) aG) (zo G Y ai bb (.int .i64 4) aG)
theorem aiW(G:av)(N:Nat)(Y:I)(ai:I)(H:J):bn Tryz.f27 G N (cB [Y,ai]) H=uN G Y ai H:=by
 refine cL (A:=bn Tryz.f27 G N) ((bk ad ((bk ad ((bk ad ((bk ad (adH G N) (aL _))) (aL _))) (aL _))) (aL _))) ?_;delta uN;generalize zo G=a1;revert a1;refine id ?_;intro a1;kernel_rfl
theorem akZ(N:Nat){Y ai:I}{H:J}{r:I×J}(h:uN (aq P ao) Y ai H=some r):aq P ao 27 [Y,ai] H=some r:=
 cQ ad Tryz.func27 ad ad ad ((aiW (aq P ao) N Y ai H).trans h)
def AN(G:av)(Y ai:I)(H:J):O:=
 aO H (G 27 [Y,ai] H) λbu U=>
 ab (eY .not bu) λbx=>
 bO (some bx) (aO U (G 28 [Y,(.int .i64 2)] U) λbE aa=>
 some (.tuple [],aa)) (ab (b5 Y) λb1=>
 ab (aE P 63 b1 1) λcb=>
 ab (aj P U 3 cb) λb6=>
 ab (aW P .add 3 true b6 (.int .i64 1)) λbT=>
 ab (b5 Y) λbW=>
 ab (aE P 63 bW 1) λbG=>
 a7 U (aQ P U 3 bG bT) λaa=>
 some (.tuple [],aa))
theorem ai0(G:av)(N:Nat)(Y:I)(ai:I)(H:J):bn Tryz.f31 G N (cB [Y,ai]) H=AN G Y ai H:=by
 refine cL (A:=bn Tryz.f31 G N) (aL _) ?_;delta AN;kernel_rfl
theorem ak3(N:Nat){Y ai:I}{H:J}{r:I×J}(h:AN (aq P ao) Y ai H=some r):aq P ao 31 [Y,ai] H=some r:=
 cQ ad Tryz.func31 ad ad ad ((ai0 (aq P ao) N Y ai H).trans h)
def Hq(Y cK:I)(aP:J):O:=
 ab (b5 Y) λcA=>
 ab (aE P 63 cA 2) λcx=>
 ab (aj P aP 3 cx) λcz=>
 ab (aW P .add 3 true cz (.int .i64 1)) λcH=>
 ab (b5 Y) λc1=>
 ab (aE P 63 c1 2) λdn=>
 a7 aP (aQ P aP 3 dn cH) λbq=>
 some (.tuple [],bq)
def wu(G:av)(Y ai:I)(H:J):O:=
 aO H (G 27 [Y,ai] H) λbu U=>
 aD bu true U (di Y) λbS aa=>
 aD bu true aa (bh (b5 bS)) λbE ae=>
 aD bu true ae (bh (aE P 63 bE 2)) λcq am=>
 aD bu true am (qr (aj P am 3 cq)) λb1 aB=>
 aD bu true aB (bh (aW P .geq 3 true b1 (.int .i64 50))) λcb aG=>
 ab (cX bu (some cb) (some (.bool false))) λb6=>
 bO (some b6) (aO aG (G 28 [Y,(.int .i64 4)] aG) λbW aP=>
 some (.tuple [],aP)) (aO aG (G 31 [Y,ai] aG) (Hq Y))
theorem ajK(G:av)(N:Nat)(Y:I)(ai:I)(H:J):bn Tryz.f83 G N (cB [Y,ai]) H=wu G Y ai H:=by
 refine cL (A:=bn Tryz.f83 G N) (aL _) ?_;delta wu Hq;kernel_rfl
theorem alO(N:Nat){Y ai:I}{H:J}{r:I×J}(h:wu (aq P ao) Y ai H=some r):aq P ao 83 [Y,ai] H=some r:=
 cQ ad Tryz.func83 ad ad ad ((ajK (aq P ao) N Y ai H).trans h)
def FG(G:av)(Y ai:I)(H:J):O:=
 aO H (G 31 [Y,ai] H) λbu U=>
 ab (b5 Y) λbS=>
 ab (aE P 63 bS 2) λbE=>
 ab (aj P U 3 bE) λcq=>
 ab (aW P .sub 3 true cq (.int .i64 1)) λb1=>
 ab (b5 Y) λcb=>
 ab (aE P 63 cb 2) λb6=>
 a7 U (aQ P U 3 b6 b1) λaa=>
 some (.tuple [],aa)
theorem ajM(G:av)(N:Nat)(Y:I)(ai:I)(H:J):bn Tryz.f85 G N (cB [Y,ai]) H=FG G Y ai H:=by
 refine cL (A:=bn Tryz.f85 G N) (aL _) ?_;delta FG;kernel_rfl
theorem alQ(N:Nat){Y ai:I}{H:J}{r:I×J}(h:FG (aq P ao) Y ai H=some r):aq P ao 85 [Y,ai] H=some r:=
 cQ ad Tryz.func85 ad ad ad ((ajM (aq P ao) N Y ai H).trans h)
def B4(cH:I)(bq:J):O:=
 some ((.str []),bq)
def wt(G:av)(Y:I)(H:J):O:=
 aO H (G 26 [Y] H) λbb U=>
 cy U [(.int .i64 0),(.str []),(.int .i64 0),(.int .i64 0)] λay aa=>
 a7 aa (aQ P aa 57 ay bb) λae=>
 aO ae (G 25 [Y] ae) λbx am=>
 aD bx true am (bh (aE P 57 ay 0)) λbE aB=>
 aD bx true aB (qr (aj P aB 3 bE)) λcq aG=>
 aD bx true aG (bh (aW P .eql 3 true cq (.int .i64 1))) λb1 aP=>
 ab (cX bx (some b1) (some (.bool false))) λcb=>
 bO (some cb) (ab (b5 Y) λbT=>
 ab (aE P 63 bT 1) λbW=>
 ab (aj P aP 3 bW) λbG=>
 ab (aW P .add 3 true bG (.int .i64 1)) λcc=>
 ab (b5 Y) λcK=>
 ab (aE P 63 cK 1) λcM=>
 a7 aP (aQ P aP 3 cM cc) λbq=>
 ab (aE P 57 ay 1) λcA=>
 ab (aj P bq 9 cA) λcx=>
 some (cx,bq)) (aO aP (G 28 [Y,(.int .i64 2)] aP) (B4))
theorem ajo(G:av)(N:Nat)(Y:I)(H:J):bn Tryz.f59 G N (cB [Y]) H=wt G Y H:=by
 refine cL (A:=bn Tryz.f59 G N) (aL _) ?_;delta wt B4;kernel_rfl
theorem als(N:Nat){Y:I}{H:J}{r:I×J}(h:wt (aq P ao) Y H=some r):aq P ao 59 [Y] H=some r:=
 cQ ad Tryz.func59 ad ad ad ((ajo (aq P ao) N Y H).trans h)
def kJ(G:av)(N:Nat)(an ba:I)(H:J):O:=
 ab (aj P H 43 ba) λix=>
 a7 H (aQ P H 43 an ix) λU=>
 ab (aj P U 43 an) λr=>
 some (r,U)
theorem aeb(G:av)(N:Nat): ∀R H,cw P G N (Code.snd (Code.snd (Code.snd (Code.snd (Code.snd (Code.snd (c6 Tryz.f60))))))) (bY Tryz.f60) [] (bY Tryz.f60) R H=kJ G N (R 2) (R 4) H:=by
 refine dj (aL _) λR H=> ?_
 delta kJ;kernel_rfl
def lG(G:av)(N:Nat)(jM:I->I->I->I->I->J->O)(Y an:I)(ay ba bb:I)(H:J):O:=
 ab (aW P .lss 3 false bb ay) λgR=>
 bO (some gR) (aO H (G 31 [Y,(.str [93])] H) λh6 U=>
 ab (aW P .add 3 true bb (.int .i64 1)) λhB=>
 jM Y an ay ba hB U) (kJ G N an ba H)
def xm(G:av)(N:Nat):Nat->I->I->I->I->I->J->O
 |0,_,_,_,_,_,_=>none
 |n+1,Y,an,ay,ba,bb,H=>lG G N (xm G N n) Y an ay ba bb H
theorem ad8(G:av)(N:Nat)(jM:I->I->I->I->I->J->O): ∀R H,cw P G N (Code.fst (Code.fst (Code.snd (Code.fst (Code.snd (Code.snd (Code.snd (Code.snd (Code.snd (c6 Tryz.f60)))))))))) (λR H=>jM (R 0) (R 2) (R 3) (R 4) (R 5) H) [(3,(λR H=>kJ G N (R 2) (R 4) H))] (bY Tryz.f60) R H=lG G N jM (R 0) (R 2) (R 3) (R 4) (R 5) H:=by
 refine dj (aL _) λR H=> ?_
 delta lG;generalize kJ G N=a1;revert a1;refine id ?_;intro a1;kernel_rfl
def mK(G:av)(N:Nat)(Y an:I)(ay ba:I)(H:J):O:=
 xm G N N Y an ay ba (.int .i64 0) H
theorem aea(G:av)(N:Nat): ∀R H,cw P G N (Code.snd (Code.snd (Code.snd (Code.snd (Code.snd (c6 Tryz.f60)))))) (bY Tryz.f60) [] (bY Tryz.f60) R H=mK G N (R 0) (R 2) (R 3) (R 4) H:=by
 refine dj ((bk ad (aeb G N) ((bk ad ((fy ad ((gg (k:=λm R H=>xm G N m (R 0) (R 2) (R 3) (R 4) (R 5) H) ad (λR H=>ad) (λm=>ad8 G N (xm G N m)))))) (aL _))))) λR H=> ?_
 delta mK;generalize xm G N N=a1;revert a1;refine id ?_;intro a1;kernel_rfl
def mg(G:av)(N:Nat)(Y an:I)(ay ba dc:I)(H:J):O:=
 bO (some dc) (aO H (G 26 [Y] H) λei U=>
 ab (d8 P 57 ei 1) λfh=>
 ab (aE P 43 ba 0) λej=>
 a7 U (aQ P U 9 ej fh) λaa=>
 ab (b5 Y) λef=>
 ab (aE P 63 ef 1) λfo=>
 ab (aj P aa 3 fo) λfv=>
 ab (aW P .add 3 true fv (.int .i64 1)) λfi=>
 ab (b5 Y) λfU=>
 ab (aE P 63 fU 1) λgb=>
 a7 aa (aQ P aa 3 gb fi) λae=>
 mK G N Y an ay ba ae) (aO H (G 59 [Y] H) λdn U=>
 ab (aE P 43 ba 0) λdt=>
 a7 U (aQ P U 9 dt dn) λaa=>
 mK G N Y an ay ba aa)
theorem aec(G:av)(N:Nat): ∀R H,cw P G N (Code.snd (Code.fst (Code.fst (Code.snd (Code.snd (Code.snd (Code.snd (c6 Tryz.f60)))))))) (λR H=>mK G N (R 0) (R 2) (R 3) (R 4) H) [(2,(λR H=>mK G N (R 0) (R 2) (R 3) (R 4) H))] (bY Tryz.f60) R H=mg G N (R 0) (R 2) (R 3) (R 4) (R 27) H:=by
 refine dj (aL _) λR H=> ?_
 delta mg;generalize mK G N=a1;revert a1;refine id ?_;intro a1;kernel_rfl
def nu(G:av)(N:Nat)(Y an ay:I)(H:J):O:=
 ab (cO P 43 [(1,ay)]) λcH=>
 cy H [(.str []),(.int .i64 0)] λba U=>
 a7 U (aQ P U 43 ba cH) λaa=>
 aO aa (G 27 [Y,(.str [105,110,116])] aa) λdJ ae=>
 bO (some dJ) (mg G N Y an ay ba dJ ae) (aO ae (G 27 [Y,(.str [98,111,111,108])] ae) λeC am=>
 mg G N Y an ay ba eC am)
theorem ad_(G:av)(N:Nat): ∀R H,cw P G N (Code.snd (Code.snd (Code.snd (c6 Tryz.f60)))) (bY Tryz.f60) [] (bY Tryz.f60) R H=nu G N (R 0) (R 2) (R 3) H:=by
 refine dj ((bk ad ((bk ad (aea G N) ((fy ad ((bk ad (aec G N) (aL _))))))) (aL _))) λR H=> ?_
 delta nu;generalize mg G N=a1;revert a1;refine id ?_;intro a1;kernel_rfl
def mf(G:av)(N:Nat)(I6:I->I->I->J->O)(Y an ay:I)(H:J):O:=
 aO H (G 27 [Y,(.str [91])] H) λbx U=>
 bO (some bx) (ab (aW P .eql 3 true ay (.int .i64 3)) λbE=>
 bO (some bE) (aO U (G 28 [Y,(.int .i64 4)] U) λb1 aa=>
 a7 aa (aQ P aa 43 an (.agg [(.str []),(.int .i64 0)])) λae=>
 ab (aj P ae 43 an) λr=>
 some (r,ae)) (ab (b5 Y) λbT=>
 ab (aE P 63 bT 1) λbW=>
 ab (aj P U 3 bW) λbG=>
 ab (aW P .add 3 true bG (.int .i64 1)) λcc=>
 ab (b5 Y) λcK=>
 ab (aE P 63 cK 1) λcM=>
 a7 U (aQ P U 3 cM cc) λaa=>
 ab (aW P .add 3 true ay (.int .i64 1)) λcx=>
 I6 Y an cx aa)) (nu G N Y an ay U)
def xn(G:av)(N:Nat):Nat->I->I->I->J->O
 |0,_,_,_,_=>none
 |n+1,Y,an,ay,H=>mf G N (xn G N n) Y an ay H
theorem ad9(G:av)(N:Nat)(I6:I->I->I->J->O): ∀R H,cw P G N (Code.fst (Code.fst (Code.fst (Code.snd (Code.snd (c6 Tryz.f60)))))) (λR H=>I6 (R 0) (R 2) (R 3) H) [(0,(λR H=>nu G N (R 0) (R 2) (R 3) H))] (bY Tryz.f60) R H=mf G N I6 (R 0) (R 2) (R 3) H:=by
 refine dj (aL _) λR H=> ?_
 delta mf;generalize nu G N=a1;revert a1;refine id ?_;intro a1;kernel_rfl
def l4(G:av)(N:Nat)(Y:I)(H:J):O:=
 cy H [(.str []),(.int .i64 0)] λan U=>
 xn G N N Y an (.int .i64 0) U
theorem ajp(G:av)(N:Nat)(Y:I)(H:J):bn Tryz.f60 G N (cB [Y]) H=l4 G N Y H:=by
 refine cL (A:=bn Tryz.f60 G N) ((bk ad ((bk ad ((bk ad (ad_ G N) ((fy ad ((gg (k:=λm R H=>xn G N m (R 0) (R 2) (R 3) H) ad (λR H=>ad) (λm=>ad9 G N (xn G N m)))))))) (aL _))) (aL _))) ?_;delta l4;generalize xn G N N=a1;revert a1;refine id ?_;intro a1;kernel_rfl
theorem alt(N:Nat){Y:I}{H:J}{r:I×J}(h:l4 (aq P ao) N Y H=some r):aq P ao 60 [Y] H=some r:=
 cQ ad Tryz.func60 ad ad ad ((ajp (aq P ao) N Y H).trans h)
def tF(G:av)(N:Nat)(H:J):O:=
 some ((.int .i64 0),H)
theorem ab9(G:av)(N:Nat): ∀R H,cw P G N (Code.snd (Code.snd (Code.snd (Code.snd (Code.snd (c6 Tryz.f128)))))) (bY Tryz.f128) [] (bY Tryz.f128) R H=tF G N H:=by
 refine dj (aL _) λR H=> ?_
 delta tF;kernel_rfl
def yZ(G:av)(N:Nat)(bD:I->I->I->I->I->J->O)(Y ay:I)(bb bu bx:I)(H:J):O:=
 ab (dS P 163 bb Y) λdt=>
 ab (aj P H 48 dt) λdc=>
 bg P .len [48] [dc] H λdT=>
 ab (aW P .lss 3 false bx dT) λdJ=>
 bO (some dJ) (ab (dS P 163 bb Y) λfh=>
 ab (aj P H 48 fh) λej=>
 ab (dS P 48 ej bx) λef=>
 ab (aj P H 9 ef) λfo=>
 ab (aE P 57 ay 1) λfv=>
 ab (aj P H 9 fv) λfi=>
 ab (aW P .eql 9 false fo fi) λfU=>
 bO (some fU) (ab (dS P 164 bu Y) λe4=>
 ab (aj P H 35 e4) λgR=>
 ab (dS P 35 gR bx) λhB=>
 ab (aj P H 3 hB) λjy=>
 some (jy,H)) (ab (aW P .add 3 true bx (.int .i64 1)) λeC=>
 bD Y ay bb bu eC H)) (tF G N H)
def tG(G:av)(N:Nat):Nat->I->I->I->I->I->J->O
 |0,_,_,_,_,_,_=>none
 |n+1,Y,ay,bb,bu,bx,H=>yZ G N (tG G N n) Y ay bb bu bx H
theorem ab8(G:av)(N:Nat)(bD:I->I->I->I->I->J->O): ∀R H,cw P G N (Code.fst (Code.fst (Code.snd (Code.fst (Code.snd (Code.snd (Code.snd (Code.snd (c6 Tryz.f128))))))))) (λR H=>bD (R 0) (R 3) (R 5) (R 6) (R 7) H) [(0,(λR H=>tF G N H))] (bY Tryz.f128) R H=yZ G N bD (R 0) (R 3) (R 5) (R 6) (R 7) H:=by
 refine dj (aL _) λR H=> ?_
 delta yZ;generalize tF G N=a1;revert a1;refine id ?_;intro a1;kernel_rfl
def xZ(G:av)(N:Nat)(Y ai:I)(H:J):O:=
 dv H (eK (H).next ai) λay U=>
 ab (aE P 57 ay 0) λbS=>
 ab (aj P U 3 bS) λbE=>
 ab (aW P .neq 3 true bE (.int .i64 4)) λcq=>
 bO (some cq) (some ((.int .i64 0),U)) (dv U (some (.aN (U).next 0 1 1 (some 1),.row false 1 [[(.str [124,124])]])) λb1 aa=>
 dv aa (some (.aN (aa).next 0 1 1 (some 1),.row false 1 [[(.str [38,38])]])) λcb ae=>
 dv ae (some (.aN (ae).next 0 4 1 (some 4),.row false 1 [[(.str [60])],[(.str [60,61])],[(.str [61,61])],[(.str [33,61])]])) λb6 am=>
 dv am (some (.aN (am).next 0 2 1 (some 2),.row false 1 [[(.str [43])],[(.str [45])]])) λbT aB=>
 dv aB (some (.aN (aB).next 0 3 1 (some 3),.row false 1 [[(.str [42])],[(.str [47])],[(.str [37])]])) λbW aG=>
 dv aG (dK P (aG).next 163 5 [(0,b1),(1,cb),(2,b6),(3,bT),(4,bW)]) λbG aP=>
 dv aP (some (.aN (aP).next 0 1 1 (some 1),.row false 1 [[(.int .i64 24)]])) λcc bq=>
 dv bq (some (.aN (bq).next 0 1 1 (some 1),.row false 1 [[(.int .i64 23)]])) λcK bJ=>
 dv bJ (some (.aN (bJ).next 0 4 1 (some 4),.row false 1 [[(.int .i64 19)],[(.int .i64 20)],[(.int .i64 21)],[(.int .i64 22)]])) λcM co=>
 dv co (some (.aN (co).next 0 2 1 (some 2),.row false 1 [[(.int .i64 14)],[(.int .i64 15)]])) λcA ds=>
 dv ds (some (.aN (ds).next 0 3 1 (some 3),.row false 1 [[(.int .i64 16)],[(.int .i64 17)],[(.int .i64 18)]])) λcx dV=>
 dv dV (dK P (dV).next 164 5 [(0,cc),(1,cK),(2,cM),(3,cA),(4,cx)]) λcz eN=>
 tG G N N Y ay bG cz (.int .i64 0) eN)
theorem agv(G:av)(N:Nat)(Y:I)(ai:I)(H:J):bn Tryz.f128 G N (cB [Y,ai]) H=xZ G N Y ai H:=by
 refine cL (A:=bn Tryz.f128 G N) ((bk ad ((bk ad ((bk ad ((bk ad ((bk ad (ab9 G N) ((bk ad ((fy ad ((gg (k:=λm R H=>tG G N m (R 0) (R 3) (R 5) (R 6) (R 7) H) ad (λR H=>ad) (λm=>ab8 G N (tG G N m)))))) (aL _))))) (aL _))) (aL _))) (aL _))) (aL _))) ?_;delta xZ;generalize tG G N N=a1;revert a1;refine id ?_;intro a1;kernel_rfl
theorem ah3(N:Nat){Y ai:I}{H:J}{r:I×J}(h:xZ (aq P ao) N Y ai H=some r):aq P ao 128 [Y,ai] H=some r:=
 cQ ad Tryz.func128 ad ad ad ((agv (aq P ao) N Y ai H).trans h)
def yW(G:av)(N:Nat)(ba bb:I)(H:J):O:=
 ab (aj P H 103 bb) λhB=>
 a7 H (aQ P H 103 ba hB) λU=>
 ab (aj P U 103 ba) λr=>
 some (r,U)
theorem ab1(G:av)(N:Nat): ∀R H,cw P G N (Code.snd (Code.snd (Code.snd (Code.snd (c6 Tryz.f109))))) (bY Tryz.f109) [] (bY Tryz.f109) R H=yW G N (R 4) (R 5) H:=by
 refine dj (aL _) λR H=> ?_
 delta yW;kernel_rfl
def pJ(bD:I->I->I->I->J->O)(Y ai:I)(ba bb:I)(hk:J):O:=
 bD Y ai ba bb hk
def DV(G:av)(N:Nat)(bD:I->I->I->I->J->O)(Y ai:I)(ba bb:I)(H:J):O:=
 aO H (G 25 [Y] H) λcc U=>
 aD cc true U (di ai) λcM aa=>
 aD cc true aa (di Y) λcA ae=>
 aD cc true ae (λq=>fk ae (G 26 [cA] ae) q) λcx am=>
 aD cc true am (λq=>fk am (G 128 [cM,cx] am) q) λcz aB=>
 aD cc true aB (bh (aW P .neq 3 true cz (.int .i64 0))) λcH aG=>
 ab (cX cc (some cH) (some (.bool false))) λc1=>
 bO (some c1) (aO aG (G 26 [Y] aG) λdt aP=>
 cy aP [(.int .i64 0),(.str []),(.int .i64 0),(.int .i64 0)] λbu bq=>
 a7 bq (aQ P bq 57 bu dt) λbJ=>
 ab (b5 Y) λdT=>
 ab (aE P 63 dT 1) λdJ=>
 ab (aj P bJ 3 dJ) λcF=>
 ab (aW P .add 3 true cF (.int .i64 1)) λeC=>
 ab (b5 Y) λdy=>
 ab (aE P 63 dy 1) λei=>
 a7 bJ (aQ P bJ 3 ei eC) λco=>
 ab (aW P .add 3 true ai (.int .i64 1)) λdW=>
 aO co (G 109 [Y,dW] co) λef ds=>
 cy ds [(.int .i64 0),(.int .i64 0),(.str []),(.str []),(.int .i64 0),I.ap,(.int .i64 0),(.int .i64 0),(.int .i64 0),(.int .i64 0),(.int .i64 0)] λbx dV=>
 a7 dV (aQ P dV 103 bx ef) λeN=>
 ab (aj P eN 57 bu) λfv=>
 aO eN (G 128 [ai,fv] eN) λfi fI=>
 ab (aj P fI 103 bb) λfU=>
 ab (aj P fI 103 bx) λgb=>
 dv fI (dK P (fI).next 96 2 [(0,fU),(1,gb)]) λgM f0=>
 ab (aE P 57 bu 3) λe4=>
 ab (aj P f0 3 e4) λgR=>
 ab (cO P 103 [(0,fi),(4,gM),(5,gR)]) λgB=>
 a7 f0 (aQ P f0 103 bb gB) λhk=>
 bif ((cj (aj P eN 57 bu) fv&&true)&&((cj (aj P eN 103 bb) fU&&(cj (aj P fI 103 bb) fU&&true))&&((cj (aj P eN 103 bx) gb&&(cj (aj P fI 103 bx) gb&&true))&&((cj (aj P eN 3 e4) gR&&(cj (aj P fI 3 e4) gR&&(cj (aj P f0 3 e4) gR&&true)))&&true)))) then(pJ bD Y ai ba bb hk) else none) (yW G N ba bb aG)
def yX(G:av)(N:Nat):Nat->I->I->I->I->J->O
 |0,_,_,_,_,_=>none
 |n+1,Y,ai,ba,bb,H=>DV G N (yX G N n) Y ai ba bb H
theorem ab0(G:av)(N:Nat)(bD:I->I->I->I->J->O): ∀R H,cw P G N (Code.fst (Code.fst (Code.fst (Code.snd (Code.snd (Code.snd (c6 Tryz.f109))))))) (λR H=>bD (R 0) (R 1) (R 4) (R 5) H) [(0,(λR H=>yW G N (R 4) (R 5) H))] (bY Tryz.f109) R H=DV G N bD (R 0) (R 1) (R 4) (R 5) H:=by
 refine dj (aL _) λR H=> ?_
 delta DV pJ;generalize yW G N=a1;revert a1;refine id ?_;intro a1;kernel_rfl
def oK(G:av)(N:Nat)(Y ai:I)(ba bb:I)(am:J):O:=
 yX G N N Y ai ba bb am
def oL(G:av)(N:Nat)(bW Y:I)(ai ba bb:I)(ae:J):O:=
 a7 ae (aQ P ae 103 bb bW) (oK G N Y ai ba bb)
def oM(G:av)(N:Nat)(Y ai:I)(ba bW:I)(aa:J):O:=
 cy aa [(.int .i64 0),(.int .i64 0),(.str []),(.str []),(.int .i64 0),I.ap,(.int .i64 0),(.int .i64 0),(.int .i64 0),(.int .i64 0),(.int .i64 0)] (oL G N bW Y ai ba)
def o2(G:av)(N:Nat)(Y ai:I)(H:J):O:=
 cy H [(.int .i64 0),(.int .i64 0),(.str []),(.str []),(.int .i64 0),I.ap,(.int .i64 0),(.int .i64 0),(.int .i64 0),(.int .i64 0),(.int .i64 0)] λba U=>
 ab (aW P .eql 3 true ai (.int .i64 5)) λbE=>
 bO (some bE) (aO U (G 127 [Y] U) λb1 aa=>
 a7 aa (aQ P aa 103 ba b1) λae=>
 ab (aj P ae 103 ba) λr=>
 some (r,ae)) (ab (aW P .add 3 true ai (.int .i64 1)) λbT=>
 aO U (G 109 [Y,bT] U) (oM G N Y ai ba))
theorem agh(G:av)(N:Nat)(Y:I)(ai:I)(H:J):bn Tryz.f109 G N (cB [Y,ai]) H=o2 G N Y ai H:=by
 refine cL (A:=bn Tryz.f109 G N) ((bk ad ((bk ad ((bk ad ((bk ad (ab1 G N) ((fy ad ((gg (k:=λm R H=>yX G N m (R 0) (R 1) (R 4) (R 5) H) ad (λR H=>ad) (λm=>ab0 G N (yX G N m)))))))) (aL _))) (aL _))) (aL _))) ?_;delta o2 oM oL oK;generalize yX G N N=a1;revert a1;refine id ?_;intro a1;kernel_rfl
theorem ahP(N:Nat){Y ai:I}{H:J}{r:I×J}(h:o2 (aq P ao) N Y ai H=some r):aq P ao 109 [Y,ai] H=some r:=
 cQ ad Tryz.func109 ad ad ad ((agh (aq P ao) N Y ai H).trans h)
def u9(G:av)(Y an:I)(ay ba:I)(H:J):O:=
 ab (aE P 57 ay 1) λcM=>
 ab (aj P H 9 cM) λcA=>
 aO H (G 83 [Y,cA] H) λcx U=>
 aO U (G 109 [Y,(.int .i64 5)] U) λcH aa=>
 cy aa [(.int .i64 0),(.int .i64 0),(.str []),(.str []),(.int .i64 0),I.ap,(.int .i64 0),(.int .i64 0),(.int .i64 0),(.int .i64 0),(.int .i64 0)] λbb ae=>
 a7 ae (aQ P ae 103 bb cH) λam=>
 ab (b5 Y) λdn=>
 ab (aE P 63 dn 2) λdt=>
 ab (aj P am 3 dt) λdc=>
 ab (aW P .sub 3 true dc (.int .i64 1)) λdT=>
 ab (b5 Y) λdJ=>
 ab (aE P 63 dJ 2) λcF=>
 a7 am (aQ P am 3 cF dT) λaB=>
 ab (aj P aB 103 bb) λdy=>
 dv aB (dK P (aB).next 96 1 [(0,dy)]) λei aG=>
 ab (aE P 57 ay 3) λfh=>
 ab (aj P aG 3 fh) λej=>
 ab (cO P 103 [(0,ba),(4,ei),(5,ej)]) λdW=>
 a7 aG (aQ P aG 103 an dW) λaP=>
 ab (aj P aP 103 an) λr=>
 some (r,aP)
theorem ab7(G:av)(N:Nat): ∀R H,cw P G N (Code.snd (Code.snd (Code.snd (Code.snd (c6 Tryz.f127))))) (bY Tryz.f127) [] (bY Tryz.f127) R H=u9 G (R 0) (R 2) (R 3) (R 4) H:=by
 refine dj (aL _) λR H=> ?_
 delta u9;kernel_rfl
def qB(G:av)(Y an:I)(U:J):O:=
 aO U (G 26 [Y] U) λbx aa=>
 cy aa [(.int .i64 0),(.str []),(.int .i64 0),(.int .i64 0)] λay ae=>
 a7 ae (aQ P ae 57 ay bx) λam=>
 aO am (G 27 [Y,(.str [45])] am) λbT aB=>
 bO (some bT) (u9 G Y an ay (.int .i64 12) aB) (aO aB (G 27 [Y,(.str [33])] aB) λcc aG=>
 bO (some cc) (u9 G Y an ay (.int .i64 13) aG) (aO aG (G 146 [Y] aG) λcq aP=>
 aO aP (G 145 [Y,cq] aP) λb1 bq=>
 a7 bq (aQ P bq 103 an b1) λbJ=>
 ab (aj P bJ 103 an) λr=>
 some (r,bJ)))
def pZ(G:av)(Y:I)(H:J):O:=
 cy H [(.int .i64 0),(.int .i64 0),(.str []),(.str []),(.int .i64 0),I.ap,(.int .i64 0),(.int .i64 0),(.int .i64 0),(.int .i64 0),(.int .i64 0)] (qB G Y)
theorem agu(G:av)(N:Nat)(Y:I)(H:J):bn Tryz.f127 G N (cB [Y]) H=pZ G Y H:=by
 refine cL (A:=bn Tryz.f127 G N) ((bk ad ((bk ad ((bk ad ((bk ad (ab7 G N) (aL _))) (aL _))) (aL _))) (aL _))) ?_;delta pZ qB;generalize u9 G=a1;revert a1;refine id ?_;intro a1;kernel_rfl
theorem ah2(N:Nat){Y:I}{H:J}{r:I×J}(h:pZ (aq P ao) Y H=some r):aq P ao 127 [Y] H=some r:=
 cQ ad Tryz.func127 ad ad ad ((agu (aq P ao) N Y H).trans h)
def y3(G:av)(N:Nat)(ay ba:I)(H:J):O:=
 ab (aj P H 103 ay) λgM=>
 a7 H (aQ P H 103 ba gM) λU=>
 ab (aj P U 103 ba) λr=>
 some (r,U)
theorem acg(G:av)(N:Nat): ∀R H,cw P G N (Code.snd (Code.snd (c6 Tryz.f145))) (bY Tryz.f145) [] (bY Tryz.f145) R H=y3 G N (R 3) (R 4) H:=by
 refine dj (aL _) λR H=> ?_
 delta y3;kernel_rfl
def rE(bD:I->I->I->J->O)(Y ay ba:I)(ds:J):O:=
 bD Y ay ba ds
def tH(bD:I->I->I->J->O)(Y ay ba:I)(fI:J):O:=
 bD Y ay ba fI
def pC(G:av)(bD:I->I->I->J->O)(Y ay:I)(bb ba:I)(aG:J):O:=
 aO aG (G 27 [Y,(.str [46])] aG) λbG aP=>
 bO (some bG) (ab (b5 Y) λcK=>
 ab (aE P 63 cK 1) λcM=>
 ab (aj P aP 3 cM) λcA=>
 ab (aW P .add 3 true cA (.int .i64 1)) λcx=>
 ab (b5 Y) λcz=>
 ab (aE P 63 cz 1) λcH=>
 a7 aP (aQ P aP 3 cH cx) λbq=>
 aO bq (G 59 [Y] bq) λdn bJ=>
 ab (aj P bJ 103 ay) λdt=>
 dv bJ (dK P (bJ).next 96 1 [(0,dt)]) λdc co=>
 ab (aE P 57 bb 3) λdT=>
 ab (aj P co 3 dT) λdJ=>
 ab (cO P 103 [(0,(.int .i64 5)),(2,dn),(4,dc),(5,dJ)]) λcF=>
 a7 co (aQ P co 103 ay cF) λds=>
 bif ((cj (aj P bq 103 ay) dt&&(cj (aj P bJ 103 ay) dt&&true))&&((cj (aj P bq 3 dT) dJ&&(cj (aj P bJ 3 dT) dJ&&(cj (aj P co 3 dT) dJ&&true)))&&true)) then(rE bD Y ay ba ds) else none) (aO aP (G 83 [Y,(.str [91])] aP) λdy bq=>
 aO bq (G 109 [Y,(.int .i64 0)] bq) λfh bJ=>
 cy bJ [(.int .i64 0),(.int .i64 0),(.str []),(.str []),(.int .i64 0),I.ap,(.int .i64 0),(.int .i64 0),(.int .i64 0),(.int .i64 0),(.int .i64 0)] λbu co=>
 a7 co (aQ P co 103 bu fh) λds=>
 aO ds (G 85 [Y,(.str [93])] ds) λdW dV=>
 ab (aj P dV 103 ay) λef=>
 ab (aj P dV 103 bu) λfo=>
 dv dV (dK P (dV).next 96 2 [(0,ef),(1,fo)]) λfv eN=>
 ab (aE P 57 bb 3) λfi=>
 ab (aj P eN 3 fi) λfU=>
 ab (cO P 103 [(0,(.int .i64 6)),(4,fv),(5,fU)]) λgb=>
 a7 eN (aQ P eN 103 ay gb) (tH bD Y ay ba))
def pD(G:av)(bD:I->I->I->J->O)(bT Y:I)(ay ba bb:I)(aB:J):O:=
 a7 aB (aQ P aB 57 bb bT) (pC G bD Y ay bb ba)
def pE(G:av)(bD:I->I->I->J->O)(Y ay:I)(ba bT:I)(am:J):O:=
 cy am [(.int .i64 0),(.str []),(.int .i64 0),(.int .i64 0)] (pD G bD bT Y ay ba)
def sC(G:av)(bD:I->I->I->J->O)(ae:J)(Y ay ba:I):O:=
 aO ae (G 26 [Y] ae) (pE G bD Y ay ba)
def DW(G:av)(N:Nat)(bD:I->I->I->J->O)(Y ay ba:I)(H:J):O:=
 aO H (G 27 [Y,(.str [46])] H) λbS U=>
 aD bS false U (di Y) λcq aa=>
 aD bS false aa (λq=>fk aa (G 27 [cq,(.str [91])] aa) q) λb1 ae=>
 ab (cX bS (some (.bool true)) (some b1)) λcb=>
 bO (some cb) (sC G bD ae Y ay ba) (y3 G N ay ba ae)
def w6(G:av)(N:Nat):Nat->I->I->I->J->O
 |0,_,_,_,_=>none
 |n+1,Y,ay,ba,H=>DW G N (w6 G N n) Y ay ba H
theorem acf(G:av)(N:Nat)(bD:I->I->I->J->O): ∀R H,cw P G N (Code.fst (Code.fst (Code.fst (Code.snd (c6 Tryz.f145))))) (λR H=>bD (R 0) (R 3) (R 4) H) [(0,(λR H=>y3 G N (R 3) (R 4) H))] (bY Tryz.f145) R H=DW G N bD (R 0) (R 3) (R 4) H:=by
 refine dj (aL _) λR H=> ?_
 delta DW sC pE pD pC tH rE;generalize y3 G N=a1;revert a1;refine id ?_;intro a1;kernel_rfl
def pF(G:av)(N:Nat)(Y ay ba:I)(aa:J):O:=
 w6 G N N Y ay ba aa
def pG(G:av)(N:Nat)(Y ay:I)(U:J):O:=
 cy U [(.int .i64 0),(.int .i64 0),(.str []),(.str []),(.int .i64 0),I.ap,(.int .i64 0),(.int .i64 0),(.int .i64 0),(.int .i64 0),(.int .i64 0)] (pF G N Y ay)
def o3(G:av)(N:Nat)(Y ai:I)(H:J):O:=
 dv H (eK (H).next ai) (pG G N Y)
theorem agG(G:av)(N:Nat)(Y:I)(ai:I)(H:J):bn Tryz.f145 G N (cB [Y,ai]) H=o3 G N Y ai H:=by
 refine cL (A:=bn Tryz.f145 G N) ((bk ad ((bk ad (acg G N) ((fy ad ((gg (k:=λm R H=>w6 G N m (R 0) (R 3) (R 4) H) ad (λR H=>ad) (λm=>acf G N (w6 G N m)))))))) (aL _))) ?_;delta o3 pG pF;generalize w6 G N N=a1;revert a1;refine id ?_;intro a1;kernel_rfl
theorem aid(N:Nat){Y ai:I}{H:J}{r:I×J}(h:o3 (aq P ao) N Y ai H=some r):aq P ao 145 [Y,ai] H=some r:=
 cQ ad Tryz.func145 ad ad ad ((agG (aq P ao) N Y ai H).trans h)
def Af(G:av)(Y:I)(H:J):O:=
 cy H [(.int .i64 0),(.int .i64 0),(.str []),(.str []),(.int .i64 0),I.ap,(.int .i64 0),(.int .i64 0),(.int .i64 0),(.int .i64 0),(.int .i64 0)] λan U=>
 aO U (G 83 [Y,(.str [40])] U) λbb aa=>
 aO aa (G 109 [Y,(.int .i64 0)] aa) λbx ae=>
 cy ae [(.int .i64 0),(.int .i64 0),(.str []),(.str []),(.int .i64 0),I.ap,(.int .i64 0),(.int .i64 0),(.int .i64 0),(.int .i64 0),(.int .i64 0)] λay am=>
 a7 am (aQ P am 103 ay bx) λaB=>
 aO aB (G 85 [Y,(.str [41])] aB) λbE aG=>
 ab (aj P aG 103 ay) λcq=>
 a7 aG (aQ P aG 103 an cq) λaP=>
 ab (aj P aP 103 an) λr=>
 some (r,aP)
theorem agM(G:av)(N:Nat)(Y:I)(H:J):bn Tryz.f157 G N (cB [Y]) H=Af G Y H:=by
 refine cL (A:=bn Tryz.f157 G N) (aL _) ?_;delta Af;kernel_rfl
theorem aij(N:Nat){Y:I}{H:J}{r:I×J}(h:Af (aq P ao) Y H=some r):aq P ao 157 [Y] H=some r:=
 cQ ad Tryz.func157 ad ad ad ((agM (aq P ao) N Y H).trans h)
def tI(G:av)(Y an ay:I)(H:J):O:=
 aO H (G 59 [Y] H) λH4 U=>
 aO U (G 27 [Y,(.str [40])] U) λAj aa=>
 ab (eY .not Aj) λvY=>
 bO (some vY) (ab (aE P 57 ay 3) λEW=>
 ab (aj P aa 3 EW) λMB=>
 ab (cO P 103 [(0,(.int .i64 4)),(2,H4),(5,MB)]) λMC=>
 a7 aa (aQ P aa 103 an MC) λae=>
 ab (aj P ae 103 an) λr=>
 some (r,ae)) (aO aa (G 158 [Y] aa) λanp ae=>
 ab (aE P 57 ay 3) λEX=>
 ab (aj P ae 3 EX) λEY=>
 ab (cO P 103 [(0,(.int .i64 7)),(2,H4),(4,anp),(5,EY)]) λMD=>
 a7 ae (aQ P ae 103 an MD) λam=>
 bif ((cj (aj P aa 3 EX) EY&&(cj (aj P ae 3 EX) EY&&true))&&true) then(ab (aj P am 103 an) λr=>
 some (r,am)) else none)
theorem ach(G:av)(N:Nat): ∀R H,cw P G N (Code.snd (Code.snd (Code.snd (c6 Tryz.f146)))) (bY Tryz.f146) [] (bY Tryz.f146) R H=tI G (R 0) (R 2) (R 3) H:=by
 refine dj (aL _) λR H=> ?_
 delta tI;kernel_rfl
def k9(Y:I)(bq:J)(ay an:I):O:=
 ab (b5 Y) λcc=>
 ab (aE P 63 cc 1) λcK=>
 ab (aj P bq 3 cK) λcM=>
 ab (aW P .add 3 true cM (.int .i64 1)) λcA=>
 ab (b5 Y) λcx=>
 ab (aE P 63 cx 1) λcz=>
 a7 bq (aQ P bq 3 cz cA) λbJ=>
 ab (aE P 57 ay 2) λcH=>
 ab (aj P bJ 3 cH) λc1=>
 ab (aE P 57 ay 3) λdn=>
 ab (aj P bJ 3 dn) λdt=>
 ab (cO P 103 [(0,(.int .i64 1)),(1,c1),(5,dt)]) λdc=>
 a7 bJ (aQ P bJ 103 an dc) λco=>
 ab (aj P co 103 an) λr=>
 some (r,co)
def y4(G:av)(an ay ba:I)(H:J):O:=
 ab (aE P 57 ay 3) λe4=>
 ab (aj P H 3 e4) λgR=>
 ab (cO P 103 [(0,(.int .i64 2)),(1,ba),(5,gR)]) λgB=>
 a7 H (aQ P H 103 an gB) λU=>
 ab (aj P U 103 an) λr=>
 some (r,U)
theorem acj(G:av)(N:Nat): ∀R H,cw P G N (Code.snd (Code.snd (Code.snd (Code.fst (Code.snd (Code.snd (Code.snd (Code.fst (Code.fst (Code.snd (Code.snd (c6 Tryz.f146)))))))))))) (λR H=>tI G (R 0) (R 2) (R 3) H) [(0,(λR H=>tI G (R 0) (R 2) (R 3) H))] (bY Tryz.f146) R H=y4 G (R 2) (R 3) (R 4) H:=by
 refine dj (aL _) λR H=> ?_
 delta y4;kernel_rfl
def k_(G:av)(Y:I)(H:J)(ay an:I):O:=
 ab (b5 Y) λfh=>
 ab (aE P 63 fh 1) λej=>
 ab (aj P H 3 ej) λdW=>
 ab (aW P .add 3 true dW (.int .i64 1)) λef=>
 ab (b5 Y) λfo=>
 ab (aE P 63 fo 1) λfv=>
 a7 H (aQ P H 3 fv ef) λU=>
 ab (aE P 57 ay 1) λfi=>
 ab (aj P U 9 fi) λfU=>
 ab (aW P .eql 9 true fU (.str [116,114,117,101])) λgb=>
 bO (some gb) (y4 G an ay (.int .i64 1) U) (y4 G an ay (.int .i64 0) U)
def la(G:av)(Y:I)(U:J)(ay an:I):O:=
 ab (b5 Y) λhQ=>
 ab (aE P 63 hQ 1) λgk=>
 ab (aj P U 3 gk) λjU=>
 ab (aW P .add 3 true jU (.int .i64 1)) λjV=>
 ab (b5 Y) λj_=>
 ab (aE P 63 j_ 1) λlr=>
 a7 U (aQ P U 3 lr jV) λaa=>
 aO aa (G 60 [Y] aa) λkR ae=>
 ab (aE P 57 ay 3) λl5=>
 ab (aj P ae 3 l5) λjW=>
 ab (cO P 103 [(0,(.int .i64 3)),(3,kR),(5,jW)]) λoH=>
 a7 ae (aQ P ae 103 an oH) λam=>
 bif ((cj (aj P aa 3 l5) jW&&(cj (aj P ae 3 l5) jW&&true))&&true) then(ab (aj P am 103 an) λr=>
 some (r,am)) else none
def lb(G:av)(Y:I)(aa:J)(ay an:I):O:=
 ab (b5 Y) λl7=>
 ab (aE P 63 l7 1) λnb=>
 ab (aj P aa 3 nb) λfD=>
 ab (aW P .add 3 true fD (.int .i64 1)) λkq=>
 ab (b5 Y) λAT=>
 ab (aE P 63 AT 1) λnN=>
 a7 aa (aQ P aa 3 nN kq) λae=>
 ab (aE P 57 ay 3) λnc=>
 ab (aj P ae 3 nc) λnO=>
 aO ae (G 156 [Y,nO] ae) λww am=>
 a7 am (aQ P am 103 an ww) λaB=>
 ab (aj P aB 103 an) λr=>
 some (r,aB)
def ld(G:av)(Y:I)(ae:J)(ay an:I):O:=
 ab (b5 Y) λqg=>
 ab (aE P 63 qg 1) λq8=>
 ab (aj P ae 3 q8) λq9=>
 ab (aW P .add 3 true q9 (.int .i64 1)) λAV=>
 ab (b5 Y) λiy=>
 ab (aE P 63 iy 1) λqh=>
 a7 ae (aQ P ae 3 qh AV) λam=>
 aO am (G 157 [Y] am) λNJ aB=>
 dv aB (dK P (aB).next 96 1 [(0,NJ)]) λwx aG=>
 ab (aE P 57 ay 3) λuT=>
 ab (aj P aG 3 uT) λoI=>
 ab (cO P 103 [(0,(.int .i64 10)),(4,wx),(5,oI)]) λNK=>
 a7 aG (aQ P aG 103 an NK) λaP=>
 bif ((cj (aj P am 3 uT) oI&&(cj (aj P aB 3 uT) oI&&(cj (aj P aG 3 uT) oI&&true)))&&true) then(ab (aj P aP 103 an) λr=>
 some (r,aP)) else none
def kW(G:av)(Y:I)(am:J)(ay an:I):O:=
 ab (b5 Y) λAX=>
 ab (aE P 63 AX 1) λNL=>
 ab (aj P am 3 NL) λqi=>
 ab (aW P .add 3 true qi (.int .i64 1)) λFM=>
 ab (b5 Y) λr4=>
 ab (aE P 63 r4 1) λAh=>
 a7 am (aQ P am 3 Ah FM) λaB=>
 aO aB (G 83 [Y,(.str [40])] aB) λCL aG=>
 aO aG (G 85 [Y,(.str [41])] aG) λr5 aP=>
 ab (aE P 57 ay 3) λMA=>
 ab (aj P aP 3 MA) λAi=>
 ab (cO P 103 [(0,(.int .i64 11)),(5,Ai)]) λEQ=>
 a7 aP (aQ P aP 103 an EQ) λbq=>
 ab (aj P bq 103 an) λr=>
 some (r,bq)
def ky(G:av)(aB:J)(Y an:I):O:=
 aO aB (G 157 [Y] aB) λH3 aG=>
 a7 aG (aQ P aG 103 an H3) λaP=>
 ab (aj P aP 103 an) λr=>
 some (r,aP)
def kX(G:av)(Y an ay:I)(aB:J):O:=
 tI G Y an ay aB
def kz(G:av)(Y an:I)(ay ET:I)(aB:J):O:=
 bO (some ET) (ky G aB Y an) (kX G Y an ay aB)
def kY(G:av)(am:J)(Y an ay:I):O:=
 aO am (G 27 [Y,(.str [40])] am) (kz G Y an ay)
def kA(G:av)(Y ay:I)(an FL:I)(am:J):O:=
 bO (some FL) (kW G Y am ay an) (kY G am Y an ay)
def kZ(G:av)(ae:J)(Y ay an:I):O:=
 aO ae (G 27 [Y,(.str [114,101,97,100])] ae) (kA G Y ay an)
def kB(G:av)(Y ay:I)(an AU:I)(ae:J):O:=
 bO (some AU) (ld G Y ae ay an) (kZ G ae Y ay an)
def k0(G:av)(aa:J)(Y ay an:I):O:=
 aO aa (G 27 [Y,(.str [108,101,110])] aa) (kB G Y ay an)
def kC(G:av)(Y ay:I)(an nM:I)(aa:J):O:=
 bO (some nM) (lb G Y aa ay an) (k0 G aa Y ay an)
def k1(G:av)(U:J)(Y ay an:I):O:=
 aO U (G 27 [Y,(.str [110,101,119])] U) (kC G Y ay an)
def kD(G:av)(Y ay:I)(an h6:I)(U:J):O:=
 bO (some h6) (la G Y U ay an) (k1 G U Y ay an)
def kE(G:av)(H:J)(Y ay an:I):O:=
 aO H (G 27 [Y,(.str [110,117,108,108])] H) (kD G Y ay an)
def w7(G:av)(Y an:I)(ay dT:I)(H:J):O:=
 bO (some dT) (k_ G Y H ay an) (kE G H Y ay an)
theorem aci(G:av)(N:Nat): ∀R H,cw P G N (Code.snd (Code.snd (Code.snd (Code.fst (Code.fst (Code.snd (Code.snd (c6 Tryz.f146)))))))) (λR H=>tI G (R 0) (R 2) (R 3) H) [(0,(λR H=>tI G (R 0) (R 2) (R 3) H))] (bY Tryz.f146) R H=w7 G (R 0) (R 2) (R 3) (R 28) H:=by
 refine dj ((qw ad ((bk ad ((bk ad ((bk ad (acj G N) (aL _))) (aL _))) (aL _))) (aL _))) λR H=> ?_
 delta w7 kE kD k1 kC k0 kB kZ kA kY kz kX ky kW ld lb la k_;generalize tI G=a1;generalize y4 G=l8;revert a1 l8;refine id ?_;intro a1 l8;kernel_rfl
def k2(G:av)(Y an:I)(ay cF:I)(bJ:J):O:=
 w7 G Y an ay cF bJ
def kF(G:av)(Y an:I)(ay dy:I)(co:J):O:=
 w7 G Y an ay dy co
def k3(G:av)(bJ:J)(Y an ay:I):O:=
 aO bJ (G 27 [Y,(.str [102,97,108,115,101])] bJ) (kF G Y an ay)
def kG(G:av)(Y an:I)(ay cF:I)(bJ:J):O:=
 bO (some cF) (k2 G Y an ay cF bJ) (k3 G bJ Y an ay)
def kH(G:av)(bq:J)(Y an ay:I):O:=
 aO bq (G 27 [Y,(.str [116,114,117,101])] bq) (kG G Y an ay)
def kd(G:av)(Y:I)(bq:J)(ay an bW:I):O:=
 bO (some bW) (k9 Y bq ay an) (kH G bq Y an ay)
def ke(G:av)(cq Y:I)(ay an bT:I)(bq:J):O:=
 ab (cX cq (some bT) (some (.bool false))) (kd G Y bq ay an)
def kf(G:av)(cq Y:I)(ay an b6:I)(aP:J):O:=
 aD cq true aP (bh (aW P .eql 3 true b6 (.int .i64 2))) (ke G cq Y ay an)
def kg(G:av)(cq Y:I)(ay an cb:I)(aG:J):O:=
 aD cq true aG (qr (aj P aG 3 cb)) (kf G cq Y ay an)
def kh(G:av)(ay Y:I)(an cq:I)(aB:J):O:=
 aD cq true aB (bh (aE P 57 ay 0)) (kg G cq Y ay an)
def k4(G:av)(Y ay an:I)(am:J):O:=
 aO am (G 25 [Y] am) (kh G ay Y an)
def k5(G:av)(bx Y:I)(an ay:I)(ae:J):O:=
 a7 ae (aQ P ae 57 ay bx) (k4 G Y ay an)
def k6(G:av)(Y an bx:I)(aa:J):O:=
 cy aa [(.int .i64 0),(.str []),(.int .i64 0),(.int .i64 0)] (k5 G bx Y an)
def k7(G:av)(Y an:I)(U:J):O:=
 aO U (G 26 [Y] U) (k6 G Y an)
def kM(G:av)(Y:I)(H:J):O:=
 cy H [(.int .i64 0),(.int .i64 0),(.str []),(.str []),(.int .i64 0),I.ap,(.int .i64 0),(.int .i64 0),(.int .i64 0),(.int .i64 0),(.int .i64 0)] (k7 G Y)
theorem agH(G:av)(N:Nat)(Y:I)(H:J):bn Tryz.f146 G N (cB [Y]) H=kM G Y H:=by
 refine cL (A:=bn Tryz.f146 G N) ((bk ad ((bk ad ((bk ad (ach G N) ((fy ad ((bk ad ((qw ad (aL _) ((bk ad (aci G N) (aL _))))) (aL _))))))) (aL _))) (aL _))) ?_;delta kM k7 k6 k5 k4 kh kg kf ke kd kH kG k3 kF k2 k9;generalize w7 G=a1;revert a1;refine id ?_;intro a1;kernel_rfl
theorem aie(N:Nat){Y:I}{H:J}{r:I×J}(h:kM (aq P ao) Y H=some r):aq P ao 146 [Y] H=some r:=
 cQ ad Tryz.func146 ad ad ad ((agH (aq P ao) N Y H).trans h)
def ux(G:av)(Y ai:I)(H:J):O:=
 cy H [(.int .i64 0),(.int .i64 0),(.str []),(.str []),(.int .i64 0),I.ap,(.int .i64 0),(.int .i64 0),(.int .i64 0),(.int .i64 0),(.int .i64 0)] λba U=>
 aO U (G 27 [Y,(.str [91])] U) λbx aa=>
 ab (eY .not bx) λbS=>
 bO (some bS) (aO aa (G 59 [Y] aa) λcq ae=>
 ab (cO P 43 [(0,cq)]) λb1=>
 ab (cO P 103 [(0,(.int .i64 8)),(3,b1),(5,ai)]) λb6=>
 a7 ae (aQ P ae 103 ba b6) λam=>
 ab (aj P am 103 ba) λr=>
 some (r,am)) (ab (b5 Y) λbW=>
 ab (aE P 63 bW 1) λbG=>
 ab (aj P aa 3 bG) λcc=>
 ab (aW P .add 3 true cc (.int .i64 1)) λcK=>
 ab (b5 Y) λcM=>
 ab (aE P 63 cM 1) λcA=>
 a7 aa (aQ P aa 3 cA cK) λae=>
 aO ae (G 60 [Y] ae) λcz am=>
 cy am [(.str []),(.int .i64 0)] λbb aB=>
 a7 aB (aQ P aB 43 bb cz) λaG=>
 aO aG (G 31 [Y,(.str [93])] aG) λc1 aP=>
 aO aP (G 157 [Y] aP) λdc bq=>
 ab (aj P bq 43 bb) λdn=>
 dv bq (dK P (bq).next 96 1 [(0,dc)]) λdT bJ=>
 ab (cO P 103 [(0,(.int .i64 9)),(3,dn),(4,dT),(5,ai)]) λcF=>
 a7 bJ (aQ P bJ 103 ba cF) λco=>
 bif ((cj (aj P aP 43 bb) dn&&(cj (aj P bq 43 bb) dn&&(cj (aj P bJ 43 bb) dn&&true)))&&true) then(ab (aj P co 103 ba) λr=>
 some (r,co)) else none)
theorem agL(G:av)(N:Nat)(Y:I)(ai:I)(H:J):bn Tryz.f156 G N (cB [Y,ai]) H=ux G Y ai H:=by
 refine cL (A:=bn Tryz.f156 G N) (aL _) ?_;delta ux;kernel_rfl
theorem aii(N:Nat){Y ai:I}{H:J}{r:I×J}(h:ux (aq P ao) Y ai H=some r):aq P ao 156 [Y,ai] H=some r:=
 cQ ad Tryz.func156 ad ad ad ((agL (aq P ao) N Y ai H).trans h)
def od(G:av)(N:Nat)(Y ay:I)(H:J):O:=
 aO H (G 85 [Y,(.str [41])] H) λcF U=>
 some (ay,U)
theorem acm(G:av)(N:Nat): ∀R H,cw P G N (Code.snd (Code.snd (Code.snd (Code.snd (Code.snd (Code.snd (c6 Tryz.f158))))))) (bY Tryz.f158) [] (bY Tryz.f158) R H=od G N (R 0) (R 3) H:=by
 refine dj (aL _) λR H=> ?_
 delta od;kernel_rfl
def y5(G:av)(N:Nat)(bD:I->I->J->O)(Y ay:I)(H:J):O:=
 aO H (G 27 [Y,(.str [44])] H) λbG U=>
 bO (some bG) (ab (b5 Y) λcK=>
 ab (aE P 63 cK 1) λcM=>
 ab (aj P U 3 cM) λcA=>
 ab (aW P .add 3 true cA (.int .i64 1)) λcx=>
 ab (b5 Y) λcz=>
 ab (aE P 63 cz 1) λcH=>
 a7 U (aQ P U 3 cH cx) λaa=>
 aO aa (G 109 [Y,(.int .i64 0)] aa) λdt ae=>
 dv ae (dK P (ae).next 96 1 [(0,dt)]) λdc am=>
 aO am (fQ P am [96,96] ay dc) λdT aB=>
 bD Y dT aB) (od G N Y ay U)
def y6(G:av)(N:Nat):Nat->I->I->J->O
 |0,_,_,_=>none
 |n+1,Y,ay,H=>y5 G N (y6 G N n) Y ay H
theorem acl(G:av)(N:Nat)(bD:I->I->J->O): ∀R H,cw P G N (Code.fst (Code.fst (Code.fst (Code.snd (Code.snd (Code.snd (Code.snd (Code.snd (c6 Tryz.f158))))))))) (λR H=>bD (R 0) (R 3) H) [(0,(λR H=>od G N (R 0) (R 3) H))] (bY Tryz.f158) R H=y5 G N bD (R 0) (R 3) H:=by
 refine dj (aL _) λR H=> ?_
 delta y5;generalize od G N=a1;revert a1;refine id ?_;intro a1;kernel_rfl
def o4(G:av)(N:Nat)(Y:I)(H:J):O:=
 aO H (G 83 [Y,(.str [40])] H) λbb U=>
 aO U (G 27 [Y,(.str [41])] U) λbx aa=>
 bO (some bx) (aO aa (G 85 [Y,(.str [41])] aa) λbE ae=>
 some (I.ap,ae)) (aO aa (G 109 [Y,(.int .i64 0)] aa) λcb ae=>
 dv ae (dK P (ae).next 96 1 [(0,cb)]) λb6 am=>
 aO am (fQ P am [96,96] I.ap b6) λbT aB=>
 y6 G N N Y bT aB)
theorem agN(G:av)(N:Nat)(Y:I)(H:J):bn Tryz.f158 G N (cB [Y]) H=o4 G N Y H:=by
 refine cL (A:=bn Tryz.f158 G N) ((bk ad ((bk ad ((bk ad ((bk ad ((bk ad ((bk ad (acm G N) ((fy ad ((gg (k:=λm R H=>y6 G N m (R 0) (R 3) H) ad (λR H=>ad) (λm=>acl G N (y6 G N m)))))))) (aL _))) (aL _))) (aL _))) (aL _))) (aL _))) ?_;delta o4;generalize y6 G N N=a1;revert a1;refine id ?_;intro a1;kernel_rfl
theorem aik(N:Nat){Y:I}{H:J}{r:I×J}(h:o4 (aq P ao) N Y H=some r):aq P ao 158 [Y] H=some r:=
 cQ ad Tryz.func158 ad ad ad ((agN (aq P ao) N Y H).trans h)
end
end
section
def c7(H:J)(r:Nat)(ak:I)(s:aA):Prop:=H.get r=some (.row false 5 [[ak,.int .i64 s.at_,.int .i64 s.bR,.int .i64 s.aC,.int .i64 s.cv]])
structure c_(H:J)(r:Nat)(T:List Tok)(ak:I)(s:aA):Prop where
 rd:c7 H r ak s
 cf:ih H ak T
theorem c7.aK{H H':J}{r:Nat}{ak:I}{s:aA}(a8:c7 H r ak s)(p:aR H H'):c7 H' r ak s:=p.get a8
theorem c7.lt{H:J}{r:Nat}{ak:I}{s:aA}(a8:c7 H r ak s):r<H.next:=J.aX a8
theorem c_.mut{H H':J}{r:Nat}{T:List Tok}{ak:I}{s s':aA}(h:c_ H r T ak s)(m:cC r H H')(bd:c7 H' r ak s'):c_ H' r T ak s':=
 ⟨bd,h.cf.bo λl ro els e=>m.get e (by
  rintro rfl;rw[h.rd] at e;simp only[bF,dY.row.injEq] at e;omega)⟩
theorem c_.aK{H H':J}{r:Nat}{T:List Tok}{ak:I}{s:aA}(h:c_ H r T ak s)(p:aR H H'):c_ H' r T ak s:=h.mut (p.mut _) (h.rd.aK p)
theorem h5{H:J}{r:Nat}{ak:I}{s:aA}(a8:c7 H r ak s)(s':aA):cC r H (H.set r (.row false 5 [[ak,.int .i64 s'.at_,.int .i64 s'.bR,.int .i64 s'.aC,.int .i64 s'.cv]]))/\c7 (H.set r (.row false 5 [[ak,.int .i64 s'.at_,.int .i64 s'.bR,.int .i64 s'.aC,.int .i64 s'.cv]])) r ak s':=
 ⟨dC.db (S:=(· =r)) (dC.refl _ _) (.inl rfl) _,J.get_set_same a8.lt⟩
theorem nV{H:J}{r:Nat}{ak:I}{s:aA}{T:List Tok}(a8:c7 H r ak s)(bz:ih H ak T):W (aq P ao 26 [.ptr r 0 0] H) λv H'=>v=(ar T s.at_).v/\aR H H':=by
 unfold c7 at a8;have az:=J.aX a8;refine cP (λ_=>akY 0) ?_;by_cases aY:s.at_<0
 ·simp-implicitDefEqProofs(disch:=try exact af) only[AL,bg,bL,Nat.reduceAdd,Nat.reduceLeDiff,reduceIte,I.cells,eF,fu,aj,dx,aQ,dx,ee,dB,BO,BP,a8,aY,decide_true,a_];exact⟨by simp[ar,aY,Tok.v,Tok.none],aR.push _ _⟩
 ·rcases bz with⟨rfl,rfl⟩|⟨l,i,cap,rfl,jI⟩
  ·have U:(0:Int)<=s.at_:=Z;simp-implicitDefEqProofs(disch:=try exact af) only[AL,bg,bL,Nat.reduceAdd,Nat.reduceLeDiff,reduceIte,I.cells,eF,fu,aj,dx,aQ,dx,ee,dB,BO,BP,a8,aY,U,decide_true,decide_false,a_,Eh];exact⟨by simp[ar,aY,Tok.v,Tok.none,U],aR.push _ _⟩
  ·by_cases U:(T.length:Int)<=s.at_
   ·simp-implicitDefEqProofs(disch:=try exact af) only[AL,bg,bL,Nat.reduceAdd,Nat.reduceLeDiff,reduceIte,I.cells,eF,fu,aj,dx,aQ,dx,ee,dB,BO,BP,a8,aY,U,decide_true,decide_false,a_,xT];exact⟨by simp[ar,aY,Tok.v,Tok.none,U],aR.push _ _⟩
   ·have et:s.at_.toNat<T.length:=Z;obtain⟨ro,els,aa,ae⟩:=jI.resolve_left (by rintro rfl;simp at et);have l1:=J.aX aa;have am:=ae s.at_.toNat T[s.at_.toNat] (by simp[et]);simp only[Tok.cells] at am;simp-implicitDefEqProofs(disch:=try exact af) only[AL,bg,bL,Nat.reduceAdd,Nat.reduceLeDiff,reduceIte,I.cells,eF,fu,aj,dx,aQ,dx,ee,dB,BO,BP,a8,aY,U,decide_true,decide_false,a_,xT,Ey,aa,am];refine⟨?_,aR.push _ _⟩;simp[ar,aY,U,Tok.v,et]
theorem tB{H:J}{r:Nat}{ak:I}{s:aA}(a8:c7 H r ak s):W (aq P ao 25 [.ptr r 0 0] H) λv H'=>v= .bool (s.aC==0)/\H'=H:=by
 unfold c7 at a8;refine cP (λ_=>akX 0) ?_;simp-implicitDefEqProofs(disch:=try exact af) only[ID,reduceAdd,reduceLeDiff,reduceIte,aw,a8];exact a_.2 ⟨rfl,rfl⟩
theorem sw{H:J}{r:Nat}{T:List Tok}{ak:I}{s:aA}(ag:c_ H r T ak s)(e:Int):W (aq P ao 28 [.ptr r 0 0,.int .i64 e] H) λv H'=>v= .tuple []/\cC r H H'/\c_ H' r T ak (cS T e s):=by
 refine cP (λ_=>ak0 0) ?_;have a8:=ag.rd;have de:=ag.cf.one;rw[AM];refine a6 (tB a8) ?_;rintro _ H1 ⟨rfl,rfl⟩;refine⟨bN _,?_⟩;by_cases U:s.aC=0
 ·rw[show cS T e s={s with aC:=e,cv:=(ar T s.at_).pos} by simp[cS,U]];simp-implicitDefEqProofs(disch:=try exact af) only[AM,bg,bL,U,beq_self_eq_true];refine a6 (nV a8 ag.cf) ?_;rintro _ bm ⟨rfl,aJ⟩;refine⟨aJ.1,?_⟩;have cI:c7 bm r ak s:=a8.aK aJ;have fM:=cI;unfold c7 at fM;simp-implicitDefEqProofs(disch:=try exact af) only[AM,reduceAdd,reduceLeDiff,reduceIte,aw,Tok.v,fM,de];obtain⟨m,bd⟩:=h5 cI {s with aC:=e,cv:=(ar T s.at_).pos};exact a_.2 ⟨rfl,(aJ.mut _).trans m,ag.mut ((aJ.mut _).trans m) bd⟩
 ·have ft:(s.aC==0)=false:=by simpa using U
  rw[show cS T e s=s by simp[cS,U]];simp-implicitDefEqProofs(disch:=try exact af) only[AM,bg,bL,ft];exact a_.2 ⟨rfl,dC.refl _ _,ag⟩
theorem Nu(s:bl)(c:UInt8):h1 P 9 (.str (c::s)) (.int .i64 0)=some (.int .u8 c.toNat):=ad
theorem KX{H0 H:J}{r:Nat}{T:List Tok}{ak:I}{s:aA}(p:aR H0 H)(cp:c7 H r ak s){b:Nat}(ax:H.get b=some (.row false 4 [[.int .i64 (ar T s.at_).kind,.str (ar T s.at_).text,.int .i64 (ar T s.at_).n,.int .i64 (ar T s.at_).pos]]))(x:bl)(k:Int):
  W (zo (aq P ao) (.ptr r 0 0) (.str x) (.ptr b 0 0) (.int .i64 k) H) λv H'=>v= .bool (b7 T s k x)/\aR H0 H':=by
 rw[zo];refine a6 (tB cp) ?_;rintro _ H1 ⟨rfl,rfl⟩;refine⟨bN _,?_⟩;by_cases U:s.aC=0
 ·by_cases aa:(ar T s.at_).kind=k
  ·simp-implicitDefEqProofs(disch:=try exact af) only[uN,reduceAdd,reduceLeDiff,reduceIte,aw,U,aa,ax,beq_self_eq_true];exact a_.2 ⟨by simp[b7,U,aa],p⟩
  ·have hq:((ar T s.at_).kind==k)=false:=by simpa using aa
   simp-implicitDefEqProofs(disch:=try exact af) only[uN,reduceAdd,reduceLeDiff,reduceIte,aw,U,hq,ax,beq_self_eq_true];exact a_.2 ⟨by simp[b7,U,aa],p⟩
 ·have ft:(s.aC==0)=false:=by simpa using U
  simp-implicitDefEqProofs(disch:=try exact af) only[uN,reduceAdd,reduceLeDiff,reduceIte,aw,ft,ax];exact a_.2 ⟨by simp[b7,U],p⟩
theorem gO{H:J}{r:Nat}{T:List Tok}{ak:I}{s:aA}(a8:c7 H r ak s)(bz:ih H ak T)(x:bl)(ag:x≠[]):W (aq P ao 27 [.ptr r 0 0,.str x] H) λv H'=>v= .bool (cd T s x)/\aR H H':=by
 refine cP (λ_=>akZ 0) ?_;obtain⟨c,x,rfl⟩: ∃c y,x=c::y:=by cases x with
  |nil=>exact absurd rfl ag
  |cons c y=>exact⟨c,y,rfl⟩
 rw[uN];refine a6 (nV a8 bz) ?_;rintro _ H1 ⟨rfl,aV⟩;refine⟨aV.1,?_⟩;have aJ:=aV.bX (.row false 4 [[.int .i64 (ar T s.at_).kind,.str (ar T s.at_).text,.int .i64 (ar T s.at_).n,.int .i64 (ar T s.at_).pos]]);have ax:=J.ca H1 (.row false 4 [[.int .i64 (ar T s.at_).kind,.str (ar T s.at_).text,.int .i64 (ar T s.at_).n,.int .i64 (ar T s.at_).pos]]);by_cases U:97<=c.toNat
 ·have ft:(97:Int)<=(c.toNat:Int):=Z;by_cases aa:c.toNat<=122
  ·have hq:(c.toNat:Int)<=122:=Z;rw[show cd T s (c::x)=b7 T s 3 (c::x) by simp[cd,kw,U,aa]];simp-implicitDefEqProofs(disch:=try exact af) only[uN,reduceAdd,reduceLeDiff,reduceIte,aw,Tok.v,Nu,ft,hq,decide_true];exact KX aJ (a8.aK aJ) ax _ 3
  ·have hq: ¬(c.toNat:Int)<=122:=Z;rw[show cd T s (c::x)=b7 T s 4 (c::x) by simp[cd,kw,U,aa]];simp-implicitDefEqProofs(disch:=try exact af) only[uN,reduceAdd,reduceLeDiff,reduceIte,aw,Tok.v,Nu,ft,hq,decide_true,decide_false];exact KX aJ (a8.aK aJ) ax _ 4
 ·have ft: ¬(97:Int)<=(c.toNat:Int):=Z;rw[show cd T s (c::x)=b7 T s 4 (c::x) by simp[cd,kw,U]];simp-implicitDefEqProofs(disch:=try exact af) only[uN,reduceAdd,reduceLeDiff,reduceIte,aw,Tok.v,Nu,ft,decide_false];exact KX aJ (a8.aK aJ) ax _ 4
theorem lA{H:J}{r:Nat}{T:List Tok}{ak:I}{s:aA}(ag:c_ H r T ak s)(x:bl)(dM:x≠[]):W (aq P ao 31 [.ptr r 0 0,.str x] H) λv H'=>v= .tuple []/\cC r H H'/\c_ H' r T ak (cr T x s):=by
 refine cP (λ_=>ak3 0) ?_;have de:=ag.cf.one;rw[AN];refine a6 (gO ag.rd ag.cf x dM) ?_;rintro _ H1 ⟨rfl,aV⟩;refine⟨aV.1,?_⟩;have cI:=ag.rd.aK aV;have fM:=cI;unfold c7 at fM;cases ax:cd T s x with
 |false=>
  rw[show cr T x s=cS T 2 s by simp[cr,ax]];simp-implicitDefEqProofs(disch:=try exact af) only[AN,reduceAdd,reduceLeDiff,reduceIte,aw,Bool.not_false];refine a6 (sw (ag.aK aV) 2) ?_;rintro _ bm ⟨rfl,m2,cJ⟩;refine⟨m2.1,?_⟩
  try simp only[AN]
  exact a_.2 ⟨rfl,(aV.mut _).trans m2,cJ⟩
 |true=>
  rw[show cr T x s=aF s by simp[cr,ax]];simp-implicitDefEqProofs(disch:=try exact af) only[AN,reduceAdd,reduceLeDiff,reduceIte,aw,fM,de,Bool.not_true];obtain⟨m,bd⟩:=h5 cI (aF s);exact a_.2 ⟨rfl,(aV.mut _).trans m,ag.mut ((aV.mut _).trans m) bd⟩
theorem Bo{H:J}{r:Nat}{T:List Tok}{ak:I}{s:aA}(ag:c_ H r T ak s)(x:bl)(dM:x≠[]):W (aq P ao 83 [.ptr r 0 0,.str x] H) λv H'=>v= .tuple []/\cC r H H'/\c_ H' r T ak (eT T x s):=by
 refine cP (λ_=>alO 0) ?_;have de:=ag.cf.one;rw[wu];refine a6 (gO ag.rd ag.cf x dM) ?_;rintro _ H1 ⟨rfl,aV⟩;refine⟨aV.1,?_⟩;have du:=ag.aK aV;have fM:=du.rd;unfold c7 at fM;have more:eT T x s=iK (cr T x s)->W (aO H1 (aq P ao 31 [.ptr r 0 0,.str x] H1) (Hq (.ptr r 0 0))) λv H'=>v= .tuple []/\cC r H H'/\c_ H' r T ak (eT T x s):=by
  intro he;rw[he];refine a6 (lA du x dM) ?_;rintro _ bm ⟨rfl,m2,cJ⟩;refine⟨m2.1,?_⟩;have mZ:=cJ.rd;have xR:=mZ;unfold c7 at xR;simp-implicitDefEqProofs(disch:=try exact af) only[Hq,wu,reduceAdd,reduceLeDiff,reduceIte,aw,xR,de];obtain⟨m,bd⟩:=h5 mZ (iK (cr T x s));exact a_.2 ⟨rfl,((aV.mut _).trans m2).trans m,ag.mut (((aV.mut _).trans m2).trans m) bd⟩
 cases ax:cd T s x with
 |false=>
  simp-implicitDefEqProofs(disch:=try exact af) only[wu,reduceAdd,reduceLeDiff,reduceIte,aw];exact more (by simp[eT,ax])
 |true=>
  by_cases bt:50<=s.bR
  ·rw[show eT T x s=cS T 4 s by simp[eT,ax,bt]];simp-implicitDefEqProofs(disch:=try exact af) only[wu,reduceAdd,reduceLeDiff,reduceIte,aw,fM,bt,decide_true];refine a6 (sw du 4) ?_;rintro _ bm ⟨rfl,m2,cJ⟩;refine⟨m2.1,?_⟩
   try simp only[wu]
   exact a_.2 ⟨rfl,(aV.mut _).trans m2,cJ⟩
  ·simp-implicitDefEqProofs(disch:=try exact af) only[wu,reduceAdd,reduceLeDiff,reduceIte,aw,fM,bt,decide_false];exact more (by simp[eT,ax,bt])
theorem Bg{H:J}{r:Nat}{T:List Tok}{ak:I}{s:aA}(ag:c_ H r T ak s)(x:bl)(dM:x≠[]):W (aq P ao 85 [.ptr r 0 0,.str x] H) λv H'=>v= .tuple []/\cC r H H'/\c_ H' r T ak (gp T x s):=by
 refine cP (λ_=>alQ 0) ?_;have de:=ag.cf.one;rw[FG];refine a6 (lA ag x dM) ?_;rintro _ bm ⟨rfl,m2,cJ⟩;refine⟨m2.1,?_⟩;have mZ:=cJ.rd;have xR:=mZ;unfold c7 at xR;simp-implicitDefEqProofs(disch:=try exact af) only[FG,reduceAdd,reduceLeDiff,reduceIte,aw,xR,de];obtain⟨m,bd⟩:=h5 mZ (ga (cr T x s));exact a_.2 ⟨rfl,m2.trans m,ag.mut (m2.trans m) bd⟩
theorem wJ{H:J}{r:Nat}{T:List Tok}{ak:I}{s:aA}(ag:c_ H r T ak s):W (aq P ao 59 [.ptr r 0 0] H) λv H'=>v= .str (dk T s).1/\cC r H H'/\c_ H' r T ak (dk T s).2:=by
 refine cP (λ_=>als 0) ?_;have de:=ag.cf.one;have az:=ag.rd.lt;rw[wt];refine a6 (nV ag.rd ag.cf) ?_;rintro _ H1 ⟨rfl,aV⟩;refine⟨aV.1,?_⟩;have aJ:=aV.bX (.row false 4 [[.int .i64 (ar T s.at_).kind,.str (ar T s.at_).text,.int .i64 (ar T s.at_).n,.int .i64 (ar T s.at_).pos]]);have ax:=J.ca H1 (.row false 4 [[.int .i64 (ar T s.at_).kind,.str (ar T s.at_).text,.int .i64 (ar T s.at_).n,.int .i64 (ar T s.at_).pos]]);simp-implicitDefEqProofs(disch:=try exact af) only[B4,wt,reduceAdd,reduceLeDiff,reduceIte,aw,Tok.v];have cJ:=ag.aK aJ;refine a6 (tB cJ.rd) ?_;rintro _ cT ⟨rfl,rfl⟩;refine⟨bN _,?_⟩;have C1:=aV.1
 have fM:=ag.rd.aK aV;unfold c7 at fM;have Zn:dk T s=([],cS T 2 s)->W (aO (H1.push (.row false 4 [[.int .i64 (ar T s.at_).kind,.str (ar T s.at_).text,.int .i64 (ar T s.at_).n,.int .i64 (ar T s.at_).pos]])) (aq P ao 28 [.ptr r 0 0,.int .i64 2] (H1.push (.row false 4 [[.int .i64 (ar T s.at_).kind,.str (ar T s.at_).text,.int .i64 (ar T s.at_).n,.int .i64 (ar T s.at_).pos]]))) B4) λv H'=>v= .str (dk T s).1/\cC r H H'/\c_ H' r T ak (dk T s).2:=by
  intro he;rw[he];refine a6 (sw cJ 2) ?_;rintro _ ct ⟨rfl,m4,fa⟩;refine⟨m4.1,?_⟩
  try simp only[B4,wt]
  exact a_.2 ⟨rfl,(aJ.mut _).trans m4,fa⟩
 by_cases U:s.aC=0
 ·by_cases aa:(ar T s.at_).kind=1
  ·have ft:(s.aC==0)=true:=by simpa using U
   have hq:((ar T s.at_).kind==1)=true:=by simpa using aa
   rw[show dk T s=((ar T s.at_).text,aF s) by simp[dk,U,aa]];simp-implicitDefEqProofs(disch:=try exact af) only[B4,wt,reduceAdd,reduceLeDiff,reduceIte,aw,ft,hq,fM,de];obtain⟨m,bd⟩:=h5 cJ.rd (aF s);exact a_.2 ⟨rfl,(aJ.mut _).trans m,ag.mut ((aJ.mut _).trans m) bd⟩
  ·have hq:((ar T s.at_).kind==1)=false:=by simpa using aa
   simp-implicitDefEqProofs(disch:=try exact af) only[wt,reduceAdd,reduceLeDiff,reduceIte,aw,U,hq,beq_self_eq_true];exact Zn (by simp[dk,hq])
 ·have ft:(s.aC==0)=false:=by simpa using U
  simp-implicitDefEqProofs(disch:=try exact af) only[wt,reduceAdd,reduceLeDiff,reduceIte,aw,ft];exact Zn (by simp[dk,ft])
end
section
theorem ahe(l:Nat)(eG fA gS h7 tu:Nat):dK P l 163 5 [(0,.aN eG 0 1 1 (some 1)),(1,.aN fA 0 1 1 (some 1)),(2,.aN gS 0 4 1 (some 4)),(3,.aN h7 0 2 1 (some 2)),(4,.aN tu 0 3 1 (some 3))]=
 some (.aN l 0 5 1 (some 5),.row false 1 [[.aN eG 0 1 1 (some 1)],[.aN fA 0 1 1 (some 1)],[.aN gS 0 4 1 (some 4)],[.aN h7 0 2 1 (some 2)],[.aN tu 0 3 1 (some 3)]]):=ad
theorem ahf(l:Nat)(eG fA gS h7 tu:Nat):dK P l 164 5 [(0,.aN eG 0 1 1 (some 1)),(1,.aN fA 0 1 1 (some 1)),(2,.aN gS 0 4 1 (some 4)),(3,.aN h7 0 2 1 (some 2)),(4,.aN tu 0 3 1 (some 3))]=
 some (.aN l 0 5 1 (some 5),.row false 1 [[.aN eG 0 1 1 (some 1)],[.aN fA 0 1 1 (some 1)],[.aN gS 0 4 1 (some 4)],[.aN h7 0 2 1 (some 2)],[.aN tu 0 3 1 (some 3)]]):=ad
theorem abH{H0 H:J}(en:aR H0 H){b S K yw yv:Nat}{t:Tok}(ax:H.get b=some (.row false 4 [[.int .i64 t.kind,.str t.text,.int .i64 t.n,.int .i64 t.pos]])){ps gN:List (List I)}(FV:H.get S=some (.row false 1 ps))(tq:H.get K=some (.row false 1 gN)){lev:Nat}(oX:lev<5)(all:List (bl×Int))(hS:all.length<=1000){cs FQ:Option Nat}
  (aM:ps[lev]? =some [.aN yw 0 all.length 1 cs]) (ah:gN[lev]? =some [.aN yv 0 all.length 1 FQ]) (Yf:H.get yw=some (.row false 1 (all.map λp=>[I.str p.1]))) (anY:H.get yv=some (.row false 1 (all.map λp=>[I.int .i64 p.2]))) (N:Nat):
  ∀(rest pre:List (bl×Int)),all=pre++rest-> ∀(n:Nat),rest.length<n->
   W (tG (aq P ao) N n (.int .i64 lev) (.ptr b 0 0) (.aN S 0 5 1 (some 5)) (.aN K 0 5 1 (some 5)) (.int .i64 pre.length) H) λv H'=>v= .int .i64 (uv t.text rest)/\aR H0 H':=by
 have aY:(0:Int)<=(lev:Int):=Z;have aB:(lev:Int)<((5:Nat):Int):=Z;have bz:((lev:Int)).toNat=lev:=Z;have i1:dS P 163 (.aN S 0 5 1 (some 5)) (.int .i64 (lev:Int))=some (.ptr S lev 0):=by rw[LK aY aB,bz,Nat.zero_add]
 have i2:dS P 164 (.aN K 0 5 1 (some 5)) (.int .i64 (lev:Int))=some (.ptr K lev 0):=by rw[LL aY aB,bz,Nat.zero_add]
 intro rest
 induction rest with
 |nil=>
  intro pre bw n aU;obtain⟨n,rfl⟩: ∃k,n=k+1:=⟨n-1,by simp at aU;omega⟩;have U: ¬((pre.length:Int)<(all.length:Int)):=by rw[bw];simp
  simp-implicitDefEqProofs(disch:=try exact af) only[tG,tF,yZ,xZ,reduceAdd,reduceLeDiff,reduceIte,aw,EN,EM,i1,FV,aM,U,decide_false];exact a_.2 ⟨rfl,en⟩
 |cons q rest aT=>
  intro pre bw n aU;obtain⟨x,k⟩:=q;obtain⟨n,rfl⟩: ∃k,n=k+1:=⟨n-1,by simp at aU;omega⟩;have U:(pre.length:Int)<(all.length:Int):=by rw[bw];simp;omega
  have YB:(0:Int)<=(pre.length:Int):=Z;have aI:((pre.length:Int)).toNat=pre.length:=Z;have hg:all[pre.length]? =some (x,k):=by rw[bw];simp
  have i3:dS P 48 (.aN yw 0 all.length 1 cs) (.int .i64 (pre.length:Int))=some (.ptr yw pre.length 0):=by rw[Mn YB U,aI,Nat.zero_add]
  have i4:dS P 35 (.aN yv 0 all.length 1 FQ) (.int .i64 (pre.length:Int))=some (.ptr yv pre.length 0):=by rw[Mm YB U,aI,Nat.zero_add]
  have g1:(all.map λp=>[I.str p.1])[pre.length]? =some [.str x]:=by rw[List.getElem?_map,hg];rfl
  have g2:(all.map λp=>[I.int .i64 p.2])[pre.length]? =some [.int .i64 k]:=by rw[List.getElem?_map,hg];rfl
  cases ag:x==t.text with
  |true=>
   simp-implicitDefEqProofs(disch:=try exact af) only[tG,tF,yZ,xZ,reduceAdd,reduceLeDiff,reduceIte,aw,EN,EM,i1,i2,i3,i4,FV,tq,aM,ah,Yf,anY,g1,g2,ax,U,decide_true,ag];exact a_.2 ⟨by simp[uv,ag],en⟩
  |false=>
   have hw:IntKind.i64.wrap ((pre.length:Int)+1)=((pre++[(x,k)]).length:Int):=by
    have et:pre.length<all.length:=Z;rw[wrap_i64 Z Z];simp
   simp-implicitDefEqProofs(disch:=try exact af) only[tG,tF,yZ,xZ,reduceAdd,reduceLeDiff,reduceIte,aw,EN,EM,i1,i3,FV,aM,Yf,g1,ax,U,decide_true,ag,hw];refine(aT (pre++[(x,k)]) (by simp[bw]) n (by simp at aU;omega)).mono ?_;rintro v H' ⟨rfl,q⟩;exact⟨by simp[uv,ag],q⟩
set_option maxHeartbeats 1000000 in
theorem PY{H:J}(lev:Nat)(oX:lev<5)(t:Tok):W (aq P ao 128 [.int .i64 lev,t.v] H) λv H'=>v= .int .i64 (jQ lev t)/\aR H H':=by
 refine cP (λ_=>ah3 10) ?_;have ij: ∀l,eK l t.v=some (.ptr l 0 0,.row false 4 [[.int .i64 t.kind,.str t.text,.int .i64 t.n,.int .i64 t.pos]]):=λl=>h8 l _ rfl
 cases ah:t.kind != 4 with
 |true=>
  simp-implicitDefEqProofs(disch:=try exact af) only[tF,yZ,xZ,reduceAdd,reduceLeDiff,reduceIte,aw,ij,ah];exact a_.2 ⟨by simp[jQ,ah],aR.push _ _⟩
 |false=>
  simp-implicitDefEqProofs(disch:=try exact af) only[tF,xZ,reduceAdd,reduceLeDiff,reduceIte,aw,ij,ah,ahe,ahf];obtain⟨all,rX⟩: ∃all,mS[lev]? =some all:=⟨mS[lev]'(by simpa [mS] using oX),by simp[mS]⟩;have et:all.length<10:=by
   have: ∀a∈mS,a.length<10:=cm;exact this all (List.mem_of_getElem? rX)
  have key: ∀(dR:J),aR H dR->dR.get H.next=some (.row false 4 [[.int .i64 t.kind,.str t.text,.int .i64 t.n,.int .i64 t.pos]])-> ∀(S K yw yv:Nat) (ps gN:List (List I)) (cs FQ:Option Nat),dR.get S=some (.row false 1 ps)->dR.get K=some (.row false 1 gN)->ps[lev]? =some [.aN yw 0 all.length 1 cs]->gN[lev]? =some [.aN yv 0 all.length 1 FQ]->
    dR.get yw=some (.row false 1 (all.map λp=>[I.str p.1]))->dR.get yv=some (.row false 1 (all.map λp=>[I.int .i64 p.2]))->
    W (tG (aq P ao) 10 10 (.int .i64 lev) (.ptr H.next 0 0) (.aN S 0 5 1 (some 5)) (.aN K 0 5 1 (some 5)) (.int .i64 0) dR) λv H'=>v= .int .i64 (jQ lev t)/\aR H H':=by
   intro dR p ax S K yw yv ps gN cs FQ U aa ae am aB aG;refine(abH p ax U aa oX all Z ae am aB aG 10 all [] rfl 10 et).mono ?_;rintro v H' ⟨rfl,q⟩;exact⟨by simp[jQ,ah,rX],q⟩
  have aB:lev=0\/lev=1\/lev=2\/lev=3\/lev=4:=Z;rcases aB with rfl|rfl|rfl|rfl|rfl<;>(simp only[mS,List.getElem?_cons_zero,List.getElem?_cons_succ,bF] at rX;subst rX)
  ·refine key _ ?_ ?_ (H.next+1+1+1+1+1+1) (H.next+1+1+1+1+1+1+1+1+1+1+1+1) (H.next+1) (H.next+1+1+1+1+1+1+1) [[.aN (H.next+1) 0 1 1 (some 1)],[.aN (H.next+1+1) 0 1 1 (some 1)],[.aN (H.next+1+1+1) 0 4 1 (some 4)],[.aN (H.next+1+1+1+1) 0 2 1 (some 2)],[.aN (H.next+1+1+1+1+1) 0 3 1 (some 3)]] [[.aN (H.next+1+1+1+1+1+1+1) 0 1 1 (some 1)],[.aN (H.next+1+1+1+1+1+1+1+1) 0 1 1 (some 1)],[.aN (H.next+1+1+1+1+1+1+1+1+1) 0 4 1 (some 4)],[.aN (H.next+1+1+1+1+1+1+1+1+1+1) 0 2 1 (some 2)],[.aN (H.next+1+1+1+1+1+1+1+1+1+1+1) 0 3 1 (some 3)]] (some 1) (some 1) ?_ ?_ rfl rfl ?_ ?_
   ·exact((((((((((((aR.push H _).bX _).bX _).bX _).bX _).bX _).bX _).bX _).bX _).bX _).bX _).bX _).bX _
   all_goals (simp-implicitDefEqProofs(disch:=try exact af) only[dB];try rfl)
  ·refine key _ ?_ ?_ (H.next+1+1+1+1+1+1) (H.next+1+1+1+1+1+1+1+1+1+1+1+1) (H.next+1+1) (H.next+1+1+1+1+1+1+1+1) [[.aN (H.next+1) 0 1 1 (some 1)],[.aN (H.next+1+1) 0 1 1 (some 1)],[.aN (H.next+1+1+1) 0 4 1 (some 4)],[.aN (H.next+1+1+1+1) 0 2 1 (some 2)],[.aN (H.next+1+1+1+1+1) 0 3 1 (some 3)]] [[.aN (H.next+1+1+1+1+1+1+1) 0 1 1 (some 1)],[.aN (H.next+1+1+1+1+1+1+1+1) 0 1 1 (some 1)],[.aN (H.next+1+1+1+1+1+1+1+1+1) 0 4 1 (some 4)],[.aN (H.next+1+1+1+1+1+1+1+1+1+1) 0 2 1 (some 2)],[.aN (H.next+1+1+1+1+1+1+1+1+1+1+1) 0 3 1 (some 3)]] (some 1) (some 1) ?_ ?_ rfl rfl ?_ ?_
   ·exact((((((((((((aR.push H _).bX _).bX _).bX _).bX _).bX _).bX _).bX _).bX _).bX _).bX _).bX _).bX _
   all_goals (simp-implicitDefEqProofs(disch:=try exact af) only[dB];try rfl)
  ·refine key _ ?_ ?_ (H.next+1+1+1+1+1+1) (H.next+1+1+1+1+1+1+1+1+1+1+1+1) (H.next+1+1+1) (H.next+1+1+1+1+1+1+1+1+1) [[.aN (H.next+1) 0 1 1 (some 1)],[.aN (H.next+1+1) 0 1 1 (some 1)],[.aN (H.next+1+1+1) 0 4 1 (some 4)],[.aN (H.next+1+1+1+1) 0 2 1 (some 2)],[.aN (H.next+1+1+1+1+1) 0 3 1 (some 3)]] [[.aN (H.next+1+1+1+1+1+1+1) 0 1 1 (some 1)],[.aN (H.next+1+1+1+1+1+1+1+1) 0 1 1 (some 1)],[.aN (H.next+1+1+1+1+1+1+1+1+1) 0 4 1 (some 4)],[.aN (H.next+1+1+1+1+1+1+1+1+1+1) 0 2 1 (some 2)],[.aN (H.next+1+1+1+1+1+1+1+1+1+1+1) 0 3 1 (some 3)]] (some 4) (some 4) ?_ ?_ rfl rfl ?_ ?_
   ·exact((((((((((((aR.push H _).bX _).bX _).bX _).bX _).bX _).bX _).bX _).bX _).bX _).bX _).bX _).bX _
   all_goals (simp-implicitDefEqProofs(disch:=try exact af) only[dB];try rfl)
  ·refine key _ ?_ ?_ (H.next+1+1+1+1+1+1) (H.next+1+1+1+1+1+1+1+1+1+1+1+1) (H.next+1+1+1+1) (H.next+1+1+1+1+1+1+1+1+1+1) [[.aN (H.next+1) 0 1 1 (some 1)],[.aN (H.next+1+1) 0 1 1 (some 1)],[.aN (H.next+1+1+1) 0 4 1 (some 4)],[.aN (H.next+1+1+1+1) 0 2 1 (some 2)],[.aN (H.next+1+1+1+1+1) 0 3 1 (some 3)]] [[.aN (H.next+1+1+1+1+1+1+1) 0 1 1 (some 1)],[.aN (H.next+1+1+1+1+1+1+1+1) 0 1 1 (some 1)],[.aN (H.next+1+1+1+1+1+1+1+1+1) 0 4 1 (some 4)],[.aN (H.next+1+1+1+1+1+1+1+1+1+1) 0 2 1 (some 2)],[.aN (H.next+1+1+1+1+1+1+1+1+1+1+1) 0 3 1 (some 3)]] (some 2) (some 2) ?_ ?_ rfl rfl ?_ ?_
   ·exact((((((((((((aR.push H _).bX _).bX _).bX _).bX _).bX _).bX _).bX _).bX _).bX _).bX _).bX _).bX _
   all_goals (simp-implicitDefEqProofs(disch:=try exact af) only[dB];try rfl)
  ·refine key _ ?_ ?_ (H.next+1+1+1+1+1+1) (H.next+1+1+1+1+1+1+1+1+1+1+1+1) (H.next+1+1+1+1+1) (H.next+1+1+1+1+1+1+1+1+1+1+1) [[.aN (H.next+1) 0 1 1 (some 1)],[.aN (H.next+1+1) 0 1 1 (some 1)],[.aN (H.next+1+1+1) 0 4 1 (some 4)],[.aN (H.next+1+1+1+1) 0 2 1 (some 2)],[.aN (H.next+1+1+1+1+1) 0 3 1 (some 3)]] [[.aN (H.next+1+1+1+1+1+1+1) 0 1 1 (some 1)],[.aN (H.next+1+1+1+1+1+1+1+1) 0 1 1 (some 1)],[.aN (H.next+1+1+1+1+1+1+1+1+1) 0 4 1 (some 4)],[.aN (H.next+1+1+1+1+1+1+1+1+1+1) 0 2 1 (some 2)],[.aN (H.next+1+1+1+1+1+1+1+1+1+1+1) 0 3 1 (some 3)]] (some 3) (some 3) ?_ ?_ rfl rfl ?_ ?_
   ·exact((((((((((((aR.push H _).bX _).bX _).bX _).bX _).bX _).bX _).bX _).bX _).bX _).bX _).bX _).bX _
   all_goals (simp-implicitDefEqProofs(disch:=try exact af) only[dB];try rfl)
end
section
theorem KC{r:Nat}{T:List Tok}{ak:I}{H0:J}{s0:aA}(bs:c_ H0 r T ak s0){b t:Nat}(ax:H0.next<=b)(bz:H0.next<=t)(As:b≠t){x:bl}(d:Nat)(bd:d<=1000)(N:Nat):
  ∀(j i:Nat),i+j=d-> ∀(m:Nat) (H:J) (s:aA),j<m->cC r H0 H->c7 H r ak s->H.get b=some (.row false 2 [[.str [],.int .i64 0]])->H.get t=some (.row false 2 [[.str x,.int .i64 d]])->
   W (xm (aq P ao) N m (.ptr r 0 0) (.ptr b 0 0) (.int .i64 d) (.ptr t 0 0) (.int .i64 i) H) λv H'=>v= .agg [.str x,.int .i64 d]/\cC r H0 H'/\c_ H' r T ak (takeN T [93] j s)
 |0,i,be,0,H,s,hm,mt,nG,gF,jS=>Z
 |0,i,be,m+1,H,s,hm,mt,nG,gF,jS=>by
  have U: ¬((i:Int)<(d:Int)):=Z;have iw:=J.aX gF;simp-implicitDefEqProofs(disch:=try exact af) only[xm,kJ,lG,mK,mg,nu,mf,l4,reduceAdd,reduceLeDiff,reduceIte,aw,U,decide_false,gF,jS];exact a_.2 ⟨rfl,mt.db (.inr ax) _,bs.mut (mt.db (.inr ax) _) (by
   have:=bs.rd.lt;unfold c7 at nG ⊢;rw[J.get_set_other Z];exact nG)⟩
 |j+1,i,be,0,H,s,hm,mt,nG,gF,jS=>Z
 |j+1,i,be,m+1,H,s,hm,mt,nG,gF,jS=>by
  have U:((i:Int)<(d:Int)):=Z;have ib:=bs.rd.lt;simp-implicitDefEqProofs(disch:=try exact af) only[xm,kJ,lG,mK,mg,nu,mf,l4,reduceAdd,reduceLeDiff,reduceIte,aw,U,decide_true];refine a6 (lA (bs.mut mt nG) [93] (by simp)) ?_;rintro _ bm ⟨rfl,m2,cJ⟩;refine⟨m2.1,?_⟩;have hw:IntKind.i64.wrap ((i:Int)+1)=((i+1:Nat):Int):=by rw[wrap_i64 Z Z];simp
  simp-implicitDefEqProofs(disch:=try exact af) only[kJ,lG,mK,mg,nu,mf,l4,reduceAdd,reduceLeDiff,reduceIte,aw,hw];refine(KC bs ax bz As d bd N j (i+1) Z m bm _ Z (mt.trans m2) cJ.rd (m2.get gF Z) (m2.get jS Z)).mono ?_;rintro v H' ⟨rfl,cD,cu⟩;exact⟨rfl,cD,cu⟩
theorem Tw{r:Nat}{T:List Tok}{ak:I}{H0:J}{s0:aA}(bs:c_ H0 r T ak s0){b t:Nat}(ax:H0.next<=b)(bz:H0.next<=t)(As:b≠t)(d:Nat)(bd:d<=1000)(N:Nat)(dU:d<N){H:J}{s:aA}(mt:cC r H0 H)(cp:c7 H r ak s)(gF:H.get b=some (.row false 2 [[.str [],.int .i64 0]]))
  (jS:H.get t=some (.row false 2 [[.str [],.int .i64 d]])) {c:Bool} (aS:(cd T s [105,110,116]||cd T s [98,111,111,108])=c):
  W (mg (aq P ao) N (.ptr r 0 0) (.ptr b 0 0) (.int .i64 d) (.ptr t 0 0) (.bool c) H) λv H'=>v= .agg [.str (km T d s).1.1,.int .i64 (km T d s).1.2]/\cC r H0 H'/\c_ H' r T ak (km T d s).2:=by
 have ib:=bs.rd.lt;have iw:=J.aX gF;have et:=J.aX jS;have hle:=mt.1;have ag:=bs.mut mt cp;have de:=ag.cf.one;cases c with
 |true=>
  rw[show km T d s=(((ar T s.at_).text,(d:Int)),takeN T [93] d (aF s)) by simp[km,aS]];simp-implicitDefEqProofs(disch:=try exact af) only[kJ,lG,mg,nu,mf,l4,reduceAdd,reduceLeDiff,reduceIte,aw];refine a6 (nV cp ag.cf) ?_;rintro _ H1 ⟨rfl,aV⟩;refine⟨aV.1,?_⟩;have Et:=aV.get jS;have Me:=J.aX Et;have mY:=cp.aK aV;have Cv:=mY;unfold c7 at Cv;have amP:=mY.lt;simp-implicitDefEqProofs(disch:=try exact af) only[kJ,lG,mg,nu,mf,l4,reduceAdd,reduceLeDiff,reduceIte,aw,Tok.v,Et,Cv,de];simp only[mK];have m2:cC r H0 (H1.set t (.row false 2 [[.str (ar T s.at_).text,.int .i64 d]])):=(mt.trans (aV.mut _)).db (.inr bz) _
  have cI:c7 (H1.set t (.row false 2 [[.str (ar T s.at_).text,.int .i64 d]])) r ak s:=by
   unfold c7;rw[J.get_set_other Z];exact Cv
  obtain⟨m3,lp⟩:=h5 cI (aF s);refine KC bs ax bz As d bd N d 0 Z N _ _ dU (m2.trans m3) lp (m3.get ?_ Z) (m3.get (J.get_set_same Me) Z);rw[J.get_set_other Z];exact aV.get gF
 |false=>
  rw[show km T d s=(((dk T s).1,(d:Int)),takeN T [93] d (dk T s).2) by simp[km,aS]];simp-implicitDefEqProofs(disch:=try exact af) only[kJ,lG,mg,nu,mf,l4,reduceAdd,reduceLeDiff,reduceIte,aw];refine a6 (wJ ag) ?_;rintro _ H1 ⟨rfl,m1,du⟩;refine⟨m1.1,?_⟩;have Et:=m1.get jS Z;have Me:=J.aX Et;simp-implicitDefEqProofs(disch:=try exact af) only[kJ,lG,mg,nu,mf,l4,reduceAdd,reduceLeDiff,reduceIte,aw,Et];simp only[mK];refine KC bs ax bz As d bd N d 0 Z N _ _ dU ((mt.trans m1).db (.inr bz) _) ?_ ?_ (J.get_set_same Me)
  ·have:=du.rd;unfold c7 at this ⊢;rw[J.get_set_other Z];exact this
  ·rw[J.get_set_other Z];exact m1.get gF Z
theorem Tv{r:Nat}{T:List Tok}{ak:I}{H0:J}{s0:aA}(bs:c_ H0 r T ak s0){b:Nat}(ax:H0.next<=b)(d:Nat)(bd:d<=1000)(N:Nat)(dU:d<N){H:J}{s:aA}(mt:cC r H0 H)(cp:c7 H r ak s)(gF:H.get b=some (.row false 2 [[.str [],.int .i64 0]])):
  W (nu (aq P ao) N (.ptr r 0 0) (.ptr b 0 0) (.int .i64 d) H) λv H'=>v= .agg [.str (km T d s).1.1,.int .i64 (km T d s).1.2]/\cC r H0 H'/\c_ H' r T ak (km T d s).2:=by
 have ib:=bs.rd.lt;have iw:=J.aX gF;have hle:=mt.1;have ag:=bs.mut mt cp;simp-implicitDefEqProofs(disch:=try exact af) only[kJ,lG,nu,mf,l4,reduceAdd,reduceLeDiff,reduceIte,aw];have aV:=aR.push H (.row false 2 [[.str [],.int .i64 d]]);have jS:=J.ca H (.row false 2 [[.str [],.int .i64 d]]);refine a6 (gO (cp.aK aV) (ag.cf.aK aV) _ (by simp)) ?_;rintro _ bm ⟨rfl,aJ⟩;refine⟨aJ.1,?_⟩;have bB:=aV.trans aJ;cases be:cd T s [105,110,116] with
 |true=>
  simp-implicitDefEqProofs(disch:=try exact af) only[kJ,lG,nu,mf,l4,reduceAdd,reduceLeDiff,reduceIte,aw];exact Tw bs ax Z Z d bd N dU (mt.trans (bB.mut _)) (cp.aK bB) (bB.get gF) (aJ.get jS) (by simp[be])
 |false=>
  simp-implicitDefEqProofs(disch:=try exact af) only[kJ,lG,nu,mf,l4,reduceAdd,reduceLeDiff,reduceIte,aw];refine a6 (gO (cp.aK bB) (ag.cf.aK bB) _ (by simp)) ?_;rintro _ ct ⟨rfl,bK⟩;refine⟨bK.1,?_⟩;have c8:=bB.trans bK
  try simp only[kJ,lG,nu,mf,l4]
  exact Tw bs ax Z Z d bd N dU (mt.trans (c8.mut _)) (cp.aK c8) (c8.get gF) ((aJ.trans bK).get jS) (by simp[be])
theorem afn{r:Nat}{T:List Tok}{ak:I}{H0:J}{s0:aA}(bs:c_ H0 r T ak s0){b:Nat}(ax:H0.next<=b)(N:Nat)(dU:3<N):
  ∀(n d:Nat),n+d=3-> ∀(m:Nat) (H:J) (s:aA),n<m->cC r H0 H->c7 H r ak s->H.get b=some (.row false 2 [[.str [],.int .i64 0]])->
   W (xn (aq P ao) N m (.ptr r 0 0) (.ptr b 0 0) (.int .i64 d) H) λv H'=> ∃p:(bl×Int)×aA,p=(match lL T n d s with| .inr s'=>(([],0),s')| .inl (d,s')=>km T d s')/\v= .agg [.str p.1.1,.int .i64 p.1.2]/\cC r H0 H'/\c_ H' r T ak p.2:=by
 intro n
 induction n with
 |zero=>
  intro d bd m H s hm mt cp gF;obtain⟨m,rfl⟩: ∃k,m=k+1:=⟨m-1,Z⟩;have lp:d=3:=Z;subst lp;have ag:=bs.mut mt cp;have ib:=bs.rd.lt;have iw:=J.aX gF;simp only[xn];rw[mf];refine a6 (gO cp ag.cf [91] (by simp)) ?_;rintro _ H1 ⟨rfl,aV⟩;refine⟨aV.1,?_⟩;have pY:=aV.get gF;cases be:cd T s [91] with
  |true=>
   simp-implicitDefEqProofs(disch:=try exact af) only[kJ,lG,mK,mg,mf,l4,reduceAdd,reduceLeDiff,reduceIte,aw,beq_self_eq_true,Int.cast_ofNat_Int];refine a6 (sw (ag.aK aV) 4) ?_;rintro _ bm ⟨rfl,m2,cJ⟩;refine⟨m2.1,?_⟩;have Es:=m2.get pY Z;have vO:=J.aX Es;simp-implicitDefEqProofs(disch:=try exact af) only[kJ,lG,mK,mg,mf,l4,reduceAdd,reduceLeDiff,reduceIte,aw,Es];have m3:=((mt.trans (aV.mut _)).trans m2).db (.inr ax) (.row false 2 [[.str [],.int .i64 0]]);refine a_.2 ⟨(([],0),cS T 4 s),by simp[lL,be],rfl,m3,bs.mut m3 ?_⟩;have:=cJ.rd;unfold c7 at this ⊢;rw[J.get_set_other Z];exact this
  |false=>
   simp-implicitDefEqProofs(disch:=try exact af) only[kJ,lG,mK,mg,mf,l4,reduceAdd,reduceLeDiff,reduceIte,aw];refine(Tv bs ax 3 Z N dU (mt.trans (aV.mut _)) (cp.aK aV) pY).mono ?_;rintro v H' ⟨rfl,cD,cu⟩;exact⟨km T 3 s,by simp[lL,be],rfl,cD,cu⟩
 |succ n aT=>
  intro d bd m H s hm mt cp gF;obtain⟨m,rfl⟩: ∃k,m=k+1:=⟨m-1,Z⟩;have ag:=bs.mut mt cp;have ib:=bs.rd.lt;have iw:=J.aX gF;have de:=ag.cf.one;simp only[xn];rw[mf];refine a6 (gO cp ag.cf [91] (by simp)) ?_;rintro _ H1 ⟨rfl,aV⟩;refine⟨aV.1,?_⟩;have pY:=aV.get gF;have vP:=cp.aK aV;have Eg:=vP;unfold c7 at Eg;cases be:cd T s [91] with
  |true=>
   have ae:((d:Int)==3)=false:=by simp;omega
   have hw:IntKind.i64.wrap ((d:Int)+1)=((d+1:Nat):Int):=by rw[wrap_i64 Z Z];simp
   obtain⟨m2,mW⟩:=h5 vP (aF s);simp-implicitDefEqProofs(disch:=try exact af) only[kJ,lG,mK,mg,l4,reduceAdd,reduceLeDiff,reduceIte,aw,ae,hw,Eg,de];refine(aT (d+1) Z m _ _ Z ((mt.trans (aV.mut _)).trans m2) mW (m2.get pY Z)).mono ?_;rintro v H' ⟨p,bw,rfl,cD,cu⟩;exact⟨p,by rw[bw];simp[lL,be],rfl,cD,cu⟩
  |false=>
   simp-implicitDefEqProofs(disch:=try exact af) only[kJ,lG,mK,mg,l4,reduceAdd,reduceLeDiff,reduceIte,aw];refine(Tv bs ax d Z N Z (mt.trans (aV.mut _)) (cp.aK aV) pY).mono ?_;rintro v H' ⟨rfl,cD,cu⟩;exact⟨km T d s,by simp[lL,be],rfl,cD,cu⟩
theorem DN{H:J}{r:Nat}{T:List Tok}{ak:I}{s:aA}(ag:c_ H r T ak s):W (aq P ao 60 [.ptr r 0 0] H) λv H'=>v= .agg [.str (fm T s).1.1,.int .i64 (fm T s).1.2]/\cC r H H'/\c_ H' r T ak (fm T s).2:=by
 refine cP (λ_=>alt 10) ?_;simp only[kJ,lG,mK,mg,l4,cy];have p:=aR.push H (.row false 2 [[.str [],.int .i64 0]]);refine(afn ag (bN _) 10 Z 3 0 rfl 10 _ s Z (p.mut _) (ag.rd.aK p) (J.ca _ _)).mono ?_;rintro v H' ⟨q,bi,rfl,cD,cu⟩;have:q=fm T s:=by rw[bi];rfl
 subst this;exact⟨rfl,cD,cu⟩
end
end Go.Proofs.YtghmbpmaafnodaaGreatDoor
