/-
  Texts of one proof, laid together: ShA Ls Sp X1 Lx L1 L2.
-/
import Derived.Test.YtghmbpmaafnodaaDoorME
set_option linter.unusedVariables false
set_option linter.unusedSimpArgs false
set_option linter.defProp false
open Option renaming some→D,none→Z
open Bool renaming true→X,false→U
open Go.b9.aa renaming int→I,str→Y,bool→C
open Go.IntKind renaming i64→J
namespace Go.Proofs.YtghmbpmaafnodaaDoor
open Go.b9
open Nat (reduceAdd reduceLeDiff)
section
set_option maxRecDepth 100000
noncomputable section
def jf(G:ax)(N:Nat)(ag e i:aa)(H:ad):O:=bd P .len [9] [ag] H λh=>j (ch P 61 [(0,(I J 0)),(3,h)]) λk=>bV H (bU P (H).next 36 1 [(0,k)]) λl a=>aG a (cR P a [36,36] i l) λm c=>a8 c (aT P c 29 e (.agg [I J 0,I J 0])) λd=>j (al P d 29 e) λr=>D (.tuple [m,r],d)
def La(G:ax)(N:Nat):∀ae H,bm P G N (o (o (o (o (o (bq Tryd.f14)))))) (bh Tryd.f14) [] (bh Tryd.f14) ae H=jf G N (ae 0) (ae 3) (ae 4) H:=by
 refine bL (aH _) λae H=> ?_
 delta jf;kernel_rfl
def kh(a:aa->aa->aa->aa->ad->O)(ag d:aa)(e h:aa)(c:ad):O:=a ag d e h c
def kZ(G:ax)(N:Nat)(n:aa->aa->aa->aa->ad->O)(ag d:aa)(m e:aa)(H:ad):O:=bd P .len [9] [ag] H λbH=>j (an P .lss 3 U e bH) λp=>aV (D p) (aG H (G 39 [ag,e] H) λk o=>j (eS k 0) λq=>j (eS k 1) λl=>cp o [I J 0,Y [],I J 0,I J 0] λbn h=>a8 h (aT P h 61 bn q) λa=>j (an P .eql 3 X l (I J 0)) λs=>aV (D s) (j (ch P 29 [(0,(I J 1)),(1,e)]) λu=>a8 a (aT P a 29 d u) λc=>j (al P c 29 d) λr=>D (.tuple [aa.ar,r],c)) (j (al P a 61 bn) λv=>bV a (bU P (a).next 36 1 [(0,v)]) λw c=>aG c (cR P c [36,36] m w) λx i=>j (an P .add 3 U e l) λy=>aG i (G 38 [ag,y] i) (kh n ag d x))) (jf G N ag d m H)
def lU(G:ax)(N:Nat):Nat->aa->aa->aa->aa->ad->O
 |0,_,_,_,_,_=>Z
 |n+1,ag,a,c,d,H=>kZ G N (lU G N n) ag a c d H
def K_(G:ax)(N:Nat)(c:aa->aa->aa->aa->ad->O):∀ae H,bm P G N (a1 (a1 (a1 (o (o (o (o (bq Tryd.f14)))))))) (λae H=>c (ae 0) (ae 3) (ae 4) (ae 5) H) [(0,(λae H=>jf G N (ae 0) (ae 3) (ae 4) H))] (bh Tryd.f14) ae H=kZ G N c (ae 0) (ae 3) (ae 4) (ae 5) H:=by
 refine bL (aH _) λae H=> ?_
 delta kZ kh;generalize jf G N=a;revert a;refine id ?_;intro a;kernel_rfl
def ki(G:ax)(N:Nat)(ag d c:aa)(a:ad):O:=lU G N N ag d aa.ar c a
def kg(G:ax)(N:Nat)(ag:aa)(H:ad):O:=cp H [I J 0,I J 0] λc a=>bd P .len [9] [ag] a λh=>j (an P .gtr 3 X h (I J 6000)) λe=>aV (D e) (a8 a (aT P a 29 c (.agg [I J 4,I J 0])) λd=>j (al P d 29 c) λr=>D (.tuple [aa.ar,r],d)) (aG a (G 38 [ag,I J 0] a) (ki G N ag c))
def J5(N:Nat){ag:aa}{H:ad}{r:aa×ad}(h:kg (aA P aw) N ag H=D r):aA P aw 14 [ag] H=D r:=cQ N (S:=λG=>kg G N ag H) Tryd.func14 (λG=>dO ((aN ah ((aN ah ((aN ah ((aN ah ((aN ah (La G N) ((db ah ((en (k:=λm ae H=>lU G N m (ae 0) (ae 3) (ae 4) (ae 5) H) ah (λae H=>ah) (λm=>K_ G N (lU G N m)))))))) (aH _))) (aH _))) (aH _))) (aH _))) (by delta kg ki;generalize lU G N N=a;revert a;refine id ?_;intro a;kernel_rfl)) h
def hj(G:ax)(N:Nat)(au:aa)(H:ad):O:=some (au,H)
def Ly(G:ax)(N:Nat):∀ae H,bm P G N (o (o (bq Tryd.f38))) (bh Tryd.f38) [] (bh Tryd.f38) ae H=hj G N (ae 1) H:=by
 refine bL (aH _) λae H=> ?_
 delta hj;kernel_rfl
def o0(G:ax)(N:Nat)(d:aa->aa->ad->O)(e:aa->aa->ad->O)(ag au:aa)(H:ad):O:=bd P .len [9] [ag] H λl=>j (an P .lss 3 U au l) λa=>aP a X H (cm ag) λm h=>aP a X h (cm au) λn i=>aP a X i (bF (eE P 9 m n)) λo k=>aP a X k (bF (an P .neq 5 X o (I .u8 10))) λp c=>j (cU a (D p) (D (C U))) λq=>aV (D q) (j (an P .add 3 X au (I J 1)) λs=>e ag s c) (d ag au c)
def k5(G:ax)(N:Nat)(a:aa->aa->ad->O):Nat->aa->aa->ad->O
 |0,_,_,_=>Z
 |n+1,ag,au,H=>o0 G N a (k5 G N a n) ag au H
def Lx(G:ax)(N:Nat)(a:aa->aa->ad->O)(d:aa->aa->ad->O):∀ae H,bm P G N (a1 (a1 (a1 (o (o (o (a1 (a1 (o (a1 (a1 (a1 (o (bq Tryd.f38)))))))))))))) (λae H=>d (ae 0) (ae 1) H) [(3,(λae H=>a (ae 0) (ae 1) H)),(2,(λae H=>a (ae 0) (ae 1) H)),(1,(λae H=>a (ae 0) (ae 1) H)),(0,(λae H=>hj G N (ae 1) H))] (bh Tryd.f38) ae H=o0 G N a d (ae 0) (ae 1) H:=by
 refine bL (aH _) λae H=> ?_
 delta o0;generalize a=c;revert c;refine id ?_;intro c;kernel_rfl
def jQ(G:ax)(N:Nat)(i:aa->aa->ad->O)(ag au:aa)(H:ad):O:=bd P .len [9] [ag] H λaw=>j (an P .lss 3 U au aw) λaz=>aV (D az) (j (eE P 9 ag au) λF=>j (an P .eql 5 X F (I .u8 32)) λc=>aP c U H (cm ag) λbH l=>aP c U l (cm au) λK v=>aP c U v (bF (eE P 9 bH K)) λL w=>aP c U w (bF (an P .eql 5 X L (I .u8 9))) λM x=>j (cU c (D (C X)) (D M)) λd=>aP d U x (cm ag) λQ y=>aP d U y (cm au) λR z=>aP d U z (bF (eE P 9 Q R)) λS A=>aP d U A (bF (an P .eql 5 X S (I .u8 10))) λT B=>j (cU d (D (C X)) (D T)) λe=>aP e U B (cm ag) λV E=>aP e U E (cm au) λW m=>aP e U m (bF (eE P 9 V W)) λab n=>aP e U n (bF (an P .eql 5 X ab (I .u8 13))) λae h=>j (cU e (D (C X)) (D ae)) λaf=>aV (D af) (j (an P .add 3 X au (I J 1)) λah=>i ag ah h) (bd P .len [9] [ag] h λai=>j (an P .sub 3 U ai au) λaj=>j (an P .geq 3 X aj (I J 2)) λa=>aP a X h (cm ag) λak o=>aP a X o (cm au) λal p=>aP a X p (cm au) λam q=>aP a X q (bF (an P .add 3 X am (I J 2))) λao s=>aP a X s (bF (jy P 9 ak (D al) (D ao) Z)) λap u=>aP a X u (bF (an P .eql 9 X ap (Y [47,47]))) λaq k=>j (cU a (D aq) (D (C U))) λav=>aV (D av) (k5 G N i N ag au k) (D (au,k)))) (hj G N au H)
def hE(G:ax)(N:Nat):Nat->aa->aa->ad->O
 |0,_,_,_=>Z
 |n+1,ag,au,H=>jQ G N (hE G N n) ag au H
def Lw(G:ax)(N:Nat)(a:aa->aa->ad->O):∀ae H,bm P G N (a1 (a1 (a1 (o (bq Tryd.f38))))) (λae H=>a (ae 0) (ae 1) H) [(0,(λae H=>hj G N (ae 1) H))] (bh Tryd.f38) ae H=jQ G N a (ae 0) (ae 1) H:=by
 refine bL ((aN ah ((db ah ((db ah ((aN ah ((dt ah (aH _) ((aN ah ((dt ah ((db ah ((en (k:=λm ae H=>k5 G N a m (ae 0) (ae 1) H) ah (λae H=>ah) (λm=>Lx G N a (k5 G N a m)))))) (aH _))) (aH _))))) (aH _))))))) (aH _))) λae H=> ?_
 delta jQ;generalize hj G N=c;generalize k5 G N a N=d;revert c d;refine id ?_;intro c d;kernel_rfl
def hW(G:ax)(N:Nat)(ag au:aa)(H:ad):O:=hE G N N ag au H
def Kk(N:Nat){ag au:aa}{H:ad}{r:aa×ad}(h:hW (aA P aw) N ag au H=D r):aA P aw 38 [ag,au] H=D r:=cQ N (S:=λG=>hW G N ag au H) Tryd.func38 (λG=>dO ((aN ah ((aN ah (Ly G N) ((db ah ((en (k:=λm ae H=>hE G N m (ae 0) (ae 1) H) ah (λae H=>ah) (λm=>Lw G N (hE G N m)))))))) (aH _))) (by delta hW;generalize hE G N N=a;revert a;refine id ?_;intro a;kernel_rfl)) h
def eR(G:ax)(ag au:aa)(H:ad):O:=cp H [I J 0,Y [],I J 0,I J 0] λc y=>j (eE P 9 ag au) λam=>aG y (G 62 [am] y) λbH p=>aV (D bH) (aG p (G 63 [ag,au,C U] p) λw h=>j (an P .add 3 U au w) λao=>j (jy P 9 ag (D au) (D ao) Z) λu=>aG h (G 64 [u] h) λap d=>aV (D ap) (j (ch P 61 [(0,(I J 3)),(1,u),(3,au)]) λaq=>a8 d (aT P d 61 c aq) λa=>j (al P a 61 c) λr=>D (.tuple [r,w],a)) (aG d (G 65 [u] d) λav a=>aV (D av) (j (ch P 61 [(0,(I J 1)),(1,u),(3,au)]) λaw=>a8 a (aT P a 61 c aw) λi=>j (al P i 61 c) λr=>D (.tuple [r,w],i)) (a8 a (aT P a 61 c (.agg [I J 0,Y [],I J 0,I J 0])) λi=>j (al P i 61 c) λr=>D (.tuple [r,I J 0],i)))) (j (eE P 9 ag au) λaz=>aG p (G 66 [az] p) λaA h=>aV (D aA) (aG h (G 63 [ag,au,C X] h) λm d=>j (an P .add 3 U au m) λaB=>j (jy P 9 ag (D au) (D aB) Z) λaC=>aG d (G 67 [aC] d) λA a=>j (eS A 0) λaD=>j (eS A 1) λaE=>j (fk .not aE) λn=>aP n U a (cm m) λaF i=>aP n U i (bF (an P .gtr 3 X aF (I J 1))) λaH ah=>aP n U ah (cm aH) λo ai=>aP o X ai (cm ag) λaI aj=>aP o X aj (cm au) λaJ E=>aP o X E (bF (eE P 9 aI aJ)) λaK F=>aP o X F (bF (an P .eql 5 X aK (I .u8 48))) λaL K=>aP n U K (bF (cU o (D aL) (D (C U)))) λaM L=>j (cU n (D (C X)) (D aM)) λe=>aP e U L (cm au) λaN M=>aP e U M (cm m) λaO N=>aP e U N (bF (an P .add 3 U aN aO)) λaQ Q=>aP e U Q (cm ag) λB z=>aP e U z (λq=>gW (b4 P .empty .len [9] [B]) (b4 P z .len [9] [B]) q) λaR R=>aP e U R (bF (an P .lss 3 U aQ aR)) λaS S=>aP e U S (cm aS) λk T=>aP k X T (cm ag) λaU V=>aP k X V (cm au) λaW W=>aP k X W (cm m) λaX ab=>aP k X ab (bF (an P .add 3 U aW aX)) λaY ae=>aP k X ae (bF (eE P 9 aU aY)) λaZ v=>aP k X v (λq=>eX v (G 62 [aZ] v) q) λa0 af=>aP e U af (bF (cU k (D a0) (D (C U)))) λa1 s=>j (cU e (D (C X)) (D a1)) λa2=>aV (D a2) (a8 s (aT P s 61 c (.agg [I J 0,Y [],I J 0,I J 0])) λl=>j (al P l 61 c) λr=>D (.tuple [r,I J 0],l)) (j (ch P 61 [(0,(I J 2)),(2,aD),(3,au)]) λa3=>a8 s (aT P s 61 c a3) λl=>j (al P l 61 c) λr=>D (.tuple [r,m],l))) (aG h (G 68 [ag,au] h) λx d=>j (an P .eql 9 X x (Y [])) λa4=>aV (D a4) (a8 d (aT P d 61 c (.agg [I J 0,Y [],I J 0,I J 0])) λa=>j (al P a 61 c) λr=>D (.tuple [r,I J 0],a)) (j (ch P 61 [(0,(I J 4)),(1,x),(3,au)]) λa5=>bd P .len [9] [x] d λak=>a8 d (aT P d 61 c a5) λa=>j (al P a 61 c) λr=>D (.tuple [r,ak],a))))
def Kl(N:Nat){ag au:aa}{H:ad}{r:aa×ad}(h:eR (aA P aw) ag au H=D r):aA P aw 39 [ag,au] H=D r:=cQ N (S:=λG=>eR G ag au H) Tryd.func39 (λ_=>by delta eR;kernel_rfl) h
def sR(G:ax)(ag:aa)(H:ad):O:=j (an P .geq 5 X ag (I .u8 97)) λd=>aP d X H (cm ag) λbn e=>aP d X e (bF (an P .leq 5 X bn (I .u8 122))) λw h=>j (cU d (D w) (D (C U))) λa=>aP a U h (cm ag) λp i=>aP a U i (bF (an P .geq 5 X p (I .u8 65))) λq k=>aP a U k (cm q) λc l=>aP c X l (cm ag) λs m=>aP c X m (bF (an P .leq 5 X s (I .u8 90))) λu n=>aP a U n (bF (cU c (D u) (D (C U)))) λv o=>j (cU a (D (C X)) (D v)) λbH=>D (bH,o)
def KA(N:Nat){ag:aa}{H:ad}{r:aa×ad}(h:sR (aA P aw) ag H=D r):aA P aw 62 [ag] H=D r:=cQ N (S:=λG=>sR G ag H) Tryd.func62 (λ_=>by delta sR;kernel_rfl) h
def jg(G:ax)(N:Nat)(a:aa)(H:ad):O:=some (a,H)
def L6(G:ax)(N:Nat):∀ae H,bm P G N (o (o (o (bq Tryd.f63)))) (bh Tryd.f63) [] (bh Tryd.f63) ae H=jg G N (ae 7) H:=by
 refine bL (aH _) λae H=> ?_
 delta jg;kernel_rfl
def ko(G:ax)(N:Nat)(m:aa->aa->aa->aa->ad->O)(ag au:aa)(l e:aa)(H:ad):O:=j (an P .add 3 U au e) λL=>bd P .len [9] [ag] H λM=>j (an P .lss 3 U L M) λa=>aP a X H (cm ag) λQ n=>aP a X n (cm au) λbH y=>aP a X y (cm e) λR z=>aP a X z (bF (an P .add 3 U bH R)) λS A=>aP a X A (bF (eE P 9 Q S)) λT i=>aP a X i (λq=>eX i (G 66 [T] i) q) λV B=>aP a X B (cm V) λd E=>aP d U E (cm l) λW F=>aP d U F (bF (fk .not W)) λab K=>aP d U K (cm ab) λc o=>aP c X o (cm ag) λae p=>aP c X p (cm au) λaf s=>aP c X s (cm e) λah u=>aP c X u (bF (an P .add 3 U af ah)) λai v=>aP c X v (bF (eE P 9 ae ai)) λaj h=>aP c X h (λq=>eX h (G 62 [aj] h) q) λak w=>aP d U w (bF (cU c (D ak) (D (C U)))) λal x=>aP a X x (bF (cU d (D (C X)) (D al))) λam k=>j (cU a (D am) (D (C U))) λao=>aV (D ao) (j (an P .add 3 X e (I J 1)) λap=>m ag au l ap k) (jg G N e k)
def k8(G:ax)(N:Nat):Nat->aa->aa->aa->aa->ad->O
 |0,_,_,_,_,_=>Z
 |n+1,ag,au,a,c,H=>ko G N (k8 G N n) ag au a c H
def L5(G:ax)(N:Nat)(c:aa->aa->aa->aa->ad->O):∀ae H,bm P G N (a1 (a1 (a1 (o (o (bq Tryd.f63)))))) (λae H=>c (ae 0) (ae 1) (ae 2) (ae 7) H) [(0,(λae H=>jg G N (ae 7) H))] (bh Tryd.f63) ae H=ko G N c (ae 0) (ae 1) (ae 2) (ae 7) H:=by
 refine bL (aH _) λae H=> ?_
 delta ko;generalize jg G N=a;revert a;refine id ?_;intro a;kernel_rfl
def jR(G:ax)(N:Nat)(ag au a:aa)(H:ad):O:=k8 G N N ag au a (I J 0) H
def KB(N:Nat){ag au a:aa}{H:ad}{r:aa×ad}(h:jR (aA P aw) N ag au a H=D r):aA P aw 63 [ag,au,a] H=D r:=cQ N (S:=λG=>jR G N ag au a H) Tryd.func63 (λG=>dO ((aN ah ((aN ah ((aN ah (L6 G N) ((db ah ((en (k:=λm ae H=>k8 G N m (ae 0) (ae 1) (ae 2) (ae 7) H) ah (λae H=>ah) (λm=>L5 G N (k8 G N m)))))))) (aH _))) (aH _))) (by delta jR;generalize k8 G N N=c;revert c;refine id ?_;intro c;kernel_rfl)) h
def k9(G:ax)(N:Nat)(H:ad):O:=some ((C U),H)
def L8(G:ax)(N:Nat):∀ae H,bm P G N (o (o (o (bq Tryd.f64)))) (bh Tryd.f64) [] (bh Tryd.f64) ae H=k9 G N H:=by
 refine bL (aH _) λae H=> ?_
 delta k9;kernel_rfl
def nB(G:ax)(N:Nat)(d:aa->aa->aa->ad->O)(ag a c:aa)(H:ad):O:=bd P .len [50] [a] H λl=>j (an P .lss 3 U c l) λm=>aV (D m) (j (cG P 50 a c) λh=>j (al P H 9 h) λi=>j (an P .eql 9 U i ag) λk=>aV (D k) (D ((C X),H)) (j (an P .add 3 X c (I J 1)) λe=>d ag a e H)) (k9 G N H)
def l7(G:ax)(N:Nat):Nat->aa->aa->aa->ad->O
 |0,_,_,_,_=>Z
 |n+1,ag,a,c,H=>nB G N (l7 G N n) ag a c H
def L7(G:ax)(N:Nat)(c:aa->aa->aa->ad->O):∀ae H,bm P G N (a1 (a1 (o (a1 (o (o (bq Tryd.f64))))))) (λae H=>c (ae 0) (ae 3) (ae 4) H) [(0,(λae H=>k9 G N H))] (bh Tryd.f64) ae H=nB G N c (ae 0) (ae 3) (ae 4) H:=by
 refine bL (aH _) λae H=> ?_
 delta nB;generalize k9 G N=a;revert a;refine id ?_;intro a;kernel_rfl
def nA(G:ax)(N:Nat)(ag c:aa)(a:ad):O:=l7 G N N ag c (I J 0) a
def l6(G:ax)(N:Nat)(ag:aa)(H:ad):O:=aG H (G 81 [] H) (nA G N ag)
def KC(N:Nat){ag:aa}{H:ad}{r:aa×ad}(h:l6 (aA P aw) N ag H=D r):aA P aw 64 [ag] H=D r:=cQ N (S:=λG=>l6 G N ag H) Tryd.func64 (λG=>dO ((aN ah ((aN ah ((aN ah (L8 G N) ((aN ah ((db ah ((en (k:=λm ae H=>l7 G N m (ae 0) (ae 3) (ae 4) H) ah (λae H=>ah) (λm=>L7 G N (l7 G N m)))))) (aH _))))) (aH _))) (aH _))) (by delta l6 nA;generalize l7 G N N=a;revert a;refine id ?_;intro a;kernel_rfl)) h
def gS(G:ax)(N:Nat)(H:ad):O:=some ((C X),H)
def L_(G:ax)(N:Nat):∀ae H,bm P G N (o (o (o (bq Tryd.f65)))) (bh Tryd.f65) [] (bh Tryd.f65) ae H=gS G N H:=by
 refine bL (aH _) λae H=> ?_
 delta gS;kernel_rfl
def h1(G:ax)(N:Nat)(h:aa->aa->ad->O)(ag c:aa)(H:ad):O:=bd P .len [9] [ag] H λn=>j (an P .lss 3 U c n) λo=>aV (D o) (j (eE P 9 ag c) λs=>aG H (G 62 [s] H) λu i=>j (fk .not u) λa=>aP a X i (cm ag) λv k=>aP a X k (cm c) λw l=>aP a X l (bF (eE P 9 v w)) λx d=>aP a X d (λq=>eX d (G 66 [x] d) q) λy m=>aP a X m (bF (fk .not y)) λz e=>j (cU a (D z) (D (C U))) λA=>aV (D A) (D ((C U),e)) (j (an P .add 3 X c (I J 1)) λp=>h ag p e)) (gS G N H)
def l8(G:ax)(N:Nat):Nat->aa->aa->ad->O
 |0,_,_,_=>Z
 |n+1,ag,a,H=>h1 G N (l8 G N n) ag a H
def L9(G:ax)(N:Nat)(c:aa->aa->ad->O):∀ae H,bm P G N (a1 (a1 (o (a1 (o (o (bq Tryd.f65))))))) (λae H=>c (ae 0) (ae 3) H) [(0,(λae H=>gS G N H))] (bh Tryd.f65) ae H=h1 G N c (ae 0) (ae 3) H:=by
 refine bL (aH _) λae H=> ?_
 delta h1;generalize gS G N=a;revert a;refine id ?_;intro a;kernel_rfl
def hF(G:ax)(N:Nat)(ag:aa)(H:ad):O:=bd P .len [9] [ag] H λA=>j (an P .lss 3 X A (I J 1)) λbn=>aP bn U H (cm ag) λk h=>aP bn U h (λq=>gW (b4 P .empty .len [9] [k]) (b4 P h .len [9] [k]) q) λB l=>aP bn U l (bF (an P .gtr 3 X B (I J 8))) λs m=>j (cU bn (D (C X)) (D s)) λa=>aP a U m (cm ag) λu n=>aP a U n (bF (eE P 9 u (I J 0))) λv c=>aP a U c (λq=>eX c (G 62 [v] c) q) λw o=>aP a U o (bF (fk .not w)) λbH p=>j (cU a (D (C X)) (D bH)) λe=>aP e U p (cm ag) λx d=>aP e U d (λq=>eX d (G 64 [x] d) q) λy i=>j (cU e (D (C X)) (D y)) λz=>aV (D z) (D ((C U),i)) (l8 G N N ag (I J 0) i)
def KD(N:Nat){ag:aa}{H:ad}{r:aa×ad}(h:hF (aA P aw) N ag H=D r):aA P aw 65 [ag] H=D r:=cQ N (S:=λG=>hF G N ag H) Tryd.func65 (λG=>dO ((aN ah ((aN ah ((aN ah (L_ G N) ((aN ah ((db ah ((en (k:=λm ae H=>l8 G N m (ae 0) (ae 3) H) ah (λae H=>ah) (λm=>L9 G N (l8 G N m)))))) (aH _))))) (aH _))) (aH _))) (by delta hF;generalize l8 G N N=a;revert a;refine id ?_;intro a;kernel_rfl)) h
def sS(G:ax)(ag:aa)(H:ad):O:=j (an P .geq 5 X ag (I .u8 48)) λa=>aP a X H (cm ag) λbn c=>aP a X c (bF (an P .leq 5 X bn (I .u8 57))) λe d=>j (cU a (D e) (D (C U))) λh=>D (h,d)
def KE(N:Nat){ag:aa}{H:ad}{r:aa×ad}(h:sS (aA P aw) ag H=D r):aA P aw 66 [ag] H=D r:=cQ N (S:=λG=>sS G ag H) Tryd.func66 (λ_=>by delta sS;kernel_rfl) h
def l9(G:ax)(N:Nat)(a:aa)(H:ad):O:=some (.tuple [a,C X],H)
def Mb(G:ax)(N:Nat):∀ae H,bm P G N (o (o (o (bq Tryd.f67)))) (bh Tryd.f67) [] (bh Tryd.f67) ae H=l9 G N (ae 4) H:=by
 refine bL (aH _) λae H=> ?_
 delta l9;kernel_rfl
def o_(G:ax)(N:Nat)(e:aa->aa->aa->ad->O)(ag a c:aa)(H:ad):O:=bd P .len [9] [ag] H λq=>j (an P .lss 3 U c q) λh=>aV (D h) (j (eE P 9 ag c) λk=>j (an P .sub 5 X k (I .u8 48)) λbH=>pv P 5 3 bH H λd=>j (an P .sub 3 X (I J 9223372036854775807) d) λl=>j (an P .quo 3 X l (I J 10)) λm=>j (an P .gtr 3 U a m) λn=>aV (D n) (D (.tuple [I J 0,C U],H)) (j (an P .mul 3 X (I J 10) a) λo=>j (an P .add 3 U o d) λp=>j (an P .add 3 X c (I J 1)) λi=>e ag p i H)) (l9 G N a H)
def k_(G:ax)(N:Nat):Nat->aa->aa->aa->ad->O
 |0,_,_,_,_=>Z
 |n+1,ag,a,c,H=>o_ G N (k_ G N n) ag a c H
def Ma(G:ax)(N:Nat)(c:aa->aa->aa->ad->O):∀ae H,bm P G N (a1 (a1 (o (a1 (o (o (bq Tryd.f67))))))) (λae H=>c (ae 0) (ae 4) (ae 5) H) [(0,(λae H=>l9 G N (ae 4) H))] (bh Tryd.f67) ae H=o_ G N c (ae 0) (ae 4) (ae 5) H:=by
 refine bL (aH _) λae H=> ?_
 delta o_;generalize l9 G N=a;revert a;refine id ?_;intro a;kernel_rfl
def nC(G:ax)(N:Nat)(ag:aa)(H:ad):O:=k_ G N N ag (I J 0) (I J 0) H
def KF(N:Nat){ag:aa}{H:ad}{r:aa×ad}(h:nC (aA P aw) N ag H=D r):aA P aw 67 [ag] H=D r:=cQ N (S:=λG=>nC G N ag H) Tryd.func67 (λG=>dO ((aN ah ((aN ah ((aN ah (Mb G N) ((aN ah ((db ah ((en (k:=λm ae H=>k_ G N m (ae 0) (ae 4) (ae 5) H) ah (λae H=>ah) (λm=>Ma G N (k_ G N m)))))) (aH _))))) (aH _))) (aH _))) (by delta nC;generalize k_ G N N=a;revert a;refine id ?_;intro a;kernel_rfl)) h
def jh(G:ax)(N:Nat)(H:ad):O:=some ((Y []),H)
def Mf(G:ax)(N:Nat):∀ae H,bm P G N (o (o (o (o (o (bq Tryd.f68)))))) (bh Tryd.f68) [] (bh Tryd.f68) ae H=jh G N H:=by
 refine bL (aH _) λae H=> ?_
 delta jh;kernel_rfl
def pa(G:ax)(N:Nat)(d:aa->aa->aa->aa->ad->O)(ag au:aa)(c a:aa)(H:ad):O:=bd P .len [9] [c] H λe=>j (an P .lss 3 U a e) λh=>aV (D h) (j (eE P 9 ag au) λk=>j (eE P 9 c a) λl=>j (an P .eql 5 U k l) λm=>aV (D m) (j (an P .add 3 X a (I J 1)) λn=>j (jy P 9 c (D a) (D n) Z) λo=>D (o,H)) (j (an P .add 3 X a (I J 1)) λi=>d ag au c i H)) (jh G N H)
def la(G:ax)(N:Nat):Nat->aa->aa->aa->aa->ad->O
 |0,_,_,_,_,_=>Z
 |n+1,ag,au,a,c,H=>pa G N (la G N n) ag au a c H
def Mc(G:ax)(N:Nat)(c:aa->aa->aa->aa->ad->O):∀ae H,bm P G N (a1 (a1 (o (a1 (o (o (o (o (bq Tryd.f68))))))))) (λae H=>c (ae 0) (ae 1) (ae 7) (ae 8) H) [(2,(λae H=>jh G N H))] (bh Tryd.f68) ae H=pa G N c (ae 0) (ae 1) (ae 7) (ae 8) H:=by
 refine bL (aH _) λae H=> ?_
 delta pa;generalize jh G N=a;revert a;refine id ?_;intro a;kernel_rfl
def kr(G:ax)(N:Nat)(ag au:aa)(H:ad):O:=la G N N ag au (Y [123,125,40,41,91,93,59,58,44,46,61,43,45,42,47,37,60,33]) (I J 0) H
def Me(G:ax)(N:Nat):∀ae H,bm P G N (o (o (o (bq Tryd.f68)))) (bh Tryd.f68) [] (bh Tryd.f68) ae H=kr G N (ae 0) (ae 1) H:=by
 refine bL ((aN ah ((aN ah (Mf G N) ((aN ah ((db ah ((en (k:=λm ae H=>la G N m (ae 0) (ae 1) (ae 7) (ae 8) H) ah (λae H=>ah) (λm=>Mc G N (la G N m)))))) (aH _))))) (aH _))) λae H=> ?_
 delta kr;generalize la G N N=a;revert a;refine id ?_;intro a;kernel_rfl
def kq(G:ax)(N:Nat)(h:aa->aa->aa->aa->ad->O)(ag au:aa)(c bn:aa)(H:ad):O:=bd P .len [50] [c] H λs=>j (an P .lss 3 U bn s) λu=>aV (D u) (bd P .len [9] [ag] H λw=>j (an P .sub 3 U w au) λx=>j (an P .geq 3 X x (I J 2)) λa=>aP a X H (cm ag) λy i=>aP a X i (cm au) λz k=>aP a X k (cm au) λA l=>aP a X l (bF (an P .add 3 X A (I J 2))) λB m=>aP a X m (bF (jy P 9 y (D z) (D B) Z)) λE n=>aP a X n (cm c) λF o=>aP a X o (cm bn) λK p=>aP a X p (bF (cG P 50 F K)) λL e=>aP a X e (qr (al P e 9 L)) λM q=>aP a X q (bF (an P .eql 9 U E M)) λQ d=>j (cU a (D Q) (D (C U))) λR=>aV (D R) (j (cG P 50 c bn) λS=>j (al P d 9 S) λT=>D (T,d)) (j (an P .add 3 X bn (I J 1)) λv=>h ag au c v d)) (kr G N ag au H)
def kt(G:ax)(N:Nat):Nat->aa->aa->aa->aa->ad->O
 |0,_,_,_,_,_=>Z
 |n+1,ag,au,a,bn,H=>kq G N (kt G N n) ag au a bn H
def Md(G:ax)(N:Nat)(c:aa->aa->aa->aa->ad->O):∀ae H,bm P G N (a1 (a1 (o (a1 (o (o (bq Tryd.f68))))))) (λae H=>c (ae 0) (ae 1) (ae 5) (ae 6) H) [(0,(λae H=>kr G N (ae 0) (ae 1) H))] (bh Tryd.f68) ae H=kq G N c (ae 0) (ae 1) (ae 5) (ae 6) H:=by
 refine bL (aH _) λae H=> ?_
 delta kq;generalize kr G N=a;revert a;refine id ?_;intro a;kernel_rfl
def kp(G:ax)(N:Nat)(ag au c:aa)(a:ad):O:=kt G N N ag au c (I J 0) a
def jS(G:ax)(N:Nat)(ag au:aa)(H:ad):O:=bV H (D (.ay (H).next 0 5 1 (D 5),.row U 1 [[Y [60,61]],[Y [61,61]],[Y [33,61]],[Y [38,38]],[Y [124,124]]])) (kp G N ag au)
def KG(N:Nat){ag au:aa}{H:ad}{r:aa×ad}(h:jS (aA P aw) N ag au H=D r):aA P aw 68 [ag,au] H=D r:=cQ N (S:=λG=>jS G N ag au H) Tryd.func68 (λG=>dO ((aN ah ((aN ah ((aN ah (Me G N) ((aN ah ((db ah ((en (k:=λm ae H=>kt G N m (ae 0) (ae 1) (ae 5) (ae 6) H) ah (λae H=>ah) (λm=>Md G N (kt G N m)))))) (aH _))))) (aH _))) (aH _))) (by delta jS kp;generalize kt G N N=a;revert a;refine id ?_;intro a;kernel_rfl)) h
def vZ(au:aa)(a:ad):O:=some (au,a)
def sU(G:ax)(H:ad):O:=bV H (D (.ay (H).next 0 18 1 (D 18),.row U 1 [[Y [114,101,99,111,114,100]],[Y [103,108,111,98,97,108]],[Y [102,117,110,99]],[Y [118,97,114]],[Y [108,101,116]],[Y [105,102]],[Y [101,108,115,101]],[Y [119,104,105,108,101]],[Y [114,101,116,117,114,110]],[Y [112,114,105,110,116]],[Y [110,117,108,108]],[Y [110,101,119]],[Y [108,101,110]],[Y [114,101,97,100]],[Y [116,114,117,101]],[Y [102,97,108,115,101]],[Y [105,110,116]],[Y [98,111,111,108]]])) (vZ)
def KN(N:Nat){H:ad}{r:aa×ad}(h:sU (aA P aw) H=D r):aA P aw 81 [] H=D r:=cQ N (S:=λG=>sU G H) Tryd.func81 (λ_=>by delta sU vZ;kernel_rfl) h
end
end
section
set_option linter.defProp false
def Cj:=ai @ad.bQ @ad.di
def F4:=ai (ai (ai (ai (ai (ai (ai (ai @Fx @Ft) (ai @CR @CS)) (ai (ai @CW @Fk) (ai @th (ai @dG @xr)))) (ai (ai (ai @ep @tf) (ai @Fs (ai @Fm @Fq))) (ai (ai @Fo @Fp) (ai @Fl (ai @CI @CH))))) (ai (ai (ai (ai @xE @w5) (ai @w6 (ai @w7 @wZ))) (ai (ai @w1 @w2) (ai @w3 (ai @wX @w4)))) (ai (ai (ai @wY @Option.bind_some.{0,0}) (ai @aU (ai @aO @xl))) (ai (ai @C0 @C2) (ai @CZ (ai @kT @vH)))))) (ai (ai (ai (ai (ai @C1 @List.getElem?_cons_zero.{0}) (ai @List.getElem?_cons_succ.{0} @List.drop_zero.{0})) (ai (ai @List.drop_succ_cons.{0} @List.take_succ_cons.{0}) (ai @List.take_zero.{0} (ai @List.set_cons_zero.{0} @List.set_cons_succ.{0})))) (ai (ai (ai @List.cons_append.{0} @List.nil_append.{0}) (ai @List.length_cons.{0} (ai @List.length_nil.{0} @List.all_cons.{0}))) (ai (ai @List.all_nil.{0} @Bool.and_true) (ai @Bool.and_self (ai @Nat.zero_add @Nat.add_zero))))) (ai (ai (ai (ai @bf @and_self) (ai @and_true (ai @true_and @if_true.{1}))) (ai (ai @aS @gO) (ai @hA (ai @qv @vs)))) (ai (ai (ai @r5 @vr) (ai @vq (ai @D9 @Ea))) (ai (ai @Ef @Ep) (ai @D_ (ai @D7 @D8))))))) (ai (ai (ai (ai (ai (ai @Eb @Ec) (ai @Ed @Ee)) (ai (ai @q3 @q4) (ai @wq (ai @wo @Eg)))) (ai (ai (ai @D1 @D2) (ai @D3 (ai @D4 @D5))) (ai (ai @D6 @Eh) (ai @Ej (ai @Ei @Ek))))) (ai (ai (ai (ai @El @Em) (ai @En (ai @Eo @EK))) (ai (ai @EO @ER) (ai @s9 (ai @pj @s_)))) (ai (ai (ai @EI @wE) (ai @wG (ai @wF @EU))) (ai (ai @EV @EW) (ai @EX (ai @EY @EL)))))) (ai (ai (ai (ai (ai @EN @nM) (ai @wH @EM)) (ai (ai @EJ @EP) (ai @ES (ai @ET @q6)))) (ai (ai (ai @EC @ED) (ai @EE (ai @EG @EH))) (ai (ai @zz @zL) (ai @zB (ai @zI @zH))))) (ai (ai (ai (ai @zG @zF) (ai @zE (ai @zJ @zK))) (ai (ai @yC @Cd) (ai @ad.p7 (ai @ad.dp @ad.get_set_same)))) (ai (ai (ai @ad.get_set_other @ad.bQ) (ai @ad.di (ai @ad.CN @ad.set_set))) (ai (ai @x2 @x3) (ai @xM (ai @xJ @xK)))))))) (ai (ai (ai (ai (ai (ai (ai @x7 @xY) (ai @xZ @x0)) (ai (ai @x1 @x4) (ai @x8 (ai @x9 @x_)))) (ai (ai (ai @x5 @x6) (ai @xV (ai @xW @xN))) (ai (ai @xI @xP) (ai @xQ (ai @xO @xU))))) (ai (ai (ai (ai @xX @xR) (ai @xL (ai @xS @xT))) (ai (ai @yW @yX) (ai @yY (ai @yZ @y0)))) (ai (ai (ai @y1 @y2) (ai @y3 (ai @y4 @y5))) (ai (ai @y6 @y7) (ai @y8 (ai @y9 @y_)))))) (ai (ai (ai (ai (ai @za @zb) (ai @zc @oe)) (ai (ai @og @zd) (ai @ze (ai @zf @zg)))) (ai (ai (ai @zh @zi) (ai @zj (ai @zk @zl))) (ai (ai @zm @zn) (ai @zo (ai @zp @zq))))) (ai (ai (ai (ai @zr @zs) (ai @zt (ai @zu @zv))) (ai (ai @zw @zx) (ai @yO (ai @yP @yQ)))) (ai (ai (ai @yR @yS) (ai @yT (ai @yU @yV))) (ai (ai @zY @zZ) (ai @z1 (ai @z6 @z7))))))) (ai (ai (ai (ai (ai (ai @z8 @z_) (ai @Aa @Ab)) (ai (ai @Ac @Ad) (ai @Ae (ai @Af @Ag)))) (ai (ai (ai @Ah @Ai) (ai @Aj (ai @Ak @Al))) (ai (ai @Am @An) (ai @Ao (ai @Ap @Aq))))) (ai (ai (ai (ai @Ar @As) (ai @At (ai @Au @Av))) (ai (ai @Aw @Ax) (ai @Ay (ai @Az @AA)))) (ai (ai (ai @AD @AE) (ai @AF (ai @AG @AH))) (ai (ai @AI @AJ) (ai @zQ (ai @zR @zS)))))) (ai (ai (ai (ai (ai @zT @zU) (ai @zV @zW)) (ai (ai @zX @BT) (ai @qk (ai @rV @ql)))) (ai (ai (ai @rW @qm) (ai @rX (ai @qn @rY))) (ai (ai @lK @qo) (ai @BN (ai @BO @BP))))) (ai (ai (ai (ai @BQ @rZ) (ai @vd (ai @BR @BS))) (ai (ai @BJ @BK) (ai @BL (ai @BM @AV)))) (ai (ai (ai @AW @AX) (ai @uN (ai @AY @uO))) (ai (ai @uP @AZ) (ai @A0 (ai @uL @uM))))))))
def br:=ai (ai (ai (ai (ai @Fx @Ft) (ai @CR (ai @CS @CW))) (ai (ai @Fk @th) (ai @dG (ai @xr @ep)))) (ai (ai (ai @tf @Fs) (ai @Fm (ai @Fq @Fo))) (ai (ai @Fp @Fl) (ai @CI (ai @CH @xE))))) (ai (ai (ai (ai @w5 @w6) (ai @w7 (ai @wZ @w1))) (ai (ai @w2 @w3) (ai @wX (ai @w4 @wY)))) (ai (ai (ai @Option.bind_some.{0,0} @aU) (ai @aO (ai @xl @C0))) (ai (ai @C2 @CZ) (ai @kT (ai @vH @C1)))))
def dA:=ai (ai (ai (ai @List.getElem?_cons_zero.{0} (ai @List.getElem?_cons_succ.{0} @List.drop_zero.{0})) (ai (ai @List.drop_succ_cons.{0} @List.take_succ_cons.{0}) (ai @List.take_zero.{0} @List.set_cons_zero.{0}))) (ai (ai (ai @List.set_cons_succ.{0} @List.cons_append.{0}) (ai @List.nil_append.{0} @List.length_cons.{0})) (ai (ai @List.length_nil.{0} @List.all_cons.{0}) (ai @List.all_nil.{0} @Bool.and_true)))) (ai (ai (ai (ai @Bool.and_self @Nat.zero_add) (ai @Nat.add_zero @bf)) (ai (ai @and_self @and_true) (ai @true_and @if_true.{1}))) (ai (ai (ai @aS @gO) (ai @hA @qv)) (ai (ai @vs @r5) (ai @vr @vq))))
def cD:=ai (ai (ai (ai (ai @D9 (ai @Ea @Ef)) (ai (ai @Ep @D_) (ai @D7 @D8))) (ai (ai (ai @Eb @Ec) (ai @Ed @Ee)) (ai (ai @q3 @q4) (ai @wq @wo)))) (ai (ai (ai @Eg (ai @D1 @D2)) (ai (ai @D3 @D4) (ai @D5 @D6))) (ai (ai (ai @Eh @Ej) (ai @Ei @Ek)) (ai (ai @El @Em) (ai @En @Eo))))) (ai (ai (ai (ai @EK (ai @EO @ER)) (ai (ai @s9 @pj) (ai @s_ @EI))) (ai (ai (ai @wE @wG) (ai @wF @EU)) (ai (ai @EV @EW) (ai @EX @EY)))) (ai (ai (ai @EL (ai @EN @nM)) (ai (ai @wH @EM) (ai @EJ @EP))) (ai (ai (ai @ES @ET) (ai @q6 @EC)) (ai (ai @ED @EE) (ai @EG @EH)))))
def c7:=ai (ai (ai @zz (ai @zL @zB)) (ai @zI (ai @zH @zG))) (ai (ai @zF (ai @zE @zJ)) (ai @zK (ai @yC @Cd)))
def dw:=ai (ai (ai @ad.p7 @ad.dp) (ai @ad.get_set_same @ad.get_set_other)) (ai (ai @ad.bQ @ad.di) (ai @ad.CN @ad.set_set))
def dS:=ai (ai (ai (ai (ai (ai (ai @x2 @x3) (ai @xM (ai @xJ @xK))) (ai (ai @x7 @xY) (ai @xZ (ai @x0 @x1)))) (ai (ai (ai @x4 @x8) (ai @x9 (ai @x_ @x5))) (ai (ai @x6 @xV) (ai @xW (ai @xN @xI))))) (ai (ai (ai (ai @xP @xQ) (ai @xO (ai @xU @xX))) (ai (ai @xR @xL) (ai @xS (ai @xT @yW)))) (ai (ai (ai @yX @yY) (ai @yZ (ai @y0 @y1))) (ai (ai @y2 @y3) (ai @y4 (ai @y5 @y6)))))) (ai (ai (ai (ai (ai @y7 @y8) (ai @y9 (ai @y_ @za))) (ai (ai @zb @zc) (ai @oe (ai @og @zd)))) (ai (ai (ai @ze @zf) (ai @zg (ai @zh @zi))) (ai (ai @zj @zk) (ai @zl (ai @zm @zn))))) (ai (ai (ai (ai @zo @zp) (ai @zq (ai @zr @zs))) (ai (ai @zt @zu) (ai @zv (ai @zw @zx)))) (ai (ai (ai @yO @yP) (ai @yQ (ai @yR @yS))) (ai (ai @yT @yU) (ai @yV (ai @zY @zZ))))))) (ai (ai (ai (ai (ai (ai @z1 @z6) (ai @z7 (ai @z8 @z_))) (ai (ai @Aa @Ab) (ai @Ac (ai @Ad @Ae)))) (ai (ai (ai @Af @Ag) (ai @Ah (ai @Ai @Aj))) (ai (ai @Ak @Al) (ai @Am (ai @An @Ao))))) (ai (ai (ai (ai @Ap @Aq) (ai @Ar (ai @As @At))) (ai (ai @Au @Av) (ai @Aw (ai @Ax @Ay)))) (ai (ai (ai @Az @AA) (ai @AD (ai @AE @AF))) (ai (ai @AG @AH) (ai @AI (ai @AJ @zQ)))))) (ai (ai (ai (ai (ai @zR @zS) (ai @zT (ai @zU @zV))) (ai (ai @zW @zX) (ai @BT (ai @qk @rV)))) (ai (ai (ai @ql @rW) (ai @qm (ai @rX @qn))) (ai (ai @rY @lK) (ai @qo (ai @BN @BO))))) (ai (ai (ai (ai @BP @BQ) (ai @rZ (ai @vd @BR))) (ai (ai @BS @BJ) (ai @BK (ai @BL @BM)))) (ai (ai (ai @AV @AW) (ai @AX (ai @uN @AY))) (ai (ai @uO (ai @uP @AZ)) (ai @A0 (ai @uL @uM)))))))
def Ct:=ai (ai @gO (ai @hA @qv)) (ai (ai @vs @r5) (ai @vr @vq))
def aj{p:Prop}(h:p:=by first|assumption|omega|(simp only[Cj];omega)|(simp only[Ct];done)|fail):p:=h
def NU{p:Prop}(h:p:=by first|assumption|omega|(simp only[Cj];omega)|(simp only[Ct];done)|(simp only[List.length_append,List.length_cons,List.length_nil];omega)|fail):p:=h
def G6:(∀cs,(aa.agg cs).cells=cs)/\(∀b,(aa.bool b).cells=[C b])/\(∀k n,(aa.int k n).cells=[.int k n])/\(∀s,(aa.str s).cells=[Y s])/\(∀l i c,(aa.ptr l i c).cells=[.ptr l i c])/\aa.nilPtr.cells=[.nilPtr]/\(∀l i n e c,(aa.ay l i n e c).cells=[.ay l i n e c])/\aa.ar.cells=[.ar]/\(∀f a b,(aa.func f a b).cells=[.func f a b])/\aa.nilFunc.cells=[.nilFunc]/\aa.nilIface.cells=[.nilIface]:=
 ⟨λ_=>rfl,λ_=>rfl,λ_ _=>rfl,λ_=>rfl,λ_ _ _=>rfl,rfl,λ_ _ _ _ _=>rfl,rfl,λ_ _ _=>rfl,rfl,rfl⟩
def av:=ai @bd.eq_1 (ai @cK.eq_1 (ai @al.eq_1 (ai @aT.eq_1 (ai G6 F4))))
end
abbrev aB:=List UInt8
structure Tok where
 kind:Int
 text:aB
 n:Int
 pos:Int
def Tok.none:Tok:=⟨0,[],0,0⟩
def ao(T:List Tok)(at_:Int):Tok:=if at_<0\/(T.length:Int)<=at_ then .none else T[at_.toNat]?.getD .none
structure aq where
 at_:Int
 bO:Int
 aD:Int
 cO:Int
abbrev jq(n:Int):Int:=IntKind.i64.wrap n
structure bM where
 kind:Int
 n:Int:=0
 name:aB:=[]
 cf:aB:=[]
 c3:Int:=0
 pos:Int:=0
 s3:Int:=0
 Ez:Int:=0
 ph:Int:=0
 ref:Int:=0
inductive aJ where
 |mk (a:bM) (kids:List aJ)
def aJ.zero:aJ:= .mk {kind:=0} []
def b8(T:List Tok)(s:aq)(k:Int)(x:aB):Bool:=s.aD==0&&((ao T s.at_).kind==k&&(ao T s.at_).text==x)
def cE(T:List Tok)(e:Int)(s:aq):aq:=if s.aD=0 then {s with aD:=e,cO:=(ao T s.at_).pos}else s
def aC(s:aq):aq:={s with at_:=jq (s.at_+1)}
def pg(T:List Tok)(k:Int)(x:aB)(s:aq):Bool×aq:=bif b8 T s k x then(X,aC s)else(U,s)
def eo(T:List Tok)(x:aB)(s:aq):Bool×aq:=bif b8 T s 4 x then(X,aC s)else(U,cE T 2 s)
def ds(T:List Tok)(x:aB)(s:aq):Bool×aq:=bif b8 T s 4 x then(if 50<=s.bO then(U,cE T 4 s)else(X,{s with at_:=jq (s.at_+1),bO:=jq (s.bO+1)}))else(U,cE T 2 s)
def er(s:aq):aq:={s with bO:=jq (s.bO-1)}
def ic(T:List Tok)(x:aB)(s:aq):Bool×aq:=eo T x (er s)
def hf(T:List Tok):Nat->Int->aq->(Int×aq) ⊕ aq
 |0,d,s=>bif b8 T s 4 [91]then .inr (cE T 4 s)else .inl (d,s)
 |n+1,d,s=>bif b8 T s 4 [91]then hf T n (d+1) (aC s)else .inl (d,s)
def jV(T:List Tok)(x:aB):Nat->aq->aq
 |0,s=>s
 |n+1,s=>jV T x n (eo T x s).2
def iN(T:List Tok)(d:Int)(s:aq):(aB×Int)×aq:=bif ((ao T s.at_).kind != 1&&(!b8 T s 3 [105,110,116]&& !b8 T s 3 [98,111,111,108]))then(([],0),cE T 2 s) else(((ao T s.at_).text,d),jV T [93] d.toNat (aC s))
def eO(T:List Tok)(s:aq):(aB×Int)×aq:=match hf T 3 0 s with
 | .inr s'=>(([],0),s')
 | .inl (d,s')=>iN T d s'
def jI:List (List (aB×Int)):=[[([124,124],24)],[([38,38],23)],[([60],19),([60,61],20),([61,61],21),([33,61],22)],[([43],14),([45],15)],[([42],16),([47],17),([37],18)]]
def lF(T:List Tok)(s:aq):List (aB×Int)->Int
 |[]=>0
 |(x,k)::r=>bif b8 T s 4 x then k else lF T s r
def lG(T:List Tok)(lev:Nat)(s:aq):Int:=lF T s (jI[lev]?.getD [])
def EB(T:List Tok)(s:aq):aJ×aq:=(.mk {kind:=2,n:=bif (ao T s.at_).text==[116,114,117,101]then 1 else 0,pos:=(ao T s.at_).pos} [],aC s)
def Ci(T:List Tok)(s:aq):aJ×aq:=(.mk {kind:=3,cf:=(eO T (aC s)).1.1,c3:=(eO T (aC s)).1.2,pos:=(ao T s.at_).pos} [],(eO T (aC s)).2)
def qK(T:List Tok)(s:aq):aJ×aq:=(.mk {kind:=11,pos:=(ao T s.at_).pos} [],bif (ds T [40] (aC s)).1 then(ic T [41] (ds T [40] (aC s)).2).2 else(ds T [40] (aC s)).2)
def ja(T:List Tok)(e:aJ)(s:aq):aJ×aq:=(.mk {kind:=5,name:=(ao T (aC s).at_).text,pos:=(ao T s.at_).pos} [e],aC (bif (ao T (aC s).at_).kind != 1 then cE T 2 (aC s)else aC s))
abbrev ae(α:Type):=Option (α×aq)
mutual
def hC(T:List Tok):Nat->Nat->aq->ae aJ
 |0,_,_=>Z
 |n+1,lev,s=>if lev=5 then nP T n s else(hC T n (lev+1) s).bind λp=>nb T n lev p.1 p.2
def nb(T:List Tok):Nat->Nat->aJ->aq->ae aJ
 |0,_,_,_=>Z
 |n+1,lev,e,s=>if lG T lev s=0 then D (e,s)else
  (hC T n (lev+1) (aC s)).bind λp=>nb T n lev (.mk {kind:=lG T lev s,pos:=(ao T s.at_).pos} [e,p.1]) p.2
def nP(T:List Tok):Nat->aq->ae aJ
 |0,_=>Z
 |n+1,s=>bif b8 T s 4 [45]then sY T n [45] 12 s else bif b8 T s 4 [33]then sY T n [33] 13 s else rv T n s
def sY(T:List Tok):Nat->aB->Int->aq->ae aJ
 |0,_,_,_=>Z
 |n+1,x,k,s=>bif (ds T x s).1 then(nP T n (ds T x s).2).bind λp=>D (.mk {kind:=k,pos:=(ao T s.at_).pos} [p.1],er p.2)else D (.zero,(ds T x s).2)
def rv(T:List Tok):Nat->aq->ae aJ
 |0,_=>Z
 |n+1,s=>(kM T n s).bind λp=>jA T n p.1 p.2
def jA(T:List Tok):Nat->aJ->aq->ae aJ
 |0,_,_=>Z
 |n+1,e,s=>bif s.aD==0&&(ao T s.at_).kind==4 then
  (bif (ao T s.at_).text==[46]then jA T n (ja T e s).1 (ja T e s).2
  else bif (ao T s.at_).text==[91]then(jU T n [91] [93] s).bind λp=>jA T n (.mk {kind:=6,pos:=(ao T s.at_).pos} [e,p.1]) p.2
  else D (e,s))else D (e,s)
def jU(T:List Tok):Nat->aB->aB->aq->ae aJ
 |0,_,_,_=>Z
 |n+1,b,c,s=>bif (ds T b s).1 then(hC T n 0 (ds T b s).2).bind λp=>D (p.1,(ic T c p.2).2)else D (.zero,(ds T b s).2)
def kM(T:List Tok):Nat->aq->ae aJ
 |0,_=>Z
 |n+1,s=>if s.aD≠0 then D (.zero,s)else
  if(ao T s.at_).kind=2 then D (.mk {kind:=1,n:=(ao T s.at_).n,pos:=(ao T s.at_).pos} [],aC s)else
  if(ao T s.at_).kind=1 then vk T n s else
  if(ao T s.at_).kind=3\/(ao T s.at_).kind=4 then
   (bif (ao T s.at_).kind==4 then(bif (ao T s.at_).text==[40]then jU T n [40] [41] s else D (.zero,cE T 2 s))
   else bif (ao T s.at_).text==[116,114,117,101]||(ao T s.at_).text==[102,97,108,115,101]then D (EB T s)
   else bif (ao T s.at_).text==[110,117,108,108]then D (Ci T s)
   else bif (ao T s.at_).text==[110,101,119]then uC T n s
   else bif (ao T s.at_).text==[108,101,110]then(jU T n [40] [41] (aC s)).bind λp=>D (.mk {kind:=10,pos:=(ao T s.at_).pos} [p.1],p.2)
   else bif (ao T s.at_).text==[114,101,97,100]then D (qK T s)
   else D (.zero,cE T 2 s))
  else D (.zero,cE T 2 s)
def vk(T:List Tok):Nat->aq->ae aJ
 |0,_=>Z
 |n+1,s=>bif b8 T (aC s) 4 [40]then(qj T n (aC s)).bind λp=>D (.mk {kind:=7,name:=(ao T s.at_).text,pos:=(ao T s.at_).pos} p.1,p.2)
  else D (.mk {kind:=4,name:=(ao T s.at_).text,pos:=(ao T s.at_).pos} [],aC s)
def uC(T:List Tok):Nat->aq->ae aJ
 |0,_=>Z
 |n+1,s=>bif b8 T (aC s) 4 [91]then
  (jU T n [40] [41] (eo T [93] (eO T (aC (aC s))).2).2).bind λp=>
   D (.mk {kind:=9,cf:=(eO T (aC (aC s))).1.1,c3:=(eO T (aC (aC s))).1.2,pos:=(ao T s.at_).pos} [p.1],p.2)
  else D (.mk {kind:=8,cf:=(ao T (aC s).at_).text,pos:=(ao T s.at_).pos} [],aC (bif (ao T (aC s).at_).kind != 1 then cE T 2 (aC s)else aC s))
def qj(T:List Tok):Nat->aq->ae (List aJ)
 |0,_=>Z
 |n+1,s=>bif (ds T [40] s).1 then
  (bif b8 T (ds T [40] s).2 4 [41]then D ([],(ic T [41] (ds T [40] s).2).2)
  else(hC T n 0 (ds T [40] s).2).bind λp=>oC T n [p.1] p.2)
  else D ([],(ds T [40] s).2)
def oC(T:List Tok):Nat->List aJ->aq->ae (List aJ)
 |0,_,_=>Z
 |n+1,l,s=>bif (pg T 4 [44] s).1 then(hC T n 0 (pg T 4 [44] s).2).bind λp=>oC T n (l++[p.1]) p.2
  else D (l,(ic T [41] (pg T 4 [44] s).2).2)
end
def Tok.cells(t:Tok):List aa:=[I J t.kind,Y t.text,I J t.n,I J t.pos]
def Tok.v(t:Tok):aa:= .agg [I J t.kind,Y t.text,I J t.n,I J t.pos]
def eC(H:ad)(v:aa)(T:List Tok):Prop:=(v= .ar/\T=[])\/∃l i cap,v= .ay l i T.length 4 cap/\(T=[]\/∃ro els,H.get l=D (.row ro 4 els)/\∀(k:Nat) (t:Tok),T[k]? =D t->els[i+k]? =D t.cells)
def iV(H:ad)(r:Nat)(ak cr:aa)(s:aq):Prop:=H.get r=D (.row U 6 [[ak,I J s.at_,I J s.bO,cr,I J s.aD,I J s.cO]])
def IQ:List (List (List aa)):=[[[Y [124,124],I J 24]],[[Y [38,38],I J 23]],[[Y [60],I J 19],[Y [60,61],I J 20],[Y [61,61],I J 21],[Y [33,61],I J 22]],[[Y [43],I J 14],[Y [45],I J 15]],[[Y [42],I J 16],[Y [47],I J 17],[Y [37],I J 18]]]
def nT(H:ad)(cr:aa):Prop:=∃l i cap ro els,cr= .ay l i 5 1 cap/\H.get l=D (.row ro 1 els)/\∀(k:Nat) (row:List (List aa)),IQ[k]? =D row->∃l' c d h a,els[i+k]? =D [.ay l' c row.length 2 d]/\H.get l'=D (.row h 2 a)/\∀(j:Nat) (e:List aa),row[j]? =D e->a[c+j]? =D e
def nS(H:ad)(cr:aa):Prop:=cr= .ar\/nT H cr
structure jv(H:ad)(r:Nat)(T:List Tok)(ak cr:aa)(s:aq):Prop where
 rd:iV H r ak cr s
 bu:eC H ak T
 cr:nS H cr
abbrev b2(r:Nat):ad->ad->Prop:=cX (· =r)
def eC.aY{H H':ad}{v:aa}{T:List Tok}(h:eC H v T)(p:∀l ro els,H.get l=D (.row ro 4 els)->H'.get l=D (.row ro 4 els)):eC H' v T:=by
 rcases h with h|⟨l,i,cap,c,a|⟨ro,els,a,d⟩⟩
 ·exact .inl h
 ·exact .inr ⟨l,i,cap,c,.inl a⟩
 ·exact .inr ⟨l,i,cap,c,.inr ⟨ro,els,p _ _ _ a,d⟩⟩
def eC.aK{H H':ad}{v:aa}{T:List Tok}(h:eC H v T)(p:aM H H'):eC H' v T:=h.aY λ_ _ _ e=>p.get e
def eC.one{H:ad}{v:aa}{T:List Tok}(h:eC H v T):v.one=true:=by
 rcases h with⟨rfl,_⟩|⟨l,i,cap,rfl,_⟩<;>rfl
def nT.one{H:ad}{v:aa}(h:nT H v):v.one=true:=by
 obtain⟨l,i,cap,ro,els,rfl,_⟩:=h;rfl
def nS.one{H:ad}{v:aa}(h:nS H v):v.one=true:=by
 rcases h with rfl|h
 ·rfl
 ·exact h.one
def nT.aY{H H':ad}{v:aa}(h:nT H v)(p:∀l ro n els,n≠6->H.get l=D (.row ro n els)->H'.get l=D (.row ro n els)):nT H' v:=by
 obtain⟨l,i,cap,ro,els,m,o,q⟩:=h;refine⟨l,i,cap,ro,els,m,p _ _ _ _ af o,λk row s=> ?_⟩;obtain⟨l',u,a,w,j,c,d,e⟩:=q k row s;exact⟨l',u,a,w,j,c,p _ _ _ _ af d,e⟩
def nS.aY{H H':ad}{v:aa}(h:nS H v)(p:∀l ro n els,n≠6->H.get l=D (.row ro n els)->H'.get l=D (.row ro n els)):nS H' v:=by
 rcases h with rfl|h
 ·exact .inl rfl
 ·exact .inr (h.aY p)
def iV.aK{H H':ad}{r:Nat}{ak cr:aa}{s:aq}(a:iV H r ak cr s)(p:aM H H'):iV H' r ak cr s:=p.get a
def iV.lt{H:ad}{r:Nat}{ak cr:aa}{s:aq}(a:iV H r ak cr s):r<H.next:=ad.aR a
def jv.mut{H H':ad}{r:Nat}{T:List Tok}{ak cr:aa}{s s':aq}(h:jv H r T ak cr s)(m:b2 r H H')(c:iV H' r ak cr s'):jv H' r T ak cr s':=by
 have a:∀l ro n els,n≠6->H.get l=D (.row ro n els)->H'.get l=D (.row ro n els):=λl ro n els d e=>m.get e (by
  rintro rfl;rw[h.rd]at e;simp only[aS,bN.row.injEq]at e;exact d e.2.1.symm)
 exact⟨c,h.bu.aY λl ro els e=>a l ro 4 els af e,h.cr.aY a⟩
def jv.aK{H H':ad}{r:Nat}{T:List Tok}{ak cr:aa}{s:aq}(h:jv H r T ak cr s)(p:aM H H'):jv H' r T ak cr s:=h.mut (p.mut _) (h.rd.aK p)
def j_(c:Int):Bool:=(decide (97<=c)&&decide (c<=122))||(decide (65<=c)&&decide (c<=90))
def lC(c:Int):Bool:=decide (48<=c)&&decide (c<=57)
def dj(b:UInt8):Bool:=j_ b.toNat
def du(b:UInt8):Bool:=lC b.toNat
def nQ:List aB:=[[114,101,99,111,114,100],[103,108,111,98,97,108],[102,117,110,99],[118,97,114],[108,101,116],[105,102],[101,108,115,101],[119,104,105,108,101],[114,101,116,117,114,110],[112,114,105,110,116],[110,117,108,108],[110,101,119],[108,101,110],[114,101,97,100],[116,114,117,101],[102,97,108,115,101],[105,110,116],[98,111,111,108]]
def e5(x:aB):List aB->Bool
 |[]=>U
 |y::a=>y==x||e5 x a
def e1(x:aB):Bool:=e5 x nQ
def iX:aB->Bool
 |[]=>X
 |c::r=>(dj c||du c)&&iX r
def dQ(x:aB):Bool:=decide (1<=x.length)&&(decide (x.length<=8)&&(dj (x.headD 0)&&(!e1 x&&iX x)))
def runN(d:Bool):aB->Nat
 |[]=>0
 |c::r=>bif du c||(!d&&dj c)then runN d r+1 else 0
def gV:Int->aB->Option Int
 |n,[]=>D n
 |n,c::r=>if(9223372036854775807-((c.toNat:Int)-48))/10<n then Z else gV (10*n+((c.toNat:Int)-48)) r
def h4:List aB:=[[60,61],[61,61],[33,61],[38,38],[124,124]]
def gl:aB:=[123,125,40,41,91,93,59,58,44,46,61,43,45,42,47,37,60,33]
def hd(c:UInt8):aB->Bool
 |[]=>U
 |y::a=>c.toNat==y.toNat||hd c a
def gD(s:aB):aB:=bif decide (2<=s.length)&&e5 (s.take 2) h4 then s.take 2 else match s with
 |c::_=>bif hd c gl then[c]else[]
 |[]=>[]
def hb(c:UInt8):Bool:=c.toNat==32||(c.toNat==9||(c.toNat==10||c.toNat==13))
def cw:Bool->aB->Nat
 |_,[]=>0
 |true,c::r=>bif c.toNat==10 then cw U r+1 else cw X r+1
 |false,c::r=>bif hb c then cw U r+1 else bif c==47&&r.head?==D 47 then cw X r+1 else 0
def fL(s:aB):Option (Int×aB×Int×Nat):=match s with
 |[]=>Z
 |c::_=>
  bif dj c then(bif e1 (s.take (runN U s))then D (3,s.take (runN U s),0,runN U s)else bif dQ (s.take (runN U s))then D (1,s.take (runN U s),0,runN U s)else Z)
  else bif du c then
   (match gV 0 (s.take (runN X s))with
   |none=>Z
   |some v=>bif (decide (1<runN X s)&&c.toNat==48)||(decide (runN X s<s.length)&&dj ((s[runN X s]?).getD 0))then Z else D (2,[],v,runN X s))
  else bif gD s==[]then Z else D (4,gD s,0,(gD s).length)
def fr:Nat->aB->Nat->Nat ⊕ List Tok
 |0,_,p=> .inl p
 |_+1,[],p=> .inr [⟨0,[],0,p⟩]
 |n+1,c::r,p=>match fL (c::r)with
  |none=> .inl p
  |some (k,t,v,m)=>match fr n (((c::r).drop m).drop (cw U ((c::r).drop m))) (p+m+cw U ((c::r).drop m))with
   | .inl e=> .inl e
   | .inr l=> .inr (⟨k,t,v,p⟩::l)
def oA(s:aB):Nat ⊕ List Tok:=fr (s.length+1) (s.drop (cw U s)) (cw U s)
def dq(s:aB):List Tok×Int×Int:=if 6000<s.length then([],4,0)else match oA s with
 | .inl e=>([],1,e)
 | .inr l=>(l,0,0)
def Il(s:List UInt8)(k:Int):eE P 9 (Y s) (I J k)=if 0<=k then(match s[k.toNat]? with|some b=>D (I .u8 b.toNat)|none=>Z)else none:=ah
def jH{s:List UInt8}{k:Nat}{b:UInt8}(h:s[k]? =D b):eE P 9 (Y s) (I J (k:Int))=D (I .u8 b.toNat):=by
 rw[Il,if_pos af];simp[h]
def Im{s:List UInt8}{b:UInt8}(h:s[0]? =D b):eE P 9 (Y s) (I J 0)=D (I .u8 b.toNat):=jH (k:=0) h
def kE(a b:Nat)(h:a+b<=4000000000000000000):IntKind.i64.wrap ((a:Int)+(b:Int))=((a+b:Nat):Int):=by rw[wrap_i64 af af];omega
def h5(a:Nat)(h:a<=4000000000000000000):IntKind.i64.wrap ((a:Int)+1)=((a+1:Nat):Int):=by rw[wrap_i64 af af];omega
def te(a:Nat)(h:a<=4000000000000000000):IntKind.i64.wrap ((a:Int)+2)=((a+2:Nat):Int):=by rw[wrap_i64 af af];omega
def Fi(a b:Nat)(h:a<=4000000000000000000)(c:b<=a):IntKind.i64.wrap ((a:Int)-(b:Int))=((a-b:Nat):Int):=by rw[wrap_i64 af af];omega
def oy{H:ad}(c:Int):W (aA P aw 62 [I .u8 c] H) λv H'=>v= C (j_ c)/\H'=H:=by
 refine cA (λ_=>KA 0) ?_;unfold j_;cases a:decide (97<=c)<;>cases d:decide (c<=122)<;>cases e:decide (65<=c)<;>cases h:decide (c<=90)<;>
  (simp-implicitDefEqProofs(disch:=try exact aj)only[sR,bd,br,c7,a,d,e,h];exact a_.2 ⟨rfl,rfl⟩)
def ud{H:ad}(c:Int):W (aA P aw 66 [I .u8 c] H) λv H'=>v= C (lC c)/\H'=H:=by
 refine cA (λ_=>KE 0) ?_;unfold lC;cases a:decide (48<=c)<;>cases d:decide (c<=57)<;>
  (simp-implicitDefEqProofs(disch:=try exact aj)only[sS,bd,br,c7,a,d];exact a_.2 ⟨rfl,rfl⟩)
def drop_cons{s:aB}{k:Nat}{c:UInt8}{r:aB}(h:s.drop k=c::r):s[k]? =D c/\s.drop (k+1)=r/\k<s.length/\s.length=k+1+r.length:=by
 have a:s[k]? =D c:=by
  have:=List.getElem?_drop (xs:=s) (i:=k) (j:=0);rw[h]at this;simpa using this.symm
 have d:s.drop (k+1)=r:=by
  have:(s.drop k).drop 1=r:=by rw[h];rfl
  rwa[List.drop_drop]at this
 have e:k<s.length:=(List.getElem?_eq_some_iff.1 a).1;have l:=congrArg List.length h;simp at l;exact⟨a,d,e,af⟩
def drop_nil{s:aB}{k:Nat}(h:s.drop k=[]):s.length<=k:=List.drop_eq_nil_iff.1 h
def Dw{H:ad}{s:aB}(az:s.length<=1000000000000000000)(at_:Nat)(d:Bool)(N:Nat):∀(rest:aB) (n m:Nat),s.drop (at_+n)=rest->at_+n<=s.length->rest.length<m->
  W (k8 (aA P aw) N m (Y s) (I J at_) (C d) (I J n) H) λv H'=>v= I J ((n+runN d rest:Nat):Int)/\H'=H
 |_,_,0,_,_,hm=>af
 |[],n,m+1,h,u,hm=>by
  have:=drop_nil h;have i:¬(((at_+n:Nat):Int)<(s.length:Int)):=af;simp-implicitDefEqProofs(disch:=try exact aj)only[k8,jg,ko,jR,reduceAdd,reduceLeDiff,reduceIte,av,kE,i,decide_false];exact a_.2 ⟨by simp[runN],rfl⟩
 |c::r,n,m+1,h,u,hm=>by
  obtain⟨p,q,x,y⟩:=drop_cons h;have i:(((at_+n:Nat):Int)<(s.length:Int)):=af;have w:=Dw (H:=H) az at_ d N r (n+1) m (by rw[<-Nat.add_assoc];exact q) af (by simp at hm;omega);have j:=jH p;simp-implicitDefEqProofs(disch:=try exact aj)only[k8,jg,ko,jR,reduceAdd,reduceLeDiff,reduceIte,av,kE,i,decide_true,j];refine nZ (ud _) ?_;have fin:∀b,(du c||(!d&&dj c))=b->(b=X->W (k8 (aA P aw) N m (Y s) (I J at_) (C d) (I J ((n+1:Nat):Int)) H) λv H'=>v= I J ((n+runN d (c::r):Nat):Int)/\H'=H)/\(b=U->n+runN d (c::r)=n):=by
   intro b k;refine⟨λh=> ?_,λh=> ?_⟩
   ·refine w.mono ?_;rintro v H' ⟨rfl,rfl⟩;subst h;have e:runN d (c::r)=runN d r+1:=by rw[runN,k];rfl
    have o:n+1+runN d r=n+runN d (c::r):=by rw[e];omega
    exact⟨by rw[o],rfl⟩
   ·subst h;rw[runN,k];rfl
  cases a:lC (c.toNat:Int)with
  |true=>
   simp-implicitDefEqProofs(disch:=try exact aj)only[jg,ko,jR,bd,br,c7,h5];exact(fin X (by simp[du,a])).1 rfl
  |false=>
   cases d with
   |true=>
    simp-implicitDefEqProofs(disch:=try exact aj)only[jg,ko,jR,bd,br,Bool.not_true];exact a_.2 ⟨by rw[(fin U (by simp[du,a])).2 rfl],rfl⟩
   |false=>
    simp-implicitDefEqProofs(disch:=try exact aj)only[jg,ko,jR,reduceAdd,reduceLeDiff,reduceIte,av,Bool.not_false,kE,j];refine nZ (oy _) ?_;cases l:j_ (c.toNat:Int)with
    |true=>
     simp-implicitDefEqProofs(disch:=try exact aj)only[jg,ko,jR,bd,br,c7,h5];exact(fin X (by simp[du,dj,a,l])).1 rfl
    |false=>
     simp-implicitDefEqProofs(disch:=try exact aj)only[jg,ko,jR,bd,br];exact a_.2 ⟨by rw[(fin U (by simp[du,dj,a,l])).2 rfl],rfl⟩
def Dz{H:ad}{s:aB}(az:s.length<=1000000000000000000)(at_:Nat)(a:at_<=s.length)(d:Bool):W (aA P aw 63 [Y s,I J at_,C d] H) λv H'=>v= I J (runN d (s.drop at_):Nat)/\H'=H:=by
 refine cA (λ_=>KB (s.length+1)) ?_;rw[jR];have:=Dw (H:=H) az at_ d (s.length+1) (s.drop at_) 0 (s.length+1) rfl af (by simp;omega);simpa using this
def xg{H:ad}{x:aB}{l:Nat}(N:Nat)(all:List aB)(i:all.length<=1000)(d:H.get l=D (.row U 1 (all.map λy=>[aa.str y]))):∀(rest pre:List aB),all=pre++rest->∀(m:Nat),rest.length<m->
  W (l7 (aA P aw) N m (Y x) (.ay l 0 all.length 1 (D all.length)) (I J pre.length) H) λv H'=>v= C (e5 x rest)/\H'=H
 |_,_,_,0,hm=>af
 |[],pre,aF,m+1,hm=>by
  have a:¬((pre.length:Int)<(all.length:Int)):=by rw[aF];simp
  simp-implicitDefEqProofs(disch:=try exact aj)only[l7,k9,nB,nA,l6,reduceAdd,reduceLeDiff,reduceIte,av,a,decide_false];exact a_.2 ⟨rfl,rfl⟩
 |y::j,pre,aF,m+1,hm=>by
  have a:((pre.length:Int)<(all.length:Int)):=by rw[aF];simp;omega
  have k:(0:Int)<=(pre.length:Int):=af;have h:((pre.length:Int)).toNat=pre.length:=af;have hle:pre.length<all.length:=af;have he:(all.map λy=>[aa.str y])[pre.length]? =D [aa.str y]:=by rw[aF];simp
  have hw:((pre++[y]).length:Int)=((pre.length+1:Nat):Int):=by simp
  simp-implicitDefEqProofs(disch:=try exact aj)only[l7,k9,nB,nA,l6,reduceAdd,reduceLeDiff,reduceIte,av,a,decide_true,d,h,he];cases c:y==x with
  |true=>
   simp-implicitDefEqProofs(disch:=try exact aj)only[k9,nB,nA,l6,bd,br];exact a_.2 ⟨by simp[e5,c],rfl⟩
  |false=>
   have e:=xg (H:=H) (x:=x) N all i d j (pre++[y]) (by simp[aF]) m (by simp at hm;omega);rw[hw]at e;simp-implicitDefEqProofs(disch:=try exact aj)only[k9,nB,nA,l6,bd,br,c7,h5];refine e.mono ?_;rintro v H' ⟨rfl,rfl⟩;exact⟨by simp[e5,c],rfl⟩
def xh{H:ad}(x:aB):W (aA P aw 64 [Y x] H) λv H'=>v= C (e1 x)/\aM H H':=by
 refine cA (λ_=>KC 19) ?_;rw[l6];have hw:W (aA P aw 81 [] H) λv H'=>v= .ay H.next 0 nQ.length 1 (D nQ.length)/\H'=H.push (.row U 1 (nQ.map λy=>[aa.str y])):=by
  refine cA (λ_=>KN 0) ?_;rw[sU];simp only[tf,vZ];exact a_.2 ⟨rfl,rfl⟩
 refine aL hw ?_;rintro _ _ ⟨rfl,rfl⟩;refine⟨(aM.push _ _).1,?_⟩;rw[nA];refine(xg (x:=x) 19 nQ b1 (ad.bx _ _) nQ [] rfl 19 b1).mono ?_;rintro v H' ⟨rfl,rfl⟩;exact⟨rfl,aM.push _ _⟩
def w9{H:ad}{s:aB}(az:s.length<=1000000000000000000)(N:Nat):∀(rest:aB) (n m:Nat),s.drop n=rest->n<=s.length->rest.length<m->
  W (l8 (aA P aw) N m (Y s) (I J n) H) λv H'=>v= C (iX rest)/\H'=H
 |_,_,0,_,_,hm=>af
 |[],n,m+1,h,p,hm=>by
  have:=drop_nil h;have a:¬((n:Int)<(s.length:Int)):=af;simp-implicitDefEqProofs(disch:=try exact aj)only[l8,gS,h1,hF,reduceAdd,reduceLeDiff,reduceIte,av,a,decide_false];exact a_.2 ⟨by simp[iX],rfl⟩
 |c::r,n,m+1,h,p,hm=>by
  obtain⟨l,o,q,u⟩:=drop_cons h;have a:((n:Int)<(s.length:Int)):=af;have k:=w9 (H:=H) az N r (n+1) m o af (by simp at hm;omega);have d:=jH l;simp-implicitDefEqProofs(disch:=try exact aj)only[l8,gS,h1,hF,reduceAdd,reduceLeDiff,reduceIte,av,a,decide_true,d];refine lu (oy _) ?_;cases j:j_ (c.toNat:Int)with
  |true=>
   simp-implicitDefEqProofs(disch:=try exact aj)only[gS,h1,hF,bd,br,c7,Bool.not_true,h5];refine k.mono ?_;rintro v H' ⟨rfl,e⟩;exact⟨by simp[iX,dj,j],e⟩
  |false=>
   simp-implicitDefEqProofs(disch:=try exact aj)only[gS,h1,hF,reduceAdd,reduceLeDiff,reduceIte,av,Bool.not_false,d];refine nZ (ud _) ?_;cases i:lC (c.toNat:Int)with
   |true=>
    simp-implicitDefEqProofs(disch:=try exact aj)only[gS,h1,hF,bd,br,c7,Bool.not_true,h5];refine k.mono ?_;rintro v H' ⟨rfl,e⟩;exact⟨by simp[iX,du,i],e⟩
   |false=>
    simp-implicitDefEqProofs(disch:=try exact aj)only[gS,h1,hF,bd,br,c7,Bool.not_false];exact a_.2 ⟨by simp[iX,dj,du,j,i],rfl⟩
def FE{H:ad}{s:aB}(az:s.length<=1000000000000000000):W (aA P aw 65 [Y s] H) λv H'=>v= C (dQ s)/\aM H H':=by
 refine cA (λ_=>KD (s.length+1)) ?_;cases d:s with
 |nil=>
  have a:((([]:aB).length:Nat):Int)<1:=by simp
  simp-implicitDefEqProofs(disch:=try exact aj)only[gS,h1,hF,bd,br,dS,c7,a,decide_true];exact a_.2 ⟨by simp[dQ],.refl _⟩
 |cons c r=>
  rw[<-d];have p:1<=s.length:=by rw[d];simp
  have a:¬((s.length:Int)<1):=af;have n:s[0]? =D c:=by rw[d];rfl
  have o:=Im n;have l:s.headD 0=c:=by rw[d];rfl
  by_cases j:(8:Int)<(s.length:Int)
  ·have h:¬s.length<=8:=af;simp-implicitDefEqProofs(disch:=try exact aj)only[gS,h1,hF,bd,br,dS,c7,a,j,decide_true,decide_false];exact a_.2 ⟨by simp[dQ,h],.refl _⟩
  ·have h:s.length<=8:=af;simp-implicitDefEqProofs(disch:=try exact aj)only[gS,h1,hF,bd,br,dS,c7,a,j,decide_false,o];refine nZ (oy _) ?_;cases k:j_ (c.toNat:Int)with
   |false=>
    simp-implicitDefEqProofs(disch:=try exact aj)only[gS,h1,hF,bd,br,Bool.not_false];exact a_.2 ⟨by unfold dQ;rw[l];simp[dj,k],.refl _⟩
   |true=>
    simp-implicitDefEqProofs(disch:=try exact aj)only[gS,h1,hF,bd,br,Bool.not_true];refine jw (xh s) ?_;rintro _ m ⟨rfl,i⟩;refine⟨i.1,?_⟩;cases hw:e1 s with
    |true=>
     simp-implicitDefEqProofs(disch:=try exact aj)only[gS,h1,hF,bd,br];exact a_.2 ⟨by simp[dQ,hw],i⟩
    |false=>
     simp-implicitDefEqProofs(disch:=try exact aj)only[gS,hF,bd,br];refine(w9 (H:=m) az (s.length+1) s 0 (s.length+1) rfl af af).mono ?_;rintro v H' ⟨rfl,e⟩;exact⟨by unfold dQ;rw[l];simp[p,h,dj,k,hw],by rw[e];exact i⟩
def yt(n:Int):lv P 5 3 (I .u8 n)=D (I J (IntKind.i64.wrap n)):=ah
def CV(t:Bool)(a:Int):an P .quo 3 t (I J a) (I J 10)=D (I J (IntKind.i64.wrap (a.tdiv 10))):=by simp[an,ht]
def I0(t:Bool)(a b:Int):an P .mul 3 t (I J a) (I J b)=D (I J (IntKind.i64.wrap (a*b))):=Ho _ _ _ _ _
def wrap_u8{n:Int}(a:0<=n)(c:n<=255):IntKind.u8.wrap n=n:=by
 show n%256=n;omega
def Ff{H:ad}{s:aB}(az:s.length<=1000000000000000000)(N:Nat):∀(rest:aB) (n m:Nat) (acc:Int),s.drop n=rest->n<=s.length->rest.length<m->0<=acc->acc<=9223372036854775807->(∀c∈rest,du c=X)->
  W (k_ (aA P aw) N m (Y s) (I J acc) (I J n) H) λv H'=>v=(match gV acc rest with|some z=> .tuple [I J z,C X]|none=> .tuple [I J 0,C U])/\H'=H
 |_,_,0,_,_,_,hm,_,_,_=>af
 |[],n,m+1,acc,h,B,hm,y,A,j=>by
  have:=drop_nil h;have a:¬((n:Int)<(s.length:Int)):=af;simp-implicitDefEqProofs(disch:=try exact aj)only[k_,l9,o_,nC,reduceAdd,reduceLeDiff,reduceIte,av,a,decide_false];exact a_.2 ⟨by simp[gV],rfl⟩
 |c::r,n,m+1,acc,h,B,hm,y,A,j=>by
  obtain⟨w,x,K,L⟩:=drop_cons h;have a:((n:Int)<(s.length:Int)):=af;have k:=jH w;have i:=j c (by simp);simp only[du,lC,Bool.and_eq_true,decide_eq_true_eq]at i;have l:IntKind.u8.wrap ((c.toNat:Int)-48)=(c.toNat:Int)-48:=wrap_u8 af af;have o:IntKind.i64.wrap ((c.toNat:Int)-48)=(c.toNat:Int)-48:=wrap_i64 af af;have p:IntKind.i64.wrap (9223372036854775807-((c.toNat:Int)-48))=9223372036854775807-((c.toNat:Int)-48):=wrap_i64 af af;have q:(9223372036854775807-((c.toNat:Int)-48)).tdiv 10=(9223372036854775807-((c.toNat:Int)-48))/10:=Int.tdiv_eq_ediv_of_nonneg af;have u:IntKind.i64.wrap ((9223372036854775807-((c.toNat:Int)-48))/10)=(9223372036854775807-((c.toNat:Int)-48))/10:=wrap_i64 af af
  by_cases d:(9223372036854775807-((c.toNat:Int)-48))/10<acc
  ·simp-implicitDefEqProofs(disch:=try exact aj)only[k_,l9,o_,nC,reduceAdd,reduceLeDiff,reduceIte,av,a,decide_true,k,l,o,p,q,u,CV,pv,yt,d];exact a_.2 ⟨by simp[gV,d],rfl⟩
  ·have F:IntKind.i64.wrap (10*acc)=10*acc:=wrap_i64 af af;have G:IntKind.i64.wrap (10*acc+((c.toNat:Int)-48))=10*acc+((c.toNat:Int)-48):=wrap_i64 af af;have E:=Ff (H:=H) az N r (n+1) m (10*acc+((c.toNat:Int)-48)) x af (by simp at hm;omega) af af (λc i=>j c (by simp[i]));simp-implicitDefEqProofs(disch:=try exact aj)only[k_,l9,o_,nC,reduceAdd,reduceLeDiff,reduceIte,av,a,decide_true,k,l,o,p,q,u,F,G,CV,I0,pv,yt,d,decide_false,h5];refine E.mono ?_;rintro v H' ⟨rfl,e⟩;exact⟨by rw[gV,if_neg d],e⟩
def Dt:∀(s:aB),∀c∈s.take (runN X s),du c=X
 |[],c,h=>by simp[runN]at h
 |x::r,c,h=>by
  rw[runN]at h;cases a:du x with
  |true=>
   simp only[a,Bool.true_or,aU,List.take_succ_cons,List.mem_cons]at h;rcases h with rfl|h
   ·exact a
   ·exact Dt r c h
  |false=>simp[a]at h
def NH{H:ad}{s:aB}(az:s.length<=1000000000000000000)(a:∀c∈s,du c=X):W (aA P aw 67 [Y s] H) λv H'=>v=(match gV 0 s with|some z=> .tuple [I J z,C X]|none=> .tuple [I J 0,C U])/\H'=H:=by
 refine cA (λ_=>KF (s.length+1)) ?_;rw[nC];exact Ff az (s.length+1) s 0 (s.length+1) 0 rfl af af af af a
def Nz:P.underlying 9=D .string:=ah
def q0{s:List UInt8}{a b:Nat}(e:a<=b)(h:b<=s.length):jy P 9 (Y s) (D (I J (a:Int))) (D (I J (b:Int))) Z=D (Y ((s.drop a).take (b-a))):=by
 have c:eD (D (I J (b:Int))) s.length s.length=D b:=by simp[eD];omega
 have d:eD (D (I J (a:Int))) 0 b=D a:=by simp[eD];omega
 simp only[jy,Nz,c,d]
def Cw{H:ad}{s:aB}{at_:Nat}{c:UInt8}(l:s[at_]? =D c)(N:Nat):∀(rest:aB) (j m:Nat),gl.drop j=rest->j<=18->rest.length<m->
  W (la (aA P aw) N m (Y s) (I J at_) (Y gl) (I J j) H) λv H'=>v= Y (bif hd c rest then[c]else[])/\H'=H
 |_,_,0,_,_,hm=>af
 |[],j,m+1,h,x,hm=>by
  have:=drop_nil h;have z:gl.length=18:=rfl;have d:¬((j:Int)<(gl.length:Int)):=af;simp-implicitDefEqProofs(disch:=try exact aj)only[la,jh,pa,kr,kq,kp,jS,reduceAdd,reduceLeDiff,reduceIte,av,d,decide_false];exact a_.2 ⟨by simp[hd],rfl⟩
 |y::r,j,m+1,h,x,hm=>by
  obtain⟨q,u,B,E⟩:=drop_cons h;have z:gl.length=18:=rfl;have d:((j:Int)<(gl.length:Int)):=af;have k:=jH q;have n:=jH l;have A:=Cw (H:=H) l N r (j+1) m u af (by simp at hm;omega);have p:=q0 (s:=gl) (a:=j) (b:=j+1) af af;have w:(gl.drop j).take (j+1-j)=[y]:=by rw[h,Nat.add_sub_cancel_left];rfl
  rw[w]at p;cases he:((c.toNat:Int)==(y.toNat:Int))with
  |true=>
   have o:c=y:=by
    have:(c.toNat:Int)=(y.toNat:Int):=by simpa using he
    exact UInt8.toNat_inj.1 af
   have i:(c.toNat==y.toNat)=true:=by rw[o];simp
   simp-implicitDefEqProofs(disch:=try exact aj)only[la,jh,pa,kr,kq,kp,jS,reduceAdd,reduceLeDiff,reduceIte,av,d,decide_true,k,n,he,h5,p];exact a_.2 ⟨by simp[hd,i,o],rfl⟩
  |false=>
   have i:(c.toNat==y.toNat)=false:=by
    have:¬(c.toNat:Int)=(y.toNat:Int):=by simpa using he
    simp;omega
   simp-implicitDefEqProofs(disch:=try exact aj)only[la,jh,pa,kr,kq,kp,jS,reduceAdd,reduceLeDiff,reduceIte,av,d,decide_true,k,n,he,h5];refine A.mono ?_;rintro v H' ⟨rfl,e⟩;exact⟨by simp[hd,i],e⟩
def Ji{H:ad}{s:aB}{at_:Nat}{c:UInt8}(a:s[at_]? =D c){N:Nat}(d:18<N):W (kr (aA P aw) N (Y s) (I J at_) H) λv H'=>v= Y (bif hd c gl then[c]else[])/\H'=H:=by
 rw[kr];exact Cw a N gl 0 N rfl af (by simp[gl];omega)
def E0{H:ad}{s:aB}(az:s.length<=1000000000000000000){at_:Nat}{c:UInt8}{r:aB}(n:s.drop at_=c::r){l:Nat}{N:Nat}(x:18<N)(i:H.get l=D (.row U 1 (h4.map λy=>[aa.str y]))):∀(rest pre:List aB),h4=pre++rest->∀(m:Nat),rest.length<m->
  W (kt (aA P aw) N m (Y s) (I J at_) (.ay l 0 5 1 (D 5)) (I J pre.length) H) λv H'=>v= Y (bif decide (2<=(s.drop at_).length)&&e5 ((s.drop at_).take 2) rest then(s.drop at_).take 2 else bif hd c gl then[c]else[])/\H'=H
 |_,_,_,0,hm=>af
 |[],pre,aF,m+1,hm=>by
  have K:pre.length=5:=by have:=congrArg List.length aF;simpa [h4]using this.symm
  have d:¬((pre.length:Int)<((5:Nat):Int)):=af;obtain⟨w,E,F,G⟩:=drop_cons n;simp-implicitDefEqProofs(disch:=try exact aj)only[kt,jh,kq,kp,jS,reduceAdd,reduceLeDiff,reduceIte,av,d,decide_false];refine(Ji w x).mono ?_;rintro v H' ⟨rfl,e⟩;exact⟨by simp[e5],e⟩
 |y::B,pre,aF,m+1,hm=>by
  obtain⟨w,E,F,G⟩:=drop_cons n;have K:pre.length+(B.length+1)=5:=by have:=congrArg List.length aF;simpa [h4]using this.symm
  have d:((pre.length:Int)<((5:Nat):Int)):=af;have L:(0:Int)<=(pre.length:Int):=af;have t1:((pre.length:Int)).toNat=pre.length:=af;have he:(h4.map λy=>[aa.str y])[pre.length]? =D [aa.str y]:=by rw[aF];simp
  have hw:((pre++[y]).length:Int)=((pre.length+1:Nat):Int):=by simp
  have q:=E0 (H:=H) az n x i B (pre++[y]) (by simp[aF]) m (by simp at hm;omega);rw[hw]at q;have z:(s.drop at_).length=s.length-at_:=by simp
  have u:IntKind.i64.wrap ((s.length:Int)-(at_:Int))=((s.length-at_:Nat):Int):=Fi s.length at_ af af;have M:=ad.aR i;by_cases j:(2:Int)<=((s.length-at_:Nat):Int)
  ·have k:decide (2<=(s.drop at_).length)=true:=by rw[z];simp;omega
   have o:=q0 (s:=s) (a:=at_) (b:=at_+2) af af;rw[Nat.add_sub_cancel_left]at o;cases h:((s.drop at_).take 2==y)with
   |true=>
    have A:(s.drop at_).take 2=y:=by simpa using h
    have p:(y==(s.drop at_).take 2)=true:=by rw[A];simp
    simp-implicitDefEqProofs(disch:=try exact aj)only[kt,jh,kq,kp,jS,reduceAdd,reduceLeDiff,reduceIte,av,d,decide_true,u,j,te,o,i,he,t1,h];exact a_.2 ⟨by rw[e5,k,p];rw[A];rfl,rfl⟩
   |false=>
    have p:(y==(s.drop at_).take 2)=false:=by
     have:¬(s.drop at_).take 2=y:=by simpa using h
     simp;exactλe=>this e.symm
    simp-implicitDefEqProofs(disch:=try exact aj)only[kt,jh,kq,kp,jS,reduceAdd,reduceLeDiff,reduceIte,av,d,decide_true,u,j,te,o,i,he,t1,h,h5];refine q.mono ?_;rintro v H' ⟨rfl,e⟩;exact⟨by simp only[e5,p,Bool.false_or],e⟩
  ·have k:decide (2<=(s.drop at_).length)=false:=by rw[z];simp;omega
   simp-implicitDefEqProofs(disch:=try exact aj)only[kt,jh,kq,kp,jS,reduceAdd,reduceLeDiff,reduceIte,av,d,decide_true,u,j,decide_false,h5];refine q.mono ?_;rintro v H' ⟨rfl,e⟩;exact⟨by simp only[k,Bool.false_and],e⟩
def MK{H:ad}{s:aB}(az:s.length<=1000000000000000000){at_:Nat}(d:at_<s.length):W (aA P aw 68 [Y s,I J at_] H) λv H'=>v= Y (gD (s.drop at_))/\aM H H':=by
 refine cA (λ_=>KG 30) ?_;obtain⟨c,r,a⟩:∃c r,s.drop at_=c::r:=by
  cases h:s.drop at_ with
  |nil=>have:=drop_nil h;omega
  |cons c r=>exact⟨c,r,rfl⟩
 rw[jS];simp only[tf];rw[kp];refine(E0 (H:=H.push _) az a af (ad.bx _ _) h4 [] rfl 30 b1).mono ?_;rintro v H' ⟨rfl,rfl⟩;refine⟨?_,aM.push _ _⟩;rw[a];rfl
def C_{H:ad}{s:aB}(az:s.length<=1000000000000000000)(l:aa->aa->ad->O)(N:Nat)(Q:aa->ad->Prop):∀(rest:aB) (at_ m:Nat),s.drop at_=rest->at_<=s.length->rest.length<m->
  (∀(k:Nat),(∀c' cg,rest=c'::cg->c'.toNat≠10->0<k)->at_+k<=s.length->(s.drop (at_+k)).length<=rest.length->k+cw U (s.drop (at_+k))=cw X rest->W (l (Y s) (I J ((at_+k:Nat):Int)) H) Q)->
  W (k5 (aA P aw) N l m (Y s) (I J at_) H) Q
 |_,_,0,_,_,hm,_=>af
 |[],at_,m+1,h,n,hm,j=>by
  have:=drop_nil h;have a:¬((at_:Int)<(s.length:Int)):=af;simp-implicitDefEqProofs(disch:=try exact aj)only[k5,hj,o0,hW,reduceAdd,reduceLeDiff,reduceIte,av,a,decide_false];exact j 0 (λ_ _ e=>by cases e) n (by simpa using congrArg List.length h) (by simp[h,cw])
 |c::r,at_,m+1,h,n,hm,j=>by
  obtain⟨p,q,y,z⟩:=drop_cons h;have a:((at_:Int)<(s.length:Int)):=af;have o:=jH p;cases d:((c.toNat:Int) != 10)with
  |false=>
   have i:c.toNat=10:=by
    have:(c.toNat:Int)=10:=by simpa using d
    omega
   simp-implicitDefEqProofs(disch:=try exact aj)only[k5,hj,o0,hW,reduceAdd,reduceLeDiff,reduceIte,av,a,decide_true,o,d];refine j 0 (λ_ _ e x=>by cases e;exact absurd i x) n (by simp only[Nat.add_zero,h];omega) ?_;simp[h,cw,hb,i]
  |true=>
   have i:(c.toNat==10)=false:=by
    have:¬(c.toNat:Int)=10:=by simpa using d
    simp;omega
   simp-implicitDefEqProofs(disch:=try exact aj)only[k5,hj,o0,hW,reduceAdd,reduceLeDiff,reduceIte,av,a,decide_true,o,d,h5];refine C_ az l N Q r (at_+1) m q af (by simp at hm;omega) (λk _ a u v=> ?_);have w:at_+1+k=at_+(k+1):=af;rw[w]at a u v ⊢;refine j (k+1) (λ_ _ _ _=>af) a (by simp only[List.length_cons];omega) ?_;simp only[cw,i,aO];omega
def tV{H:ad}{s:aB}(az:s.length<=1000000000000000000)(N:Nat)(T:s.length<N):∀(q:Nat) (rest:aB) (at_ m:Nat),rest.length<=q->s.drop at_=rest->at_<=s.length->rest.length<m->
  W (hE (aA P aw) N m (Y s) (I J at_) H) λv H'=>v= I J ((at_+cw U rest:Nat):Int)/\H'=H
 |_,_,_,0,_,_,_,hm=>af
 |_,[],at_,m+1,_,h,Q,hm=>by
  have:=drop_nil h;have j:¬((at_:Int)<(s.length:Int)):=af;simp-implicitDefEqProofs(disch:=try exact aj)only[hE,hj,jQ,hW,reduceAdd,reduceLeDiff,reduceIte,av,j,decide_false];exact a_.2 ⟨by simp[cw],rfl⟩
 |0,c::r,at_,m+1,E,h,Q,hm=>by simp at E
 |q+1,c::r,at_,m+1,E,h,Q,hm=>by
  obtain⟨L,M,ak,z⟩:=drop_cons h;have j:((at_:Int)<(s.length:Int)):=af;have o:=jH L;simp only[List.length_cons]at E hm;have G:hb c=X->W (hE (aA P aw) N m (Y s) (I J ((at_+1:Nat):Int)) H) λv H'=>v= I J ((at_+cw U (c::r):Nat):Int)/\H'=H:=by
   intro R;refine(tV (H:=H) az N T q r (at_+1) m af M af af).mono ?_;rintro v H' ⟨rfl,e⟩;have aa:at_+1+cw U r=at_+cw U (c::r):=by
    rw[cw,R,aU];omega
   exact⟨by rw[aa],e⟩
  have p:((c.toNat:Int)==32)=(c.toNat==32):=by rw[Bool.eq_iff_iff];simp;omega
  have x:((c.toNat:Int)==9)=(c.toNat==9):=by rw[Bool.eq_iff_iff];simp;omega
  have B:((c.toNat:Int)==10)=(c.toNat==10):=by rw[Bool.eq_iff_iff];simp;omega
  have K:((c.toNat:Int)==13)=(c.toNat==13):=by rw[Bool.eq_iff_iff];simp;omega
  cases i:c.toNat==32 with
  |true=>
   simp-implicitDefEqProofs(disch:=try exact aj)only[hE,hj,jQ,hW,reduceAdd,reduceLeDiff,reduceIte,av,j,decide_true,o,p,i,h5];exact G (by simp only[hb,i,Bool.true_or])
  |false=>
   cases l:c.toNat==9 with
   |true=>
    simp-implicitDefEqProofs(disch:=try exact aj)only[hE,hj,jQ,hW,reduceAdd,reduceLeDiff,reduceIte,av,j,decide_true,o,p,i,x,l,h5];exact G (by simp only[hb,l,Bool.true_or,Bool.or_true])
   |false=>
    cases n:c.toNat==10 with
    |true=>
     simp-implicitDefEqProofs(disch:=try exact aj)only[hE,hj,jQ,hW,reduceAdd,reduceLeDiff,reduceIte,av,j,decide_true,o,p,i,x,l,B,n,h5];exact G (by simp only[hb,n,Bool.true_or,Bool.or_true])
    |false=>
     cases u:c.toNat==13 with
     |true=>
      simp-implicitDefEqProofs(disch:=try exact aj)only[hE,hj,jQ,hW,reduceAdd,reduceLeDiff,reduceIte,av,j,decide_true,o,p,i,x,l,B,n,K,u,h5];exact G (by simp only[hb,u,Bool.or_true])
     |false=>
      have ae:hb c=false:=by simp only[hb,i,l,n,u,Bool.or_self]
      have S:IntKind.i64.wrap ((s.length:Int)-(at_:Int))=((s.length-at_:Nat):Int):=Fi s.length at_ af af;have V:(c==47&&r.head?==D 47)=U->cw U (c::r)=0:=λA=>by rw[cw,ae,aO,A,aO]
      by_cases O:(2:Int)<=((s.length-at_:Nat):Int)
      ·have F:=q0 (s:=s) (a:=at_) (b:=at_+2) af af;rw[Nat.add_sub_cancel_left,h]at F;obtain⟨y,d,rfl⟩:∃y d,r=y::d:=by
        cases r with
        |nil=>simp at z;omega
        |cons y d=>exact⟨y,d,rfl⟩
       simp only[List.take_succ_cons,List.take_zero]at F;cases w:(([c,y]:aB)==[47,47])with
       |true=>
        have ab:c=47/\y=47:=by simpa using w
        obtain⟨rfl,rfl⟩:=ab;simp-implicitDefEqProofs(disch:=try exact aj)only[hE,hj,jQ,hW,reduceAdd,reduceLeDiff,reduceIte,av,j,decide_true,o,p,i,x,l,B,n,K,u,S,O,te,F,w];refine C_ az (hE (aA P aw) N m) N _ (47::47::d) at_ N h Q (by simp only[List.length_cons]at z ⊢;omega) (λk ag ah al ai=> ?_);have am:=ag 47 _ rfl b1;have hle:(s.drop (at_+k)).length<=q:=by
         simp only[List.length_drop,List.length_cons]at E z ⊢;omega
        refine(tV (H:=H) az N T q (s.drop (at_+k)) (at_+k) m hle rfl ah (by simp only[List.length_drop,List.length_cons]at hm z ⊢;omega)).mono ?_;rintro v H' ⟨rfl,e⟩;have R:cw U (47::47::d)=cw X (47::47::d):=by
         have L:cw U (47::47::d)=cw X (47::d)+1:=rfl;have M:cw X (47::47::d)=cw X (47::d)+1:=rfl;rw[L,M]
        refine⟨?_,e⟩;rw[R,<-ai,Nat.add_assoc]
       |false=>
        have A:(c==47&&(y::d).head?==D 47)=false:=by
         have:¬(c=47/\y=47):=by simpa using w
         simpa using this
        simp-implicitDefEqProofs(disch:=try exact aj)only[hE,hj,jQ,hW,reduceAdd,reduceLeDiff,reduceIte,av,j,decide_true,o,p,i,x,l,B,n,K,u,S,O,te,F,w];exact a_.2 ⟨by rw[V A,Nat.add_zero],rfl⟩
      ·have w:r=[]:=by
        cases r with
        |nil=>rfl
        |cons y d=>simp only[List.length_cons]at z;omega
       have A:(c==47&&r.head?==D 47)=false:=by rw[w];simp
       simp-implicitDefEqProofs(disch:=try exact aj)only[hE,hj,jQ,hW,reduceAdd,reduceLeDiff,reduceIte,av,j,decide_true,o,p,i,x,l,B,n,K,u,S,O,decide_false];exact a_.2 ⟨by rw[V A,Nat.add_zero],rfl⟩
def yc{H:ad}{s:aB}(az:s.length<=1000000000000000000){at_:Nat}(a:at_<=s.length):W (aA P aw 38 [Y s,I J at_] H) λv H'=>v= I J ((at_+cw U (s.drop at_):Nat):Int)/\H'=H:=by
 refine cA (λ_=>Kk (s.length+1)) ?_;rw[hW];exact tV az (s.length+1) af s.length (s.drop at_) at_ (s.length+1) (by simp) rfl a (by simp;omega)
