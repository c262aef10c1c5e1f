/-
  Texts of one proof, laid together: ShA Ls Sp X1 Lx L1 L2.
-/
import Derived.Test.YtghmbpmaafnodaaDoorME
set_option linter.unusedVariables false
set_option linter.unusedSimpArgs false
set_option linter.defProp false
open Option renaming some→D,none→Z
open Bool renaming true→X,false→U
open Go.cn.ad renaming int→I,str→Y,bool→C
open Go.IntKind renaming i64→J
namespace Go.Proofs.YtghmbpmaafnodaaDoor
open Go.cn
open Nat (reduceAdd reduceLeDiff)
section
set_option maxRecDepth 100000
noncomputable section
def jV(G:ay)(N:Nat)(ag e i:ad)(H:ae):O:=bg P .len [9] [ag] H λh=>j (cC P 61 [(0,(I J 0)),(3,h)]) λk=>b1 H (b6 P (H).next 36 1 [(0,k)]) λl a=>aI a (c0 P a [36,36] i l) λm c=>bd c (aY P c 29 e (.agg [I J 0,I J 0])) λd=>j (aq P d 29 e) λr=>D (.tuple [m,r],d)
def Nx(G:ay)(N:Nat):∀aa H,bl P G N (o (o (o (o (o (bs Tryd.f14)))))) (bf Tryd.f14) [] (bf Tryd.f14) aa H=jV G N (aa 0) (aa 3) (aa 4) H:=by
 refine bC (aF _) λaa H=> ?_
 delta jV;kernel_rfl
def ld(a:ad->ad->ad->ad->ae->O)(ag d:ad)(e h:ad)(c:ae):O:=a ag d e h c
def ma(G:ay)(N:Nat)(n:ad->ad->ad->ad->ae->O)(ag d:ad)(m e:ad)(H:ae):O:=bg P .len [9] [ag] H λbS=>j (ao P .lss 3 U e bS) λp=>aU (D p) (aI H (G 39 [ag,e] H) λk o=>j (ic k 0) λq=>j (ic k 1) λl=>cT o [I J 0,Y [],I J 0,I J 0] λba h=>bd h (aY P h 61 ba q) λa=>j (ao P .eql 3 X l (I J 0)) λs=>aU (D s) (j (cC P 29 [(0,(I J 1)),(1,e)]) λu=>bd a (aY P a 29 d u) λc=>j (aq P c 29 d) λr=>D (.tuple [ad.az,r],c)) (j (aq P a 61 ba) λv=>b1 a (b6 P (a).next 36 1 [(0,v)]) λw c=>aI c (c0 P c [36,36] m w) λx i=>j (ao P .add 3 U e l) λy=>aI i (G 38 [ag,y] i) (ld n ag d x))) (jV G N ag d m H)
def nq(G:ay)(N:Nat):Nat->ad->ad->ad->ad->ae->O
 |0,_,_,_,_,_=>Z
 |n+1,ag,a,c,d,H=>ma G N (nq G N n) ag a c d H
def Nw(G:ay)(N:Nat)(c:ad->ad->ad->ad->ae->O):∀aa H,bl P G N (aN (aN (aN (o (o (o (o (bs Tryd.f14)))))))) (λaa H=>c (aa 0) (aa 3) (aa 4) (aa 5) H) [(0,(λaa H=>jV G N (aa 0) (aa 3) (aa 4) H))] (bf Tryd.f14) aa H=ma G N c (aa 0) (aa 3) (aa 4) (aa 5) H:=by
 refine bC (aF _) λaa H=> ?_
 delta ma ld;generalize jV G N=a;revert a;refine id ?_;intro a;kernel_rfl
def lf(G:ay)(N:Nat)(ag d c:ad)(a:ae):O:=nq G N N ag d ad.az c a
def lb(G:ay)(N:Nat)(ag:ad)(H:ae):O:=cT H [I J 0,I J 0] λc a=>bg P .len [9] [ag] a λh=>j (ao P .gtr 3 X h (I J 6000)) λe=>aU (D e) (bd a (aY P a 29 c (.agg [I J 4,I J 0])) λd=>j (aq P d 29 c) λr=>D (.tuple [ad.az,r],d)) (aI a (G 38 [ag,I J 0] a) (lf G N ag c))
def L9(N:Nat){ag:ad}{H:ae}{r:ad×ae}(h:lb (aE P aA) N ag H=D r):aE P aA 14 [ag] H=D r:=cS N (S:=λG=>lb G N ag H) Tryd.func14 (λG=>dX ((aM ah ((aM ah ((aM ah ((aM ah ((aM ah (Nx G N) ((cX ah ((dW (k:=λm aa H=>nq G N m (aa 0) (aa 3) (aa 4) (aa 5) H) ah (λaa H=>ah) (λm=>Nw G N (nq G N m)))))))) (aF _))) (aF _))) (aF _))) (aF _))) (by delta lb lf;generalize nq G N N=a;revert a;refine id ?_;intro a;kernel_rfl)) h
def hJ(G:ay)(N:Nat)(ar:ad)(H:ae):O:=some (ar,H)
def N4(G:ay)(N:Nat):∀aa H,bl P G N (o (o (bs Tryd.f38))) (bf Tryd.f38) [] (bf Tryd.f38) aa H=hJ G N (aa 1) H:=by
 refine bC (aF _) λaa H=> ?_
 delta hJ;kernel_rfl
def qy(G:ay)(N:Nat)(d:ad->ad->ae->O)(e:ad->ad->ae->O)(ag ar:ad)(H:ae):O:=bg P .len [9] [ag] H λl=>j (ao P .lss 3 U ar l) λa=>aX a X H (cI ag) λm h=>aX a X h (cI ar) λn i=>aX a X i (bU (eT P 9 m n)) λo k=>aX a X k (bU (ao P .neq 5 X o (I .u8 10))) λp c=>j (dd a (D p) (D (C U))) λq=>aU (D q) (j (ao P .add 3 X ar (I J 1)) λs=>e ag s c) (d ag ar c)
def mh(G:ay)(N:Nat)(a:ad->ad->ae->O):Nat->ad->ad->ae->O
 |0,_,_,_=>Z
 |n+1,ag,ar,H=>qy G N a (mh G N a n) ag ar H
def N3(G:ay)(N:Nat)(a:ad->ad->ae->O)(d:ad->ad->ae->O):∀aa H,bl P G N (aN (aN (aN (o (o (o (aN (aN (o (aN (aN (aN (o (bs Tryd.f38)))))))))))))) (λaa H=>d (aa 0) (aa 1) H) [(3,(λaa H=>a (aa 0) (aa 1) H)),(2,(λaa H=>a (aa 0) (aa 1) H)),(1,(λaa H=>a (aa 0) (aa 1) H)),(0,(λaa H=>hJ G N (aa 1) H))] (bf Tryd.f38) aa H=qy G N a d (aa 0) (aa 1) H:=by
 refine bC (aF _) λaa H=> ?_
 delta qy;generalize a=c;revert c;refine id ?_;intro c;kernel_rfl
def kB(G:ay)(N:Nat)(i:ad->ad->ae->O)(ag ar:ad)(H:ae):O:=bg P .len [9] [ag] H λav=>j (ao P .lss 3 U ar av) λaw=>aU (D aw) (j (eT P 9 ag ar) λF=>j (ao P .eql 5 X F (I .u8 32)) λc=>aX c U H (cI ag) λbS l=>aX c U l (cI ar) λK v=>aX c U v (bU (eT P 9 bS K)) λL w=>aX c U w (bU (ao P .eql 5 X L (I .u8 9))) λM x=>j (dd c (D (C X)) (D M)) λd=>aX d U x (cI ag) λQ y=>aX d U y (cI ar) λR z=>aX d U z (bU (eT P 9 Q R)) λS A=>aX d U A (bU (ao P .eql 5 X S (I .u8 10))) λT B=>j (dd d (D (C X)) (D T)) λe=>aX e U B (cI ag) λV E=>aX e U E (cI ar) λW m=>aX e U m (bU (eT P 9 V W)) λaa n=>aX e U n (bU (ao P .eql 5 X aa (I .u8 13))) λab h=>j (dd e (D (C X)) (D ab)) λaf=>aU (D af) (j (ao P .add 3 X ar (I J 1)) λah=>i ag ah h) (bg P .len [9] [ag] h λai=>j (ao P .sub 3 U ai ar) λaj=>j (ao P .geq 3 X aj (I J 2)) λa=>aX a X h (cI ag) λak o=>aX a X o (cI ar) λal p=>aX a X p (cI ar) λam q=>aX a X q (bU (ao P .add 3 X am (I J 2))) λan s=>aX a X s (bU (kd P 9 ak (D al) (D an) Z)) λap u=>aX a X u (bU (ao P .eql 9 X ap (Y [47,47]))) λaq k=>j (dd a (D aq) (D (C U))) λau=>aU (D au) (mh G N i N ag ar k) (D (ar,k)))) (hJ G N ar H)
def h4(G:ay)(N:Nat):Nat->ad->ad->ae->O
 |0,_,_,_=>Z
 |n+1,ag,ar,H=>kB G N (h4 G N n) ag ar H
def N2(G:ay)(N:Nat)(a:ad->ad->ae->O):∀aa H,bl P G N (aN (aN (aN (o (bs Tryd.f38))))) (λaa H=>a (aa 0) (aa 1) H) [(0,(λaa H=>hJ G N (aa 1) H))] (bf Tryd.f38) aa H=kB G N a (aa 0) (aa 1) H:=by
 refine bC ((aM ah ((cX ah ((cX ah ((aM ah ((dt ah (aF _) ((aM ah ((dt ah ((cX ah ((dW (k:=λm aa H=>mh G N a m (aa 0) (aa 1) H) ah (λaa H=>ah) (λm=>N3 G N a (mh G N a m)))))) (aF _))) (aF _))))) (aF _))))))) (aF _))) λaa H=> ?_
 delta kB;generalize hJ G N=c;generalize mh G N a N=d;revert c d;refine id ?_;intro c d;kernel_rfl
def ir(G:ay)(N:Nat)(ag ar:ad)(H:ae):O:=h4 G N N ag ar H
def Mp(N:Nat){ag ar:ad}{H:ae}{r:ad×ae}(h:ir (aE P aA) N ag ar H=D r):aE P aA 38 [ag,ar] H=D r:=cS N (S:=λG=>ir G N ag ar H) Tryd.func38 (λG=>dX ((aM ah ((aM ah (N4 G N) ((cX ah ((dW (k:=λm aa H=>h4 G N m (aa 0) (aa 1) H) ah (λaa H=>ah) (λm=>N2 G N (h4 G N m)))))))) (aF _))) (by delta ir;generalize h4 G N N=a;revert a;refine id ?_;intro a;kernel_rfl)) h
def e8(G:ay)(ag ar:ad)(H:ae):O:=cT H [I J 0,Y [],I J 0,I J 0] λc y=>j (eT P 9 ag ar) λal=>aI y (G 62 [al] y) λbS p=>aU (D bS) (aI p (G 63 [ag,ar,C U] p) λw h=>j (ao P .add 3 U ar w) λam=>j (kd P 9 ag (D ar) (D am) Z) λu=>aI h (G 64 [u] h) λan d=>aU (D an) (j (cC P 61 [(0,(I J 3)),(1,u),(3,ar)]) λap=>bd d (aY P d 61 c ap) λa=>j (aq P a 61 c) λr=>D (.tuple [r,w],a)) (aI d (G 65 [u] d) λau a=>aU (D au) (j (cC P 61 [(0,(I J 1)),(1,u),(3,ar)]) λav=>bd a (aY P a 61 c av) λi=>j (aq P i 61 c) λr=>D (.tuple [r,w],i)) (bd a (aY P a 61 c (.agg [I J 0,Y [],I J 0,I J 0])) λi=>j (aq P i 61 c) λr=>D (.tuple [r,I J 0],i)))) (j (eT P 9 ag ar) λaw=>aI p (G 66 [aw] p) λax h=>aU (D ax) (aI h (G 63 [ag,ar,C X] h) λm d=>j (ao P .add 3 U ar m) λaA=>j (kd P 9 ag (D ar) (D aA) Z) λaB=>aI d (G 67 [aB] d) λA a=>j (ic A 0) λaC=>j (ic A 1) λaE=>j (fZ .not aE) λn=>aX n U a (cI m) λaF i=>aX n U i (bU (ao P .gtr 3 X aF (I J 1))) λaG ah=>aX n U ah (cI aG) λo ai=>aX o X ai (cI ag) λaH aj=>aX o X aj (cI ar) λaJ E=>aX o X E (bU (eT P 9 aH aJ)) λaK F=>aX o X F (bU (ao P .eql 5 X aK (I .u8 48))) λaL K=>aX n U K (bU (dd o (D aL) (D (C U)))) λaM L=>j (dd n (D (C X)) (D aM)) λe=>aX e U L (cI ar) λaN M=>aX e U M (cI m) λaO N=>aX e U N (bU (ao P .add 3 U aN aO)) λaP Q=>aX e U Q (cI ag) λB z=>aX e U z (λq=>h8 (cg P .empty .len [9] [B]) (cg P z .len [9] [B]) q) λaQ R=>aX e U R (bU (ao P .lss 3 U aP aQ)) λaR S=>aX e U S (cI aR) λk T=>aX k X T (cI ag) λaS V=>aX k X V (cI ar) λaT W=>aX k X W (cI m) λaV aa=>aX k X aa (bU (ao P .add 3 U aT aV)) λaW ab=>aX k X ab (bU (eT P 9 aS aW)) λaZ v=>aX k X v (λq=>fj v (G 62 [aZ] v) q) λa0 af=>aX e U af (bU (dd k (D a0) (D (C U)))) λa1 s=>j (dd e (D (C X)) (D a1)) λa2=>aU (D a2) (bd s (aY P s 61 c (.agg [I J 0,Y [],I J 0,I J 0])) λl=>j (aq P l 61 c) λr=>D (.tuple [r,I J 0],l)) (j (cC P 61 [(0,(I J 2)),(2,aC),(3,ar)]) λa3=>bd s (aY P s 61 c a3) λl=>j (aq P l 61 c) λr=>D (.tuple [r,m],l))) (aI h (G 68 [ag,ar] h) λx d=>j (ao P .eql 9 X x (Y [])) λa4=>aU (D a4) (bd d (aY P d 61 c (.agg [I J 0,Y [],I J 0,I J 0])) λa=>j (aq P a 61 c) λr=>D (.tuple [r,I J 0],a)) (j (cC P 61 [(0,(I J 4)),(1,x),(3,ar)]) λa5=>bg P .len [9] [x] d λak=>bd d (aY P d 61 c a5) λa=>j (aq P a 61 c) λr=>D (.tuple [r,ak],a))))
def Mq(N:Nat){ag ar:ad}{H:ae}{r:ad×ae}(h:e8 (aE P aA) ag ar H=D r):aE P aA 39 [ag,ar] H=D r:=cS N (S:=λG=>e8 G ag ar H) Tryd.func39 (λ_=>by delta e8;kernel_rfl) h
def uT(G:ay)(ag:ad)(H:ae):O:=j (ao P .geq 5 X ag (I .u8 97)) λd=>aX d X H (cI ag) λba e=>aX d X e (bU (ao P .leq 5 X ba (I .u8 122))) λw h=>j (dd d (D w) (D (C U))) λa=>aX a U h (cI ag) λp i=>aX a U i (bU (ao P .geq 5 X p (I .u8 65))) λq k=>aX a U k (cI q) λc l=>aX c X l (cI ag) λs m=>aX c X m (bU (ao P .leq 5 X s (I .u8 90))) λu n=>aX a U n (bU (dd c (D u) (D (C U)))) λv o=>j (dd a (D (C X)) (D v)) λbS=>D (bS,o)
def MF(N:Nat){ag:ad}{H:ae}{r:ad×ae}(h:uT (aE P aA) ag H=D r):aE P aA 62 [ag] H=D r:=cS N (S:=λG=>uT G ag H) Tryd.func62 (λ_=>by delta uT;kernel_rfl) h
def jW(G:ay)(N:Nat)(a:ad)(H:ae):O:=some (a,H)
def OC(G:ay)(N:Nat):∀aa H,bl P G N (o (o (o (bs Tryd.f63)))) (bf Tryd.f63) [] (bf Tryd.f63) aa H=jW G N (aa 7) H:=by
 refine bC (aF _) λaa H=> ?_
 delta jW;kernel_rfl
def ln(G:ay)(N:Nat)(m:ad->ad->ad->ad->ae->O)(ag ar:ad)(l e:ad)(H:ae):O:=j (ao P .add 3 U ar e) λL=>bg P .len [9] [ag] H λM=>j (ao P .lss 3 U L M) λa=>aX a X H (cI ag) λQ n=>aX a X n (cI ar) λbS y=>aX a X y (cI e) λR z=>aX a X z (bU (ao P .add 3 U bS R)) λS A=>aX a X A (bU (eT P 9 Q S)) λT i=>aX a X i (λq=>fj i (G 66 [T] i) q) λV B=>aX a X B (cI V) λd E=>aX d U E (cI l) λW F=>aX d U F (bU (fZ .not W)) λaa K=>aX d U K (cI aa) λc o=>aX c X o (cI ag) λab p=>aX c X p (cI ar) λaf s=>aX c X s (cI e) λah u=>aX c X u (bU (ao P .add 3 U af ah)) λai v=>aX c X v (bU (eT P 9 ab ai)) λaj h=>aX c X h (λq=>fj h (G 62 [aj] h) q) λak w=>aX d U w (bU (dd c (D ak) (D (C U)))) λal x=>aX a X x (bU (dd d (D (C X)) (D al))) λam k=>j (dd a (D am) (D (C U))) λan=>aU (D an) (j (ao P .add 3 X e (I J 1)) λap=>m ag ar l ap k) (jW G N e k)
def ml(G:ay)(N:Nat):Nat->ad->ad->ad->ad->ae->O
 |0,_,_,_,_,_=>Z
 |n+1,ag,ar,a,c,H=>ln G N (ml G N n) ag ar a c H
def OB(G:ay)(N:Nat)(c:ad->ad->ad->ad->ae->O):∀aa H,bl P G N (aN (aN (aN (o (o (bs Tryd.f63)))))) (λaa H=>c (aa 0) (aa 1) (aa 2) (aa 7) H) [(0,(λaa H=>jW G N (aa 7) H))] (bf Tryd.f63) aa H=ln G N c (aa 0) (aa 1) (aa 2) (aa 7) H:=by
 refine bC (aF _) λaa H=> ?_
 delta ln;generalize jW G N=a;revert a;refine id ?_;intro a;kernel_rfl
def kC(G:ay)(N:Nat)(ag ar a:ad)(H:ae):O:=ml G N N ag ar a (I J 0) H
def MG(N:Nat){ag ar a:ad}{H:ae}{r:ad×ae}(h:kC (aE P aA) N ag ar a H=D r):aE P aA 63 [ag,ar,a] H=D r:=cS N (S:=λG=>kC G N ag ar a H) Tryd.func63 (λG=>dX ((aM ah ((aM ah ((aM ah (OC G N) ((cX ah ((dW (k:=λm aa H=>ml G N m (aa 0) (aa 1) (aa 2) (aa 7) H) ah (λaa H=>ah) (λm=>OB G N (ml G N m)))))))) (aF _))) (aF _))) (by delta kC;generalize ml G N N=c;revert c;refine id ?_;intro c;kernel_rfl)) h
def mm(G:ay)(N:Nat)(H:ae):O:=some ((C U),H)
def OE(G:ay)(N:Nat):∀aa H,bl P G N (o (o (o (bs Tryd.f64)))) (bf Tryd.f64) [] (bf Tryd.f64) aa H=mm G N H:=by
 refine bC (aF _) λaa H=> ?_
 delta mm;kernel_rfl
def pa(G:ay)(N:Nat)(d:ad->ad->ad->ae->O)(ag a c:ad)(H:ae):O:=bg P .len [50] [a] H λl=>j (ao P .lss 3 U c l) λm=>aU (D m) (j (cl P 50 a c) λh=>j (aq P H 9 h) λi=>j (ao P .eql 9 U i ag) λk=>aU (D k) (D ((C X),H)) (j (ao P .add 3 X c (I J 1)) λe=>d ag a e H)) (mm G N H)
def nG(G:ay)(N:Nat):Nat->ad->ad->ad->ae->O
 |0,_,_,_,_=>Z
 |n+1,ag,a,c,H=>pa G N (nG G N n) ag a c H
def OD(G:ay)(N:Nat)(c:ad->ad->ad->ae->O):∀aa H,bl P G N (aN (aN (o (aN (o (o (bs Tryd.f64))))))) (λaa H=>c (aa 0) (aa 3) (aa 4) H) [(0,(λaa H=>mm G N H))] (bf Tryd.f64) aa H=pa G N c (aa 0) (aa 3) (aa 4) H:=by
 refine bC (aF _) λaa H=> ?_
 delta pa;generalize mm G N=a;revert a;refine id ?_;intro a;kernel_rfl
def o_(G:ay)(N:Nat)(ag c:ad)(a:ae):O:=nG G N N ag c (I J 0) a
def nF(G:ay)(N:Nat)(ag:ad)(H:ae):O:=aI H (G 81 [] H) (o_ G N ag)
def MH(N:Nat){ag:ad}{H:ae}{r:ad×ae}(h:nF (aE P aA) N ag H=D r):aE P aA 64 [ag] H=D r:=cS N (S:=λG=>nF G N ag H) Tryd.func64 (λG=>dX ((aM ah ((aM ah ((aM ah (OE G N) ((aM ah ((cX ah ((dW (k:=λm aa H=>nG G N m (aa 0) (aa 3) (aa 4) H) ah (λaa H=>ah) (λm=>OD G N (nG G N m)))))) (aF _))))) (aF _))) (aF _))) (by delta nF o_;generalize nG G N N=a;revert a;refine id ?_;intro a;kernel_rfl)) h
def hr(G:ay)(N:Nat)(H:ae):O:=some ((C X),H)
def OG(G:ay)(N:Nat):∀aa H,bl P G N (o (o (o (bs Tryd.f65)))) (bf Tryd.f65) [] (bf Tryd.f65) aa H=hr G N H:=by
 refine bC (aF _) λaa H=> ?_
 delta hr;kernel_rfl
def iy(G:ay)(N:Nat)(h:ad->ad->ae->O)(ag c:ad)(H:ae):O:=bg P .len [9] [ag] H λn=>j (ao P .lss 3 U c n) λo=>aU (D o) (j (eT P 9 ag c) λs=>aI H (G 62 [s] H) λu i=>j (fZ .not u) λa=>aX a X i (cI ag) λv k=>aX a X k (cI c) λw l=>aX a X l (bU (eT P 9 v w)) λx d=>aX a X d (λq=>fj d (G 66 [x] d) q) λy m=>aX a X m (bU (fZ .not y)) λz e=>j (dd a (D z) (D (C U))) λA=>aU (D A) (D ((C U),e)) (j (ao P .add 3 X c (I J 1)) λp=>h ag p e)) (hr G N H)
def nH(G:ay)(N:Nat):Nat->ad->ad->ae->O
 |0,_,_,_=>Z
 |n+1,ag,a,H=>iy G N (nH G N n) ag a H
def OF(G:ay)(N:Nat)(c:ad->ad->ae->O):∀aa H,bl P G N (aN (aN (o (aN (o (o (bs Tryd.f65))))))) (λaa H=>c (aa 0) (aa 3) H) [(0,(λaa H=>hr G N H))] (bf Tryd.f65) aa H=iy G N c (aa 0) (aa 3) H:=by
 refine bC (aF _) λaa H=> ?_
 delta iy;generalize hr G N=a;revert a;refine id ?_;intro a;kernel_rfl
def h5(G:ay)(N:Nat)(ag:ad)(H:ae):O:=bg P .len [9] [ag] H λA=>j (ao P .lss 3 X A (I J 1)) λba=>aX ba U H (cI ag) λk h=>aX ba U h (λq=>h8 (cg P .empty .len [9] [k]) (cg P h .len [9] [k]) q) λB l=>aX ba U l (bU (ao P .gtr 3 X B (I J 8))) λs m=>j (dd ba (D (C X)) (D s)) λa=>aX a U m (cI ag) λu n=>aX a U n (bU (eT P 9 u (I J 0))) λv c=>aX a U c (λq=>fj c (G 62 [v] c) q) λw o=>aX a U o (bU (fZ .not w)) λbS p=>j (dd a (D (C X)) (D bS)) λe=>aX e U p (cI ag) λx d=>aX e U d (λq=>fj d (G 64 [x] d) q) λy i=>j (dd e (D (C X)) (D y)) λz=>aU (D z) (D ((C U),i)) (nH G N N ag (I J 0) i)
def MI(N:Nat){ag:ad}{H:ae}{r:ad×ae}(h:h5 (aE P aA) N ag H=D r):aE P aA 65 [ag] H=D r:=cS N (S:=λG=>h5 G N ag H) Tryd.func65 (λG=>dX ((aM ah ((aM ah ((aM ah (OG G N) ((aM ah ((cX ah ((dW (k:=λm aa H=>nH G N m (aa 0) (aa 3) H) ah (λaa H=>ah) (λm=>OF G N (nH G N m)))))) (aF _))))) (aF _))) (aF _))) (by delta h5;generalize nH G N N=a;revert a;refine id ?_;intro a;kernel_rfl)) h
def uU(G:ay)(ag:ad)(H:ae):O:=j (ao P .geq 5 X ag (I .u8 48)) λa=>aX a X H (cI ag) λba c=>aX a X c (bU (ao P .leq 5 X ba (I .u8 57))) λe d=>j (dd a (D e) (D (C U))) λh=>D (h,d)
def MJ(N:Nat){ag:ad}{H:ae}{r:ad×ae}(h:uU (aE P aA) ag H=D r):aE P aA 66 [ag] H=D r:=cS N (S:=λG=>uU G ag H) Tryd.func66 (λ_=>by delta uU;kernel_rfl) h
def nI(G:ay)(N:Nat)(a:ad)(H:ae):O:=some (.tuple [a,C X],H)
def OI(G:ay)(N:Nat):∀aa H,bl P G N (o (o (o (bs Tryd.f67)))) (bf Tryd.f67) [] (bf Tryd.f67) aa H=nI G N (aa 4) H:=by
 refine bC (aF _) λaa H=> ?_
 delta nI;kernel_rfl
def qI(G:ay)(N:Nat)(e:ad->ad->ad->ae->O)(ag a c:ad)(H:ae):O:=bg P .len [9] [ag] H λq=>j (ao P .lss 3 U c q) λh=>aU (D h) (j (eT P 9 ag c) λk=>j (ao P .sub 5 X k (I .u8 48)) λbS=>qX P 5 3 bS H λd=>j (ao P .sub 3 X (I J 9223372036854775807) d) λl=>j (ao P .quo 3 X l (I J 10)) λm=>j (ao P .gtr 3 U a m) λn=>aU (D n) (D (.tuple [I J 0,C U],H)) (j (ao P .mul 3 X (I J 10) a) λo=>j (ao P .add 3 U o d) λp=>j (ao P .add 3 X c (I J 1)) λi=>e ag p i H)) (nI G N a H)
def mo(G:ay)(N:Nat):Nat->ad->ad->ad->ae->O
 |0,_,_,_,_=>Z
 |n+1,ag,a,c,H=>qI G N (mo G N n) ag a c H
def OH(G:ay)(N:Nat)(c:ad->ad->ad->ae->O):∀aa H,bl P G N (aN (aN (o (aN (o (o (bs Tryd.f67))))))) (λaa H=>c (aa 0) (aa 4) (aa 5) H) [(0,(λaa H=>nI G N (aa 4) H))] (bf Tryd.f67) aa H=qI G N c (aa 0) (aa 4) (aa 5) H:=by
 refine bC (aF _) λaa H=> ?_
 delta qI;generalize nI G N=a;revert a;refine id ?_;intro a;kernel_rfl
def pb(G:ay)(N:Nat)(ag:ad)(H:ae):O:=mo G N N ag (I J 0) (I J 0) H
def MK(N:Nat){ag:ad}{H:ae}{r:ad×ae}(h:pb (aE P aA) N ag H=D r):aE P aA 67 [ag] H=D r:=cS N (S:=λG=>pb G N ag H) Tryd.func67 (λG=>dX ((aM ah ((aM ah ((aM ah (OI G N) ((aM ah ((cX ah ((dW (k:=λm aa H=>mo G N m (aa 0) (aa 4) (aa 5) H) ah (λaa H=>ah) (λm=>OH G N (mo G N m)))))) (aF _))))) (aF _))) (aF _))) (by delta pb;generalize mo G N N=a;revert a;refine id ?_;intro a;kernel_rfl)) h
def jX(G:ay)(N:Nat)(H:ae):O:=some ((Y []),H)
def OM(G:ay)(N:Nat):∀aa H,bl P G N (o (o (o (o (o (bs Tryd.f68)))))) (bf Tryd.f68) [] (bf Tryd.f68) aa H=jX G N H:=by
 refine bC (aF _) λaa H=> ?_
 delta jX;kernel_rfl
def qJ(G:ay)(N:Nat)(d:ad->ad->ad->ad->ae->O)(ag ar:ad)(c a:ad)(H:ae):O:=bg P .len [9] [c] H λe=>j (ao P .lss 3 U a e) λh=>aU (D h) (j (eT P 9 ag ar) λk=>j (eT P 9 c a) λl=>j (ao P .eql 5 U k l) λm=>aU (D m) (j (ao P .add 3 X a (I J 1)) λn=>j (kd P 9 c (D a) (D n) Z) λo=>D (o,H)) (j (ao P .add 3 X a (I J 1)) λi=>d ag ar c i H)) (jX G N H)
def mq(G:ay)(N:Nat):Nat->ad->ad->ad->ad->ae->O
 |0,_,_,_,_,_=>Z
 |n+1,ag,ar,a,c,H=>qJ G N (mq G N n) ag ar a c H
def OJ(G:ay)(N:Nat)(c:ad->ad->ad->ad->ae->O):∀aa H,bl P G N (aN (aN (o (aN (o (o (o (o (bs Tryd.f68))))))))) (λaa H=>c (aa 0) (aa 1) (aa 7) (aa 8) H) [(2,(λaa H=>jX G N H))] (bf Tryd.f68) aa H=qJ G N c (aa 0) (aa 1) (aa 7) (aa 8) H:=by
 refine bC (aF _) λaa H=> ?_
 delta qJ;generalize jX G N=a;revert a;refine id ?_;intro a;kernel_rfl
def lr(G:ay)(N:Nat)(ag ar:ad)(H:ae):O:=mq G N N ag ar (Y [123,125,40,41,91,93,59,58,44,46,61,43,45,42,47,37,60,33]) (I J 0) H
def OL(G:ay)(N:Nat):∀aa H,bl P G N (o (o (o (bs Tryd.f68)))) (bf Tryd.f68) [] (bf Tryd.f68) aa H=lr G N (aa 0) (aa 1) H:=by
 refine bC ((aM ah ((aM ah (OM G N) ((aM ah ((cX ah ((dW (k:=λm aa H=>mq G N m (aa 0) (aa 1) (aa 7) (aa 8) H) ah (λaa H=>ah) (λm=>OJ G N (mq G N m)))))) (aF _))))) (aF _))) λaa H=> ?_
 delta lr;generalize mq G N N=a;revert a;refine id ?_;intro a;kernel_rfl
def lq(G:ay)(N:Nat)(h:ad->ad->ad->ad->ae->O)(ag ar:ad)(c ba:ad)(H:ae):O:=bg P .len [50] [c] H λs=>j (ao P .lss 3 U ba s) λu=>aU (D u) (bg P .len [9] [ag] H λw=>j (ao P .sub 3 U w ar) λx=>j (ao P .geq 3 X x (I J 2)) λa=>aX a X H (cI ag) λy i=>aX a X i (cI ar) λz k=>aX a X k (cI ar) λA l=>aX a X l (bU (ao P .add 3 X A (I J 2))) λB m=>aX a X m (bU (kd P 9 y (D z) (D B) Z)) λE n=>aX a X n (cI c) λF o=>aX a X o (cI ba) λK p=>aX a X p (bU (cl P 50 F K)) λL e=>aX a X e (qr (aq P e 9 L)) λM q=>aX a X q (bU (ao P .eql 9 U E M)) λQ d=>j (dd a (D Q) (D (C U))) λR=>aU (D R) (j (cl P 50 c ba) λS=>j (aq P d 9 S) λT=>D (T,d)) (j (ao P .add 3 X ba (I J 1)) λv=>h ag ar c v d)) (lr G N ag ar H)
def lu(G:ay)(N:Nat):Nat->ad->ad->ad->ad->ae->O
 |0,_,_,_,_,_=>Z
 |n+1,ag,ar,a,ba,H=>lq G N (lu G N n) ag ar a ba H
def OK(G:ay)(N:Nat)(c:ad->ad->ad->ad->ae->O):∀aa H,bl P G N (aN (aN (o (aN (o (o (bs Tryd.f68))))))) (λaa H=>c (aa 0) (aa 1) (aa 5) (aa 6) H) [(0,(λaa H=>lr G N (aa 0) (aa 1) H))] (bf Tryd.f68) aa H=lq G N c (aa 0) (aa 1) (aa 5) (aa 6) H:=by
 refine bC (aF _) λaa H=> ?_
 delta lq;generalize lr G N=a;revert a;refine id ?_;intro a;kernel_rfl
def lp(G:ay)(N:Nat)(ag ar c:ad)(a:ae):O:=lu G N N ag ar c (I J 0) a
def kD(G:ay)(N:Nat)(ag ar:ad)(H:ae):O:=b1 H (D (.aD (H).next 0 5 1 (D 5),.row U 1 [[Y [60,61]],[Y [61,61]],[Y [33,61]],[Y [38,38]],[Y [124,124]]])) (lp G N ag ar)
def ML(N:Nat){ag ar:ad}{H:ae}{r:ad×ae}(h:kD (aE P aA) N ag ar H=D r):aE P aA 68 [ag,ar] H=D r:=cS N (S:=λG=>kD G N ag ar H) Tryd.func68 (λG=>dX ((aM ah ((aM ah ((aM ah (OL G N) ((aM ah ((cX ah ((dW (k:=λm aa H=>lu G N m (aa 0) (aa 1) (aa 5) (aa 6) H) ah (λaa H=>ah) (λm=>OK G N (lu G N m)))))) (aF _))))) (aF _))) (aF _))) (by delta kD lp;generalize lu G N N=a;revert a;refine id ?_;intro a;kernel_rfl)) h
def x1(ar:ad)(a:ae):O:=some (ar,a)
def uW(G:ay)(H:ae):O:=b1 H (D (.aD (H).next 0 18 1 (D 18),.row U 1 [[Y [114,101,99,111,114,100]],[Y [103,108,111,98,97,108]],[Y [102,117,110,99]],[Y [118,97,114]],[Y [108,101,116]],[Y [105,102]],[Y [101,108,115,101]],[Y [119,104,105,108,101]],[Y [114,101,116,117,114,110]],[Y [112,114,105,110,116]],[Y [110,117,108,108]],[Y [110,101,119]],[Y [108,101,110]],[Y [114,101,97,100]],[Y [116,114,117,101]],[Y [102,97,108,115,101]],[Y [105,110,116]],[Y [98,111,111,108]]])) (x1)
def MS(N:Nat){H:ae}{r:ad×ae}(h:uW (aE P aA) H=D r):aE P aA 81 [] H=D r:=cS N (S:=λG=>uW G H) Tryd.func81 (λ_=>by delta uW x1;kernel_rfl) h
end
end
section
set_option linter.defProp false
def D1:=ai @ae.b8 @ae.dz
def H7:=ai (ai (ai (ai (ai (ai (ai (ai @Hn @Hj) (ai @ED @EE)) (ai (ai @EJ @Hc) (ai @vf (ai @dY @y6)))) (ai (ai (ai @eE @vd) (ai @Hi (ai @He @Hh))) (ai (ai @Hf @Hg) (ai @Hd (ai @Es @Er))))) (ai (ai (ai (ai @zh @yK) (ai @yL (ai @yM @vn))) (ai (ai @vo @yH) (ai @yI (ai @vm @yJ)))) (ai (ai (ai @yG @Option.bind_some.{0,0}) (ai @aR (ai @aK @yZ))) (ai (ai @EO @ER) (ai @EN (ai @l1 @xK)))))) (ai (ai (ai (ai (ai @EP @List.getElem?_cons_zero.{0}) (ai @List.getElem?_cons_succ.{0} @List.drop_zero.{0})) (ai (ai @List.drop_succ_cons.{0} @List.take_succ_cons.{0}) (ai @List.take_zero.{0} (ai @List.set_cons_zero.{0} @List.set_cons_succ.{0})))) (ai (ai (ai @List.cons_append.{0} @List.nil_append.{0}) (ai @List.length_cons.{0} (ai @List.length_nil.{0} @List.all_cons.{0}))) (ai (ai @List.all_nil.{0} @Bool.and_true) (ai @Bool.and_self (ai @Nat.zero_add @Nat.add_zero))))) (ai (ai (ai (ai @bm @and_self) (ai @and_true (ai @true_and @if_true.{1}))) (ai (ai @aS @hF) (ai @h0 (ai @rZ @xt)))) (ai (ai (ai @tP @xr) (ai @xq (ai @F2 @F4))) (ai (ai @F9 @Gi) (ai @F3 (ai @F0 @F1))))))) (ai (ai (ai (ai (ai (ai @F5 @F6) (ai @F7 @F8)) (ai (ai @sF @sG) (ai @yb (ai @ya @F_)))) (ai (ai (ai @FU @FV) (ai @FW (ai @FX @FY))) (ai (ai @FZ @Ga) (ai @Gc (ai @Gb @Gd))))) (ai (ai (ai (ai @Ge @Gf) (ai @Gg (ai @Gh @GA))) (ai (ai @GF @GI) (ai @u3 (ai @qP @u4)))) (ai (ai (ai @Gy @ym) (ai @yo (ai @yn @GL))) (ai (ai @GM @GN) (ai @GO (ai @GP @GB)))))) (ai (ai (ai (ai (ai @GD @po) (ai @yp @GC)) (ai (ai @Gz @GG) (ai @GJ (ai @GK @sH)))) (ai (ai (ai @Gt @Gu) (ai @Gv (ai @Gw @Gx))) (ai (ai @Bj @Bs) (ai @Bk (ai @Bp @Bo))))) (ai (ai (ai (ai @Bn @Bm) (ai @Bl (ai @Bq @Br))) (ai (ai @Ak @DW) (ai @ae.tg (ai @ae.dC @ae.get_set_same)))) (ai (ai (ai @ae.get_set_other @ae.b8) (ai @ae.dz (ai @ae.Ez @ae.set_set))) (ai (ai @zI @zJ) (ai @zp (ai @zm @zn)))))))) (ai (ai (ai (ai (ai (ai (ai @zN @zE) (ai @zF @zG)) (ai (ai @zH @zK) (ai @zO (ai @zP @zQ)))) (ai (ai (ai @zL @zM) (ai @zy (ai @zz @zq))) (ai (ai @zl @zs) (ai @zt (ai @zr @zx))))) (ai (ai (ai (ai @zB @zu) (ai @zo (ai @zv @zw))) (ai (ai @AG @AH) (ai @AI (ai @AJ @AK)))) (ai (ai (ai @AL @AM) (ai @AN (ai @AO @AP))) (ai (ai @AQ @AR) (ai @AS (ai @AT @AU)))))) (ai (ai (ai (ai (ai @AV @AW) (ai @AX @pP)) (ai (ai @pQ @AY) (ai @AZ (ai @A0 @A1)))) (ai (ai (ai @A2 @A3) (ai @A4 (ai @A5 @A6))) (ai (ai @A7 @A8) (ai @A9 (ai @A_ @Ba))))) (ai (ai (ai (ai @Bb @Bc) (ai @Bd (ai @Be @Bf))) (ai (ai @Bg @Bh) (ai @Aw (ai @Ax @Ay)))) (ai (ai (ai @Az @AA) (ai @AD (ai @AE @AF))) (ai (ai @BJ @BK) (ai @BL (ai @BM @BN))))))) (ai (ai (ai (ai (ai (ai @BO @BP) (ai @BQ @BR)) (ai (ai @BS @BT) (ai @BU (ai @BV @BW)))) (ai (ai (ai @BX @BY) (ai @BZ (ai @B0 @B1))) (ai (ai @B2 @B3) (ai @B4 (ai @B5 @B6))))) (ai (ai (ai (ai @B7 @B8) (ai @B9 (ai @B_ @Ca))) (ai (ai @Cb @Cc) (ai @Cd (ai @Ce @Cf)))) (ai (ai (ai @Cg @Ch) (ai @Ci (ai @Cj @Ck))) (ai (ai @Cl @Cm) (ai @BA (ai @BB @BD)))))) (ai (ai (ai (ai (ai @BE @BF) (ai @BG @BH)) (ai (ai @BI @Dt) (ai @rN (ai @tB @rO)))) (ai (ai (ai @tC @rP) (ai @tD (ai @tE @xc))) (ai (ai @k4 @p7) (ai @Dm (ai @Dn @Dp))))) (ai (ai (ai (ai @Dq @tF) (ai @xd (ai @Dr @Ds))) (ai (ai @Di @Dj) (ai @Dk (ai @Dl @CA)))) (ai (ai (ai @CB @CC) (ai @wM (ai @CE @wN))) (ai (ai @wO @CF) (ai @CG (ai @wK @wL))))))))
def bx:=ai (ai (ai (ai (ai @Hn @Hj) (ai @ED (ai @EE @EJ))) (ai (ai @Hc @vf) (ai @dY (ai @y6 @eE)))) (ai (ai (ai @vd @Hi) (ai @He (ai @Hh @Hf))) (ai (ai @Hg @Hd) (ai @Es (ai @Er @zh))))) (ai (ai (ai (ai @yK @yL) (ai @yM (ai @vn @vo))) (ai (ai @yH @yI) (ai @vm (ai @yJ @yG)))) (ai (ai (ai @Option.bind_some.{0,0} @aR) (ai @aK (ai @yZ @EO))) (ai (ai @ER @EN) (ai @l1 (ai @xK @EP)))))
def dN:=ai (ai (ai (ai @List.getElem?_cons_zero.{0} (ai @List.getElem?_cons_succ.{0} @List.drop_zero.{0})) (ai (ai @List.drop_succ_cons.{0} @List.take_succ_cons.{0}) (ai @List.take_zero.{0} @List.set_cons_zero.{0}))) (ai (ai (ai @List.set_cons_succ.{0} @List.cons_append.{0}) (ai @List.nil_append.{0} @List.length_cons.{0})) (ai (ai @List.length_nil.{0} @List.all_cons.{0}) (ai @List.all_nil.{0} @Bool.and_true)))) (ai (ai (ai (ai @Bool.and_self @Nat.zero_add) (ai @Nat.add_zero @bm)) (ai (ai @and_self @and_true) (ai @true_and @if_true.{1}))) (ai (ai (ai @aS @hF) (ai @h0 @rZ)) (ai (ai @xt @tP) (ai @xr @xq))))
def cL:=ai (ai (ai (ai (ai @F2 (ai @F4 @F9)) (ai (ai @Gi @F3) (ai @F0 @F1))) (ai (ai (ai @F5 @F6) (ai @F7 @F8)) (ai (ai @sF @sG) (ai @yb @ya)))) (ai (ai (ai @F_ (ai @FU @FV)) (ai (ai @FW @FX) (ai @FY @FZ))) (ai (ai (ai @Ga @Gc) (ai @Gb @Gd)) (ai (ai @Ge @Gf) (ai @Gg @Gh))))) (ai (ai (ai (ai @GA (ai @GF @GI)) (ai (ai @u3 @qP) (ai @u4 @Gy))) (ai (ai (ai @ym @yo) (ai @yn @GL)) (ai (ai @GM @GN) (ai @GO @GP)))) (ai (ai (ai @GB (ai @GD @po)) (ai (ai @yp @GC) (ai @Gz @GG))) (ai (ai (ai @GJ @GK) (ai @sH @Gt)) (ai (ai @Gu @Gv) (ai @Gw @Gx)))))
def cZ:=ai (ai (ai @Bj (ai @Bs @Bk)) (ai @Bp (ai @Bo @Bn))) (ai (ai @Bm (ai @Bl @Bq)) (ai @Br (ai @Ak @DW)))
def dO:=ai (ai (ai @ae.tg @ae.dC) (ai @ae.get_set_same @ae.get_set_other)) (ai (ai @ae.b8 @ae.dz) (ai @ae.Ez @ae.set_set))
def eg:=ai (ai (ai (ai (ai (ai (ai @zI @zJ) (ai @zp (ai @zm @zn))) (ai (ai @zN @zE) (ai @zF (ai @zG @zH)))) (ai (ai (ai @zK @zO) (ai @zP (ai @zQ @zL))) (ai (ai @zM @zy) (ai @zz (ai @zq @zl))))) (ai (ai (ai (ai @zs @zt) (ai @zr (ai @zx @zB))) (ai (ai @zu @zo) (ai @zv (ai @zw @AG)))) (ai (ai (ai @AH @AI) (ai @AJ (ai @AK @AL))) (ai (ai @AM @AN) (ai @AO (ai @AP @AQ)))))) (ai (ai (ai (ai (ai @AR @AS) (ai @AT (ai @AU @AV))) (ai (ai @AW @AX) (ai @pP (ai @pQ @AY)))) (ai (ai (ai @AZ @A0) (ai @A1 (ai @A2 @A3))) (ai (ai @A4 @A5) (ai @A6 (ai @A7 @A8))))) (ai (ai (ai (ai @A9 @A_) (ai @Ba (ai @Bb @Bc))) (ai (ai @Bd @Be) (ai @Bf (ai @Bg @Bh)))) (ai (ai (ai @Aw @Ax) (ai @Ay (ai @Az @AA))) (ai (ai @AD @AE) (ai @AF (ai @BJ @BK))))))) (ai (ai (ai (ai (ai (ai @BL @BM) (ai @BN (ai @BO @BP))) (ai (ai @BQ @BR) (ai @BS (ai @BT @BU)))) (ai (ai (ai @BV @BW) (ai @BX (ai @BY @BZ))) (ai (ai @B0 @B1) (ai @B2 (ai @B3 @B4))))) (ai (ai (ai (ai @B5 @B6) (ai @B7 (ai @B8 @B9))) (ai (ai @B_ @Ca) (ai @Cb (ai @Cc @Cd)))) (ai (ai (ai @Ce @Cf) (ai @Cg (ai @Ch @Ci))) (ai (ai @Cj @Ck) (ai @Cl (ai @Cm @BA)))))) (ai (ai (ai (ai (ai @BB @BD) (ai @BE (ai @BF @BG))) (ai (ai @BH @BI) (ai @Dt (ai @rN @tB)))) (ai (ai (ai @rO @tC) (ai @rP (ai @tD @tE))) (ai (ai @xc @k4) (ai @p7 (ai @Dm @Dn))))) (ai (ai (ai (ai @Dp @Dq) (ai @tF (ai @xd @Dr))) (ai (ai @Ds @Di) (ai @Dj (ai @Dk @Dl)))) (ai (ai (ai @CA @CB) (ai @CC (ai @wM @CE))) (ai (ai @wN (ai @wO @CF)) (ai @CG (ai @wK @wL)))))))
def Ea:=ai (ai @hF (ai @h0 @rZ)) (ai (ai @xt @tP) (ai @xr @xq))
def aj{p:Prop}(h:p:=by first|assumption|omega|(simp only[D1];omega)|(simp only[Ea];done)|fail):p:=h
def dy{p:Prop}(h:p:=by first|assumption|omega|(simp only[D1];omega)|(simp only[Ea];done)|(simp only[List.length_append,List.length_cons,List.length_nil];omega)|fail):p:=h
def Ja:(∀cs,(ad.agg cs).cells=cs)/\(∀b,(ad.bool b).cells=[C b])/\(∀k n,(ad.int k n).cells=[.int k n])/\(∀s,(ad.str s).cells=[Y s])/\(∀l i c,(ad.ptr l i c).cells=[.ptr l i c])/\ad.nilPtr.cells=[.nilPtr]/\(∀l i n e c,(ad.aD l i n e c).cells=[.aD l i n e c])/\ad.az.cells=[.az]/\(∀f a b,(ad.func f a b).cells=[.func f a b])/\ad.nilFunc.cells=[.nilFunc]/\ad.nilIface.cells=[.nilIface]:=
 ⟨λ_=>rfl,λ_=>rfl,λ_ _=>rfl,λ_=>rfl,λ_ _ _=>rfl,rfl,λ_ _ _ _ _=>rfl,rfl,λ_ _ _=>rfl,rfl,rfl⟩
def ax:=ai @bg.eq_1 (ai @cQ.eq_1 (ai @aq.eq_1 (ai @aY.eq_1 (ai Ja H7))))
end
abbrev aG:=List UInt8
structure Tok where
 kind:Int
 text:aG
 n:Int
 pos:Int
def Tok.none:Tok:=⟨0,[],0,0⟩
def al(T:List Tok)(at_:Int):Tok:=if at_<0\/(T.length:Int)<=at_ then .none else T[at_.toNat]?.getD .none
structure an where
 at_:Int
 a8:Int
 ak:Int
 bD:Int
abbrev eH(n:Int):Int:=IntKind.i64.wrap n
structure bK where
 kind:Int
 n:Int:=0
 name:aG:=[]
 cp:aG:=[]
 c2:Int:=0
 pos:Int:=0
 u2:Int:=0
 Gr:Int:=0
 qO:Int:=0
 ref:Int:=0
inductive aJ where
 |mk (a:bK) (kids:List aJ)
def aJ.zero:aJ:= .mk {kind:=0} []
def bo(T:List Tok)(s:an)(k:Int)(x:aG):Bool:=s.ak==0&&((al T s.at_).kind==k&&(al T s.at_).text==x)
def bE(T:List Tok)(e:Int)(s:an):an:=if s.ak=0 then {s with ak:=e,bD:=(al T s.at_).pos}else s
def av(s:an):an:={s with at_:=eH (s.at_+1)}
def e_(T:List Tok)(k:Int)(x:aG)(s:an):Bool×an:=bif bo T s k x then(X,av s)else(U,s)
def bR(T:List Tok)(x:aG)(s:an):Bool×an:=bif bo T s 4 x then(X,av s)else(U,bE T 2 s)
def cV(T:List Tok)(x:aG)(s:an):Bool×an:=bif bo T s 4 x then(if 50<=s.a8 then(U,bE T 4 s)else(X,{s with at_:=eH (s.at_+1),a8:=eH (s.a8+1)}))else(U,bE T 2 s)
def dQ(s:an):an:={s with a8:=eH (s.a8-1)}
def gE(T:List Tok)(x:aG)(s:an):Bool×an:=bR T x (dQ s)
def fF(T:List Tok):Nat->Int->an->(Int×an) ⊕ an
 |0,d,s=>bif bo T s 4 [91]then .inr (bE T 4 s)else .inl (d,s)
 |n+1,d,s=>bif bo T s 4 [91]then fF T n (d+1) (av s)else .inl (d,s)
def iX(T:List Tok)(x:aG):Nat->an->an
 |0,s=>s
 |n+1,s=>iX T x n (bR T x s).2
def iO(T:List Tok)(d:Int)(s:an):(aG×Int)×an:=bif ((al T s.at_).kind != 1&&(!bo T s 3 [105,110,116]&& !bo T s 3 [98,111,111,108]))then(([],0),bE T 2 s) else(((al T s.at_).text,d),iX T [93] d.toNat (av s))
def dD(T:List Tok)(s:an):(aG×Int)×an:=match fF T 3 0 s with
 | .inr s'=>(([],0),s')
 | .inl (d,s')=>iO T d s'
def ko:List (List (aG×Int)):=[[([124,124],24)],[([38,38],23)],[([60],19),([60,61],20),([61,61],21),([33,61],22)],[([43],14),([45],15)],[([42],16),([47],17),([37],18)]]
def mS(T:List Tok)(s:an):List (aG×Int)->Int
 |[]=>0
 |(x,k)::r=>bif bo T s 4 x then k else mS T s r
def k1(T:List Tok)(lev:Nat)(s:an):Int:=mS T s (ko[lev]?.getD [])
def yl(T:List Tok)(s:an):aJ×an:=(.mk {kind:=2,n:=bif (al T s.at_).text==[116,114,117,101]then 1 else 0,pos:=(al T s.at_).pos} [],av s)
def xm(T:List Tok)(s:an):aJ×an:=(.mk {kind:=3,cp:=(dD T (av s)).1.1,c2:=(dD T (av s)).1.2,pos:=(al T s.at_).pos} [],(dD T (av s)).2)
def oM(T:List Tok)(s:an):aJ×an:=(.mk {kind:=11,pos:=(al T s.at_).pos} [],bif (cV T [40] (av s)).1 then(gE T [41] (cV T [40] (av s)).2).2 else(cV T [40] (av s)).2)
def hS(T:List Tok)(e:aJ)(s:an):aJ×an:=(.mk {kind:=5,name:=(al T (av s).at_).text,pos:=(al T s.at_).pos} [e],av (bif (al T (av s).at_).kind != 1 then bE T 2 (av s)else av s))
abbrev aa(α:Type):=Option (α×an)
mutual
def fJ(T:List Tok):Nat->Nat->an->aa aJ
 |0,_,_=>Z
 |n+1,lev,s=>if lev=5 then kG T n s else(fJ T n (lev+1) s).bind λp=>hI T n lev p.1 p.2
def hI(T:List Tok):Nat->Nat->aJ->an->aa aJ
 |0,_,_,_=>Z
 |n+1,lev,e,s=>if k1 T lev s=0 then D (e,s)else
  (fJ T n (lev+1) (av s)).bind λp=>hI T n lev (.mk {kind:=k1 T lev s,pos:=(al T s.at_).pos} [e,p.1]) p.2
def kG(T:List Tok):Nat->an->aa aJ
 |0,_=>Z
 |n+1,s=>bif bo T s 4 [45]then nP T n [45] 12 s else bif bo T s 4 [33]then nP T n [33] 13 s else mL T n s
def nP(T:List Tok):Nat->aG->Int->an->aa aJ
 |0,_,_,_=>Z
 |n+1,x,k,s=>bif (cV T x s).1 then(kG T n (cV T x s).2).bind λp=>D (.mk {kind:=k,pos:=(al T s.at_).pos} [p.1],dQ p.2)else D (.zero,(cV T x s).2)
def mL(T:List Tok):Nat->an->aa aJ
 |0,_=>Z
 |n+1,s=>(jo T n s).bind λp=>fl T n p.1 p.2
def fl(T:List Tok):Nat->aJ->an->aa aJ
 |0,_,_=>Z
 |n+1,e,s=>bif s.ak==0&&(al T s.at_).kind==4 then
  (bif (al T s.at_).text==[46]then fl T n (hS T e s).1 (hS T e s).2
  else bif (al T s.at_).text==[91]then(h7 T n [91] [93] s).bind λp=>fl T n (.mk {kind:=6,pos:=(al T s.at_).pos} [e,p.1]) p.2
  else D (e,s))else D (e,s)
def h7(T:List Tok):Nat->aG->aG->an->aa aJ
 |0,_,_,_=>Z
 |n+1,b,c,s=>bif (cV T b s).1 then(fJ T n 0 (cV T b s).2).bind λp=>D (p.1,(gE T c p.2).2)else D (.zero,(cV T b s).2)
def jo(T:List Tok):Nat->an->aa aJ
 |0,_=>Z
 |n+1,s=>if s.ak≠0 then D (.zero,s)else
  if(al T s.at_).kind=2 then D (.mk {kind:=1,n:=(al T s.at_).n,pos:=(al T s.at_).pos} [],av s)else
  if(al T s.at_).kind=1 then oD T n s else
  if(al T s.at_).kind=3\/(al T s.at_).kind=4 then
   (bif (al T s.at_).kind==4 then(bif (al T s.at_).text==[40]then h7 T n [40] [41] s else D (.zero,bE T 2 s))
   else bif (al T s.at_).text==[116,114,117,101]||(al T s.at_).text==[102,97,108,115,101]then D (yl T s)
   else bif (al T s.at_).text==[110,117,108,108]then D (xm T s)
   else bif (al T s.at_).text==[110,101,119]then ow T n s
   else bif (al T s.at_).text==[108,101,110]then(h7 T n [40] [41] (av s)).bind λp=>D (.mk {kind:=10,pos:=(al T s.at_).pos} [p.1],p.2)
   else bif (al T s.at_).text==[114,101,97,100]then D (oM T s)
   else D (.zero,bE T 2 s))
  else D (.zero,bE T 2 s)
def oD(T:List Tok):Nat->an->aa aJ
 |0,_=>Z
 |n+1,s=>bif bo T (av s) 4 [40]then(lY T n (av s)).bind λp=>D (.mk {kind:=7,name:=(al T s.at_).text,pos:=(al T s.at_).pos} p.1,p.2)
  else D (.mk {kind:=4,name:=(al T s.at_).text,pos:=(al T s.at_).pos} [],av s)
def ow(T:List Tok):Nat->an->aa aJ
 |0,_=>Z
 |n+1,s=>bif bo T (av s) 4 [91]then
  (h7 T n [40] [41] (bR T [93] (dD T (av (av s))).2).2).bind λp=>
   D (.mk {kind:=9,cp:=(dD T (av (av s))).1.1,c2:=(dD T (av (av s))).1.2,pos:=(al T s.at_).pos} [p.1],p.2)
  else D (.mk {kind:=8,cp:=(al T (av s).at_).text,pos:=(al T s.at_).pos} [],av (bif (al T (av s).at_).kind != 1 then bE T 2 (av s)else av s))
def lY(T:List Tok):Nat->an->aa (List aJ)
 |0,_=>Z
 |n+1,s=>bif (cV T [40] s).1 then
  (bif bo T (cV T [40] s).2 4 [41]then D ([],(gE T [41] (cV T [40] s).2).2)
  else(fJ T n 0 (cV T [40] s).2).bind λp=>hX T n [p.1] p.2)
  else D ([],(cV T [40] s).2)
def hX(T:List Tok):Nat->List aJ->an->aa (List aJ)
 |0,_,_=>Z
 |n+1,l,s=>bif (e_ T 4 [44] s).1 then(fJ T n 0 (e_ T 4 [44] s).2).bind λp=>hX T n (l++[p.1]) p.2
  else D (l,(gE T [41] (e_ T 4 [44] s).2).2)
end
def Tok.cells(t:Tok):List ad:=[I J t.kind,Y t.text,I J t.n,I J t.pos]
def Tok.v(t:Tok):ad:= .agg [I J t.kind,Y t.text,I J t.n,I J t.pos]
def fe(H:ae)(v:ad)(T:List Tok):Prop:=(v= .az/\T=[])\/∃l i cap,v= .aD l i T.length 4 cap/\(T=[]\/∃ro els,H.get l=D (.row ro 4 els)/\∀(k:Nat) (t:Tok),T[k]? =D t->els[i+k]? =D t.cells)
def jD(H:ae)(r:Nat)(au cD:ad)(s:an):Prop:=H.get r=D (.row U 6 [[au,I J s.at_,I J s.a8,cD,I J s.ak,I J s.bD]])
def KU:List (List (List ad)):=[[[Y [124,124],I J 24]],[[Y [38,38],I J 23]],[[Y [60],I J 19],[Y [60,61],I J 20],[Y [61,61],I J 21],[Y [33,61],I J 22]],[[Y [43],I J 14],[Y [45],I J 15]],[[Y [42],I J 16],[Y [47],I J 17],[Y [37],I J 18]]]
def pv(H:ae)(cD:ad):Prop:=∃l i cap ro els,cD= .aD l i 5 1 cap/\H.get l=D (.row ro 1 els)/\∀(k:Nat) (row:List (List ad)),KU[k]? =D row->∃l' c d h a,els[i+k]? =D [.aD l' c row.length 2 d]/\H.get l'=D (.row h 2 a)/\∀(j:Nat) (e:List ad),row[j]? =D e->a[c+j]? =D e
def pt(H:ae)(cD:ad):Prop:=cD= .az\/pv H cD
structure ka(H:ae)(r:Nat)(T:List Tok)(au cD:ad)(s:an):Prop where
 rd:jD H r au cD s
 bL:fe H au T
 cD:pt H cD
abbrev ca(r:Nat):ae->ae->Prop:=c7 (· =r)
def fe.aW{H H':ae}{v:ad}{T:List Tok}(h:fe H v T)(p:∀l ro els,H.get l=D (.row ro 4 els)->H'.get l=D (.row ro 4 els)):fe H' v T:=by
 rcases h with h|⟨l,i,cap,c,a|⟨ro,els,a,d⟩⟩
 ·exact .inl h
 ·exact .inr ⟨l,i,cap,c,.inl a⟩
 ·exact .inr ⟨l,i,cap,c,.inr ⟨ro,els,p _ _ _ a,d⟩⟩
def fe.aL{H H':ae}{v:ad}{T:List Tok}(h:fe H v T)(p:aP H H'):fe H' v T:=h.aW λ_ _ _ e=>p.get e
def fe.one{H:ae}{v:ad}{T:List Tok}(h:fe H v T):v.one=true:=by
 rcases h with⟨rfl,_⟩|⟨l,i,cap,rfl,_⟩<;>rfl
def pv.one{H:ae}{v:ad}(h:pv H v):v.one=true:=by
 obtain⟨l,i,cap,ro,els,rfl,_⟩:=h;rfl
def pt.one{H:ae}{v:ad}(h:pt H v):v.one=true:=by
 rcases h with rfl|h
 ·rfl
 ·exact h.one
def pv.aW{H H':ae}{v:ad}(h:pv H v)(p:∀l ro n els,n≠6->H.get l=D (.row ro n els)->H'.get l=D (.row ro n els)):pv H' v:=by
 obtain⟨l,i,cap,ro,els,m,o,q⟩:=h;refine⟨l,i,cap,ro,els,m,p _ _ _ _ af o,λk row s=> ?_⟩;obtain⟨l',u,a,w,j,c,d,e⟩:=q k row s;exact⟨l',u,a,w,j,c,p _ _ _ _ af d,e⟩
def pt.aW{H H':ae}{v:ad}(h:pt H v)(p:∀l ro n els,n≠6->H.get l=D (.row ro n els)->H'.get l=D (.row ro n els)):pt H' v:=by
 rcases h with rfl|h
 ·exact .inl rfl
 ·exact .inr (h.aW p)
def jD.aL{H H':ae}{r:Nat}{au cD:ad}{s:an}(a:jD H r au cD s)(p:aP H H'):jD H' r au cD s:=p.get a
def jD.lt{H:ae}{r:Nat}{au cD:ad}{s:an}(a:jD H r au cD s):r<H.next:=ae.aV a
def ka.mut{H H':ae}{r:Nat}{T:List Tok}{au cD:ad}{s s':an}(h:ka H r T au cD s)(m:ca r H H')(c:jD H' r au cD s'):ka H' r T au cD s':=by
 have a:∀l ro n els,n≠6->H.get l=D (.row ro n els)->H'.get l=D (.row ro n els):=λl ro n els d e=>m.get e (by
  rintro rfl;rw[h.rd]at e;simp only[aS,bW.row.injEq]at e;exact d e.2.1.symm)
 exact⟨c,h.bL.aW λl ro els e=>a l ro 4 els af e,h.cD.aW a⟩
def ka.aL{H H':ae}{r:Nat}{T:List Tok}{au cD:ad}{s:an}(h:ka H r T au cD s)(p:aP H H'):ka H' r T au cD s:=h.mut (p.mut _) (h.rd.aL p)
def lW(c:Int):Bool:=(decide (97<=c)&&decide (c<=122))||(decide (65<=c)&&decide (c<=90))
def mN(c:Int):Bool:=decide (48<=c)&&decide (c<=57)
def eN(b:UInt8):Bool:=lW b.toNat
def eL(b:UInt8):Bool:=mN b.toNat
def qW:List aG:=[[114,101,99,111,114,100],[103,108,111,98,97,108],[102,117,110,99],[118,97,114],[108,101,116],[105,102],[101,108,115,101],[119,104,105,108,101],[114,101,116,117,114,110],[112,114,105,110,116],[110,117,108,108],[110,101,119],[108,101,110],[114,101,97,100],[116,114,117,101],[102,97,108,115,101],[105,110,116],[98,111,111,108]]
def hl(x:aG):List aG->Bool
 |[]=>U
 |y::a=>y==x||hl x a
def j7(x:aG):Bool:=hl x qW
def n_:aG->Bool
 |[]=>X
 |c::r=>(eN c||eL c)&&n_ r
def eG(x:aG):Bool:=decide (1<=x.length)&&(decide (x.length<=8)&&(eN (x.headD 0)&&(!j7 x&&n_ x)))
def runN(d:Bool):aG->Nat
 |[]=>0
 |c::r=>bif eL c||(!d&&eN c)then runN d r+1 else 0
def jB:Int->aG->Option Int
 |n,[]=>D n
 |n,c::r=>if(9223372036854775807-((c.toNat:Int)-48))/10<n then Z else jB (10*n+((c.toNat:Int)-48)) r
def j3:List aG:=[[60,61],[61,61],[33,61],[38,38],[124,124]]
def hG:aG:=[123,125,40,41,91,93,59,58,44,46,61,43,45,42,47,37,60,33]
def jP(c:UInt8):aG->Bool
 |[]=>U
 |y::a=>c.toNat==y.toNat||jP c a
def hM(s:aG):aG:=bif decide (2<=s.length)&&hl (s.take 2) j3 then s.take 2 else match s with
 |c::_=>bif jP c hG then[c]else[]
 |[]=>[]
def jq(c:UInt8):Bool:=c.toNat==32||(c.toNat==9||(c.toNat==10||c.toNat==13))
def dc:Bool->aG->Nat
 |_,[]=>0
 |true,c::r=>bif c.toNat==10 then dc U r+1 else dc X r+1
 |false,c::r=>bif jq c then dc U r+1 else bif c==47&&r.head?==D 47 then dc X r+1 else 0
def hZ(s:aG):Option (Int×aG×Int×Nat):=match s with
 |[]=>Z
 |c::_=>
  bif eN c then(bif j7 (s.take (runN U s))then D (3,s.take (runN U s),0,runN U s)else bif eG (s.take (runN U s))then D (1,s.take (runN U s),0,runN U s)else Z)
  else bif eL c then
   (match jB 0 (s.take (runN X s))with
   |none=>Z
   |some v=>bif (decide (1<runN X s)&&c.toNat==48)||(decide (runN X s<s.length)&&eN ((s[runN X s]?).getD 0))then Z else D (2,[],v,runN X s))
  else bif hM s==[]then Z else D (4,hM s,0,(hM s).length)
def gT:Nat->aG->Nat->Nat ⊕ List Tok
 |0,_,p=> .inl p
 |_+1,[],p=> .inr [⟨0,[],0,p⟩]
 |n+1,c::r,p=>match hZ (c::r)with
  |none=> .inl p
  |some (k,t,v,m)=>match gT n (((c::r).drop m).drop (dc U ((c::r).drop m))) (p+m+dc U ((c::r).drop m))with
   | .inl e=> .inl e
   | .inr l=> .inr (⟨k,t,v,p⟩::l)
def rM(s:aG):Nat ⊕ List Tok:=gT (s.length+1) (s.drop (dc U s)) (dc U s)
def dI(s:aG):List Tok×Int×Int:=if 6000<s.length then([],4,0)else match rM s with
 | .inl e=>([],1,e)
 | .inr l=>(l,0,0)
def Ks(s:List UInt8)(k:Int):eT P 9 (Y s) (I J k)=if 0<=k then(match s[k.toNat]? with|some b=>D (I .u8 b.toNat)|none=>Z)else none:=ah
def kn{s:List UInt8}{k:Nat}{b:UInt8}(h:s[k]? =D b):eT P 9 (Y s) (I J (k:Int))=D (I .u8 b.toNat):=by
 rw[Ks,if_pos af];simp[h]
def Kt{s:List UInt8}{b:UInt8}(h:s[0]? =D b):eT P 9 (Y s) (I J 0)=D (I .u8 b.toNat):=kn (k:=0) h
def lH(a b:Nat)(h:a+b<=4000000000000000000):IntKind.i64.wrap ((a:Int)+(b:Int))=((a+b:Nat):Int):=by rw[wrap_i64 af af];omega
def iD(a:Nat)(h:a<=4000000000000000000):IntKind.i64.wrap ((a:Int)+1)=((a+1:Nat):Int):=by rw[wrap_i64 af af];omega
def vc(a:Nat)(h:a<=4000000000000000000):IntKind.i64.wrap ((a:Int)+2)=((a+2:Nat):Int):=by rw[wrap_i64 af af];omega
def G_(a b:Nat)(h:a<=4000000000000000000)(c:b<=a):IntKind.i64.wrap ((a:Int)-(b:Int))=((a-b:Nat):Int):=by rw[wrap_i64 af af];omega
def p5{H:ae}(c:Int):W (aE P aA 62 [I .u8 c] H) λv H'=>v= C (lW c)/\H'=H:=by
 refine cG (λ_=>MF 0) ?_;unfold lW;cases a:decide (97<=c)<;>cases d:decide (c<=122)<;>cases e:decide (65<=c)<;>cases h:decide (c<=90)<;>
  (simp-implicitDefEqProofs(disch:=try exact aj)only[uT,bg,bx,cZ,a,d,e,h];exact bb.2 ⟨rfl,rfl⟩)
def wb{H:ae}(c:Int):W (aE P aA 66 [I .u8 c] H) λv H'=>v= C (mN c)/\H'=H:=by
 refine cG (λ_=>MJ 0) ?_;unfold mN;cases a:decide (48<=c)<;>cases d:decide (c<=57)<;>
  (simp-implicitDefEqProofs(disch:=try exact aj)only[uU,bg,bx,cZ,a,d];exact bb.2 ⟨rfl,rfl⟩)
def drop_cons{s:aG}{k:Nat}{c:UInt8}{r:aG}(h:s.drop k=c::r):s[k]? =D c/\s.drop (k+1)=r/\k<s.length/\s.length=k+1+r.length:=by
 have a:s[k]? =D c:=by
  have:=List.getElem?_drop (xs:=s) (i:=k) (j:=0);rw[h]at this;simpa using this.symm
 have d:s.drop (k+1)=r:=by
  have:(s.drop k).drop 1=r:=by rw[h];rfl
  rwa[List.drop_drop]at this
 have e:k<s.length:=(List.getElem?_eq_some_iff.1 a).1;have l:=congrArg List.length h;simp at l;exact⟨a,d,e,af⟩
def drop_nil{s:aG}{k:Nat}(h:s.drop k=[]):s.length<=k:=List.drop_eq_nil_iff.1 h
def Fj{H:ae}{s:aG}(aB:s.length<=1000000000000000000)(at_:Nat)(d:Bool)(N:Nat):∀(rest:aG) (n m:Nat),s.drop (at_+n)=rest->at_+n<=s.length->rest.length<m->
  W (ml (aE P aA) N m (Y s) (I J at_) (C d) (I J n) H) λv H'=>v= I J ((n+runN d rest:Nat):Int)/\H'=H
 |_,_,0,_,_,hm=>af
 |[],n,m+1,h,u,hm=>by
  have:=drop_nil h;have i:¬(((at_+n:Nat):Int)<(s.length:Int)):=af;simp-implicitDefEqProofs(disch:=try exact aj)only[ml,jW,ln,kC,reduceAdd,reduceLeDiff,reduceIte,ax,lH,i,decide_false];exact bb.2 ⟨by simp[runN],rfl⟩
 |c::r,n,m+1,h,u,hm=>by
  obtain⟨p,q,x,y⟩:=drop_cons h;have i:(((at_+n:Nat):Int)<(s.length:Int)):=af;have w:=Fj (H:=H) aB at_ d N r (n+1) m (by rw[<-Nat.add_assoc];exact q) af (by simp at hm;omega);have j:=kn p;simp-implicitDefEqProofs(disch:=try exact aj)only[ml,jW,ln,kC,reduceAdd,reduceLeDiff,reduceIte,ax,lH,i,decide_true,j];refine pA (wb _) ?_;have fin:∀b,(eL c||(!d&&eN c))=b->(b=X->W (ml (aE P aA) N m (Y s) (I J at_) (C d) (I J ((n+1:Nat):Int)) H) λv H'=>v= I J ((n+runN d (c::r):Nat):Int)/\H'=H)/\(b=U->n+runN d (c::r)=n):=by
   intro b k;refine⟨λh=> ?_,λh=> ?_⟩
   ·refine w.mono ?_;rintro v H' ⟨rfl,rfl⟩;subst h;have e:runN d (c::r)=runN d r+1:=by rw[runN,k];rfl
    have o:n+1+runN d r=n+runN d (c::r):=by rw[e];omega
    exact⟨by rw[o],rfl⟩
   ·subst h;rw[runN,k];rfl
  cases a:mN (c.toNat:Int)with
  |true=>
   simp-implicitDefEqProofs(disch:=try exact aj)only[jW,ln,kC,bg,bx,cZ,iD];exact(fin X (by simp[eL,a])).1 rfl
  |false=>
   cases d with
   |true=>
    simp-implicitDefEqProofs(disch:=try exact aj)only[jW,ln,kC,bg,bx,Bool.not_true];exact bb.2 ⟨by rw[(fin U (by simp[eL,a])).2 rfl],rfl⟩
   |false=>
    simp-implicitDefEqProofs(disch:=try exact aj)only[jW,ln,kC,reduceAdd,reduceLeDiff,reduceIte,ax,Bool.not_false,lH,j];refine pA (p5 _) ?_;cases l:lW (c.toNat:Int)with
    |true=>
     simp-implicitDefEqProofs(disch:=try exact aj)only[jW,ln,kC,bg,bx,cZ,iD];exact(fin X (by simp[eL,eN,a,l])).1 rfl
    |false=>
     simp-implicitDefEqProofs(disch:=try exact aj)only[jW,ln,kC,bg,bx];exact bb.2 ⟨by rw[(fin U (by simp[eL,eN,a,l])).2 rfl],rfl⟩
def Fm{H:ae}{s:aG}(aB:s.length<=1000000000000000000)(at_:Nat)(a:at_<=s.length)(d:Bool):W (aE P aA 63 [Y s,I J at_,C d] H) λv H'=>v= I J (runN d (s.drop at_):Nat)/\H'=H:=by
 refine cG (λ_=>MG (s.length+1)) ?_;rw[kC];have:=Fj (H:=H) aB at_ d (s.length+1) (s.drop at_) 0 (s.length+1) rfl af (by simp;omega);simpa using this
def yU{H:ae}{x:aG}{l:Nat}(N:Nat)(all:List aG)(i:all.length<=1000)(d:H.get l=D (.row U 1 (all.map λy=>[ad.str y]))):∀(rest pre:List aG),all=pre++rest->∀(m:Nat),rest.length<m->
  W (nG (aE P aA) N m (Y x) (.aD l 0 all.length 1 (D all.length)) (I J pre.length) H) λv H'=>v= C (hl x rest)/\H'=H
 |_,_,_,0,hm=>af
 |[],pre,aC,m+1,hm=>by
  have a:¬((pre.length:Int)<(all.length:Int)):=by rw[aC];simp
  simp-implicitDefEqProofs(disch:=try exact aj)only[nG,mm,pa,o_,nF,reduceAdd,reduceLeDiff,reduceIte,ax,a,decide_false];exact bb.2 ⟨rfl,rfl⟩
 |y::j,pre,aC,m+1,hm=>by
  have a:((pre.length:Int)<(all.length:Int)):=by rw[aC];simp;omega
  have k:(0:Int)<=(pre.length:Int):=af;have h:((pre.length:Int)).toNat=pre.length:=af;have hle:pre.length<all.length:=af;have he:(all.map λy=>[ad.str y])[pre.length]? =D [ad.str y]:=by rw[aC];simp
  have hw:((pre++[y]).length:Int)=((pre.length+1:Nat):Int):=by simp
  simp-implicitDefEqProofs(disch:=try exact aj)only[nG,mm,pa,o_,nF,reduceAdd,reduceLeDiff,reduceIte,ax,a,decide_true,d,h,he];cases c:y==x with
  |true=>
   simp-implicitDefEqProofs(disch:=try exact aj)only[mm,pa,o_,nF,bg,bx];exact bb.2 ⟨by simp[hl,c],rfl⟩
  |false=>
   have e:=yU (H:=H) (x:=x) N all i d j (pre++[y]) (by simp[aC]) m (by simp at hm;omega);rw[hw]at e;simp-implicitDefEqProofs(disch:=try exact aj)only[mm,pa,o_,nF,bg,bx,cZ,iD];refine e.mono ?_;rintro v H' ⟨rfl,rfl⟩;exact⟨by simp[hl,c],rfl⟩
def yV{H:ae}(x:aG):W (aE P aA 64 [Y x] H) λv H'=>v= C (j7 x)/\aP H H':=by
 refine cG (λ_=>MH 19) ?_;rw[nF];have hw:W (aE P aA 81 [] H) λv H'=>v= .aD H.next 0 qW.length 1 (D qW.length)/\H'=H.push (.row U 1 (qW.map λy=>[ad.str y])):=by
  refine cG (λ_=>MS 0) ?_;rw[uW];simp only[vd,x1];exact bb.2 ⟨rfl,rfl⟩
 refine aO hw ?_;rintro _ _ ⟨rfl,rfl⟩;refine⟨(aP.push _ _).1,?_⟩;rw[o_];refine(yU (x:=x) 19 qW bk (ae.bM _ _) qW [] rfl 19 bk).mono ?_;rintro v H' ⟨rfl,rfl⟩;exact⟨rfl,aP.push _ _⟩
def yO{H:ae}{s:aG}(aB:s.length<=1000000000000000000)(N:Nat):∀(rest:aG) (n m:Nat),s.drop n=rest->n<=s.length->rest.length<m->
  W (nH (aE P aA) N m (Y s) (I J n) H) λv H'=>v= C (n_ rest)/\H'=H
 |_,_,0,_,_,hm=>af
 |[],n,m+1,h,p,hm=>by
  have:=drop_nil h;have a:¬((n:Int)<(s.length:Int)):=af;simp-implicitDefEqProofs(disch:=try exact aj)only[nH,hr,iy,h5,reduceAdd,reduceLeDiff,reduceIte,ax,a,decide_false];exact bb.2 ⟨by simp[n_],rfl⟩
 |c::r,n,m+1,h,p,hm=>by
  obtain⟨l,o,q,u⟩:=drop_cons h;have a:((n:Int)<(s.length:Int)):=af;have k:=yO (H:=H) aB N r (n+1) m o af (by simp at hm;omega);have d:=kn l;simp-implicitDefEqProofs(disch:=try exact aj)only[nH,hr,iy,h5,reduceAdd,reduceLeDiff,reduceIte,ax,a,decide_true,d];refine mF (p5 _) ?_;cases j:lW (c.toNat:Int)with
  |true=>
   simp-implicitDefEqProofs(disch:=try exact aj)only[hr,iy,h5,bg,bx,cZ,Bool.not_true,iD];refine k.mono ?_;rintro v H' ⟨rfl,e⟩;exact⟨by simp[n_,eN,j],e⟩
  |false=>
   simp-implicitDefEqProofs(disch:=try exact aj)only[hr,iy,h5,reduceAdd,reduceLeDiff,reduceIte,ax,Bool.not_false,d];refine pA (wb _) ?_;cases i:mN (c.toNat:Int)with
   |true=>
    simp-implicitDefEqProofs(disch:=try exact aj)only[hr,iy,h5,bg,bx,cZ,Bool.not_true,iD];refine k.mono ?_;rintro v H' ⟨rfl,e⟩;exact⟨by simp[n_,eL,i],e⟩
   |false=>
    simp-implicitDefEqProofs(disch:=try exact aj)only[hr,iy,h5,bg,bx,cZ,Bool.not_false];exact bb.2 ⟨by simp[n_,eN,eL,j,i],rfl⟩
def Hv{H:ae}{s:aG}(aB:s.length<=1000000000000000000):W (aE P aA 65 [Y s] H) λv H'=>v= C (eG s)/\aP H H':=by
 refine cG (λ_=>MI (s.length+1)) ?_;cases d:s with
 |nil=>
  have a:((([]:aG).length:Nat):Int)<1:=by simp
  simp-implicitDefEqProofs(disch:=try exact aj)only[hr,iy,h5,bg,bx,eg,cZ,a,decide_true];exact bb.2 ⟨by simp[eG],.refl _⟩
 |cons c r=>
  rw[<-d];have p:1<=s.length:=by rw[d];simp
  have a:¬((s.length:Int)<1):=af;have n:s[0]? =D c:=by rw[d];rfl
  have o:=Kt n;have l:s.headD 0=c:=by rw[d];rfl
  by_cases j:(8:Int)<(s.length:Int)
  ·have h:¬s.length<=8:=af;simp-implicitDefEqProofs(disch:=try exact aj)only[hr,iy,h5,bg,bx,eg,cZ,a,j,decide_true,decide_false];exact bb.2 ⟨by simp[eG,h],.refl _⟩
  ·have h:s.length<=8:=af;simp-implicitDefEqProofs(disch:=try exact aj)only[hr,iy,h5,bg,bx,eg,cZ,a,j,decide_false,o];refine pA (p5 _) ?_;cases k:lW (c.toNat:Int)with
   |false=>
    simp-implicitDefEqProofs(disch:=try exact aj)only[hr,iy,h5,bg,bx,Bool.not_false];exact bb.2 ⟨by unfold eG;rw[l];simp[eN,k],.refl _⟩
   |true=>
    simp-implicitDefEqProofs(disch:=try exact aj)only[hr,iy,h5,bg,bx,Bool.not_true];refine kb (yV s) ?_;rintro _ m ⟨rfl,i⟩;refine⟨i.1,?_⟩;cases hw:j7 s with
    |true=>
     simp-implicitDefEqProofs(disch:=try exact aj)only[hr,iy,h5,bg,bx];exact bb.2 ⟨by simp[eG,hw],i⟩
    |false=>
     simp-implicitDefEqProofs(disch:=try exact aj)only[hr,h5,bg,bx];refine(yO (H:=m) aB (s.length+1) s 0 (s.length+1) rfl af af).mono ?_;rintro v H' ⟨rfl,e⟩;exact⟨by unfold eG;rw[l];simp[p,h,eN,k,hw],by rw[e];exact i⟩
def Ad(n:Int):mG P 5 3 (I .u8 n)=D (I J (IntKind.i64.wrap n)):=ah
def EI(t:Bool)(a:Int):ao P .quo 3 t (I J a) (I J 10)=D (I J (IntKind.i64.wrap (a.tdiv 10))):=by simp[ao,hT]
def K3(t:Bool)(a b:Int):ao P .mul 3 t (I J a) (I J b)=D (I J (IntKind.i64.wrap (a*b))):=Ju _ _ _ _ _
def wrap_u8{n:Int}(a:0<=n)(c:n<=255):IntKind.u8.wrap n=n:=by
 show n%256=n;omega
def G5{H:ae}{s:aG}(aB:s.length<=1000000000000000000)(N:Nat):∀(rest:aG) (n m:Nat) (acc:Int),s.drop n=rest->n<=s.length->rest.length<m->0<=acc->acc<=9223372036854775807->(∀c∈rest,eL c=X)->
  W (mo (aE P aA) N m (Y s) (I J acc) (I J n) H) λv H'=>v=(match jB acc rest with|some z=> .tuple [I J z,C X]|none=> .tuple [I J 0,C U])/\H'=H
 |_,_,0,_,_,_,hm,_,_,_=>af
 |[],n,m+1,acc,h,B,hm,y,A,j=>by
  have:=drop_nil h;have a:¬((n:Int)<(s.length:Int)):=af;simp-implicitDefEqProofs(disch:=try exact aj)only[mo,nI,qI,pb,reduceAdd,reduceLeDiff,reduceIte,ax,a,decide_false];exact bb.2 ⟨by simp[jB],rfl⟩
 |c::r,n,m+1,acc,h,B,hm,y,A,j=>by
  obtain⟨w,x,K,L⟩:=drop_cons h;have a:((n:Int)<(s.length:Int)):=af;have k:=kn w;have i:=j c (by simp);simp only[eL,mN,Bool.and_eq_true,decide_eq_true_eq]at i;have l:IntKind.u8.wrap ((c.toNat:Int)-48)=(c.toNat:Int)-48:=wrap_u8 af af;have o:IntKind.i64.wrap ((c.toNat:Int)-48)=(c.toNat:Int)-48:=wrap_i64 af af;have p:IntKind.i64.wrap (9223372036854775807-((c.toNat:Int)-48))=9223372036854775807-((c.toNat:Int)-48):=wrap_i64 af af;have q:(9223372036854775807-((c.toNat:Int)-48)).tdiv 10=(9223372036854775807-((c.toNat:Int)-48))/10:=Int.tdiv_eq_ediv_of_nonneg af;have u:IntKind.i64.wrap ((9223372036854775807-((c.toNat:Int)-48))/10)=(9223372036854775807-((c.toNat:Int)-48))/10:=wrap_i64 af af
  by_cases d:(9223372036854775807-((c.toNat:Int)-48))/10<acc
  ·simp-implicitDefEqProofs(disch:=try exact aj)only[mo,nI,qI,pb,reduceAdd,reduceLeDiff,reduceIte,ax,a,decide_true,k,l,o,p,q,u,EI,qX,Ad,d];exact bb.2 ⟨by simp[jB,d],rfl⟩
  ·have F:IntKind.i64.wrap (10*acc)=10*acc:=wrap_i64 af af;have G:IntKind.i64.wrap (10*acc+((c.toNat:Int)-48))=10*acc+((c.toNat:Int)-48):=wrap_i64 af af;have E:=G5 (H:=H) aB N r (n+1) m (10*acc+((c.toNat:Int)-48)) x af (by simp at hm;omega) af af (λc i=>j c (by simp[i]));simp-implicitDefEqProofs(disch:=try exact aj)only[mo,nI,qI,pb,reduceAdd,reduceLeDiff,reduceIte,ax,a,decide_true,k,l,o,p,q,u,F,G,EI,K3,qX,Ad,d,decide_false,iD];refine E.mono ?_;rintro v H' ⟨rfl,e⟩;exact⟨by rw[jB,if_neg d],e⟩
def Fg:∀(s:aG),∀c∈s.take (runN X s),eL c=X
 |[],c,h=>by simp[runN]at h
 |x::r,c,h=>by
  rw[runN]at h;cases a:eL x with
  |true=>
   simp only[a,Bool.true_or,aR,List.take_succ_cons,List.mem_cons]at h;rcases h with rfl|h
   ·exact a
   ·exact Fg r c h
  |false=>simp[a]at h
def P7{H:ae}{s:aG}(aB:s.length<=1000000000000000000)(a:∀c∈s,eL c=X):W (aE P aA 67 [Y s] H) λv H'=>v=(match jB 0 s with|some z=> .tuple [I J z,C X]|none=> .tuple [I J 0,C U])/\H'=H:=by
 refine cG (λ_=>MK (s.length+1)) ?_;rw[pb];exact G5 aB (s.length+1) s 0 (s.length+1) 0 rfl af af af af a
def P0:P.underlying 9=D .string:=ah
def sA{s:List UInt8}{a b:Nat}(e:a<=b)(h:b<=s.length):kd P 9 (Y s) (D (I J (a:Int))) (D (I J (b:Int))) Z=D (Y ((s.drop a).take (b-a))):=by
 have c:eS (D (I J (b:Int))) s.length s.length=D b:=by simp[eS];omega
 have d:eS (D (I J (a:Int))) 0 b=D a:=by simp[eS];omega
 simp only[kd,P0,c,d]
def Ec{H:ae}{s:aG}{at_:Nat}{c:UInt8}(l:s[at_]? =D c)(N:Nat):∀(rest:aG) (j m:Nat),hG.drop j=rest->j<=18->rest.length<m->
  W (mq (aE P aA) N m (Y s) (I J at_) (Y hG) (I J j) H) λv H'=>v= Y (bif jP c rest then[c]else[])/\H'=H
 |_,_,0,_,_,hm=>af
 |[],j,m+1,h,x,hm=>by
  have:=drop_nil h;have z:hG.length=18:=rfl;have d:¬((j:Int)<(hG.length:Int)):=af;simp-implicitDefEqProofs(disch:=try exact aj)only[mq,jX,qJ,lr,lq,lp,kD,reduceAdd,reduceLeDiff,reduceIte,ax,d,decide_false];exact bb.2 ⟨by simp[jP],rfl⟩
 |y::r,j,m+1,h,x,hm=>by
  obtain⟨q,u,B,E⟩:=drop_cons h;have z:hG.length=18:=rfl;have d:((j:Int)<(hG.length:Int)):=af;have k:=kn q;have n:=kn l;have A:=Ec (H:=H) l N r (j+1) m u af (by simp at hm;omega);have p:=sA (s:=hG) (a:=j) (b:=j+1) af af;have w:(hG.drop j).take (j+1-j)=[y]:=by rw[h,Nat.add_sub_cancel_left];rfl
  rw[w]at p;cases he:((c.toNat:Int)==(y.toNat:Int))with
  |true=>
   have o:c=y:=by
    have:(c.toNat:Int)=(y.toNat:Int):=by simpa using he
    exact UInt8.toNat_inj.1 af
   have i:(c.toNat==y.toNat)=true:=by rw[o];simp
   simp-implicitDefEqProofs(disch:=try exact aj)only[mq,jX,qJ,lr,lq,lp,kD,reduceAdd,reduceLeDiff,reduceIte,ax,d,decide_true,k,n,he,iD,p];exact bb.2 ⟨by simp[jP,i,o],rfl⟩
  |false=>
   have i:(c.toNat==y.toNat)=false:=by
    have:¬(c.toNat:Int)=(y.toNat:Int):=by simpa using he
    simp;omega
   simp-implicitDefEqProofs(disch:=try exact aj)only[mq,jX,qJ,lr,lq,lp,kD,reduceAdd,reduceLeDiff,reduceIte,ax,d,decide_true,k,n,he,iD];refine A.mono ?_;rintro v H' ⟨rfl,e⟩;exact⟨by simp[jP,i],e⟩
def Ld{H:ae}{s:aG}{at_:Nat}{c:UInt8}(a:s[at_]? =D c){N:Nat}(d:18<N):W (lr (aE P aA) N (Y s) (I J at_) H) λv H'=>v= Y (bif jP c hG then[c]else[])/\H'=H:=by
 rw[lr];exact Ec a N hG 0 N rfl af (by simp[hG];omega)
def GR{H:ae}{s:aG}(aB:s.length<=1000000000000000000){at_:Nat}{c:UInt8}{r:aG}(n:s.drop at_=c::r){l:Nat}{N:Nat}(x:18<N)(i:H.get l=D (.row U 1 (j3.map λy=>[ad.str y]))):∀(rest pre:List aG),j3=pre++rest->∀(m:Nat),rest.length<m->
  W (lu (aE P aA) N m (Y s) (I J at_) (.aD l 0 5 1 (D 5)) (I J pre.length) H) λv H'=>v= Y (bif decide (2<=(s.drop at_).length)&&hl ((s.drop at_).take 2) rest then(s.drop at_).take 2 else bif jP c hG then[c]else[])/\H'=H
 |_,_,_,0,hm=>af
 |[],pre,aC,m+1,hm=>by
  have K:pre.length=5:=by have:=congrArg List.length aC;simpa [j3]using this.symm
  have d:¬((pre.length:Int)<((5:Nat):Int)):=af;obtain⟨w,E,F,G⟩:=drop_cons n;simp-implicitDefEqProofs(disch:=try exact aj)only[lu,jX,lq,lp,kD,reduceAdd,reduceLeDiff,reduceIte,ax,d,decide_false];refine(Ld w x).mono ?_;rintro v H' ⟨rfl,e⟩;exact⟨by simp[hl],e⟩
 |y::B,pre,aC,m+1,hm=>by
  obtain⟨w,E,F,G⟩:=drop_cons n;have K:pre.length+(B.length+1)=5:=by have:=congrArg List.length aC;simpa [j3]using this.symm
  have d:((pre.length:Int)<((5:Nat):Int)):=af;have L:(0:Int)<=(pre.length:Int):=af;have t1:((pre.length:Int)).toNat=pre.length:=af;have he:(j3.map λy=>[ad.str y])[pre.length]? =D [ad.str y]:=by rw[aC];simp
  have hw:((pre++[y]).length:Int)=((pre.length+1:Nat):Int):=by simp
  have q:=GR (H:=H) aB n x i B (pre++[y]) (by simp[aC]) m (by simp at hm;omega);rw[hw]at q;have z:(s.drop at_).length=s.length-at_:=by simp
  have u:IntKind.i64.wrap ((s.length:Int)-(at_:Int))=((s.length-at_:Nat):Int):=G_ s.length at_ af af;have M:=ae.aV i;by_cases j:(2:Int)<=((s.length-at_:Nat):Int)
  ·have k:decide (2<=(s.drop at_).length)=true:=by rw[z];simp;omega
   have o:=sA (s:=s) (a:=at_) (b:=at_+2) af af;rw[Nat.add_sub_cancel_left]at o;cases h:((s.drop at_).take 2==y)with
   |true=>
    have A:(s.drop at_).take 2=y:=by simpa using h
    have p:(y==(s.drop at_).take 2)=true:=by rw[A];simp
    simp-implicitDefEqProofs(disch:=try exact aj)only[lu,jX,lq,lp,kD,reduceAdd,reduceLeDiff,reduceIte,ax,d,decide_true,u,j,vc,o,i,he,t1,h];exact bb.2 ⟨by rw[hl,k,p];rw[A];rfl,rfl⟩
   |false=>
    have p:(y==(s.drop at_).take 2)=false:=by
     have:¬(s.drop at_).take 2=y:=by simpa using h
     simp;exactλe=>this e.symm
    simp-implicitDefEqProofs(disch:=try exact aj)only[lu,jX,lq,lp,kD,reduceAdd,reduceLeDiff,reduceIte,ax,d,decide_true,u,j,vc,o,i,he,t1,h,iD];refine q.mono ?_;rintro v H' ⟨rfl,e⟩;exact⟨by simp only[hl,p,Bool.false_or],e⟩
  ·have k:decide (2<=(s.drop at_).length)=false:=by rw[z];simp;omega
   simp-implicitDefEqProofs(disch:=try exact aj)only[lu,jX,lq,lp,kD,reduceAdd,reduceLeDiff,reduceIte,ax,d,decide_true,u,j,decide_false,iD];refine q.mono ?_;rintro v H' ⟨rfl,e⟩;exact⟨by simp only[k,Bool.false_and],e⟩
def Pf{H:ae}{s:aG}(aB:s.length<=1000000000000000000){at_:Nat}(d:at_<s.length):W (aE P aA 68 [Y s,I J at_] H) λv H'=>v= Y (hM (s.drop at_))/\aP H H':=by
 refine cG (λ_=>ML 30) ?_;obtain⟨c,r,a⟩:∃c r,s.drop at_=c::r:=by
  cases h:s.drop at_ with
  |nil=>have:=drop_nil h;omega
  |cons c r=>exact⟨c,r,rfl⟩
 rw[kD];simp only[vd];rw[lp];refine(GR (H:=H.push _) aB a af (ae.bM _ _) j3 [] rfl 30 bk).mono ?_;rintro v H' ⟨rfl,rfl⟩;refine⟨?_,aP.push _ _⟩;rw[a];rfl
def EY{H:ae}{s:aG}(aB:s.length<=1000000000000000000)(l:ad->ad->ae->O)(N:Nat)(Q:ad->ae->Prop):∀(rest:aG) (at_ m:Nat),s.drop at_=rest->at_<=s.length->rest.length<m->
  (∀(k:Nat),(∀c' c3,rest=c'::c3->c'.toNat≠10->0<k)->at_+k<=s.length->(s.drop (at_+k)).length<=rest.length->k+dc U (s.drop (at_+k))=dc X rest->W (l (Y s) (I J ((at_+k:Nat):Int)) H) Q)->
  W (mh (aE P aA) N l m (Y s) (I J at_) H) Q
 |_,_,0,_,_,hm,_=>af
 |[],at_,m+1,h,n,hm,j=>by
  have:=drop_nil h;have a:¬((at_:Int)<(s.length:Int)):=af;simp-implicitDefEqProofs(disch:=try exact aj)only[mh,hJ,qy,ir,reduceAdd,reduceLeDiff,reduceIte,ax,a,decide_false];exact j 0 (λ_ _ e=>by cases e) n (by simpa using congrArg List.length h) (by simp[h,dc])
 |c::r,at_,m+1,h,n,hm,j=>by
  obtain⟨p,q,y,z⟩:=drop_cons h;have a:((at_:Int)<(s.length:Int)):=af;have o:=kn p;cases d:((c.toNat:Int) != 10)with
  |false=>
   have i:c.toNat=10:=by
    have:(c.toNat:Int)=10:=by simpa using d
    omega
   simp-implicitDefEqProofs(disch:=try exact aj)only[mh,hJ,qy,ir,reduceAdd,reduceLeDiff,reduceIte,ax,a,decide_true,o,d];refine j 0 (λ_ _ e x=>by cases e;exact absurd i x) n (by simp only[Nat.add_zero,h];omega) ?_;simp[h,dc,jq,i]
  |true=>
   have i:(c.toNat==10)=false:=by
    have:¬(c.toNat:Int)=10:=by simpa using d
    simp;omega
   simp-implicitDefEqProofs(disch:=try exact aj)only[mh,hJ,qy,ir,reduceAdd,reduceLeDiff,reduceIte,ax,a,decide_true,o,d,iD];refine EY aB l N Q r (at_+1) m q af (by simp at hm;omega) (λk _ a u v=> ?_);have w:at_+1+k=at_+(k+1):=af;rw[w]at a u v ⊢;refine j (k+1) (λ_ _ _ _=>af) a (by simp only[List.length_cons];omega) ?_;simp only[dc,i,aK];omega
def vX{H:ae}{s:aG}(aB:s.length<=1000000000000000000)(N:Nat)(T:s.length<N):∀(q:Nat) (rest:aG) (at_ m:Nat),rest.length<=q->s.drop at_=rest->at_<=s.length->rest.length<m->
  W (h4 (aE P aA) N m (Y s) (I J at_) H) λv H'=>v= I J ((at_+dc U rest:Nat):Int)/\H'=H
 |_,_,_,0,_,_,_,hm=>af
 |_,[],at_,m+1,_,h,Q,hm=>by
  have:=drop_nil h;have j:¬((at_:Int)<(s.length:Int)):=af;simp-implicitDefEqProofs(disch:=try exact aj)only[h4,hJ,kB,ir,reduceAdd,reduceLeDiff,reduceIte,ax,j,decide_false];exact bb.2 ⟨by simp[dc],rfl⟩
 |0,c::r,at_,m+1,E,h,Q,hm=>by simp at E
 |q+1,c::r,at_,m+1,E,h,Q,hm=>by
  obtain⟨L,M,ak,z⟩:=drop_cons h;have j:((at_:Int)<(s.length:Int)):=af;have o:=kn L;simp only[List.length_cons]at E hm;have G:jq c=X->W (h4 (aE P aA) N m (Y s) (I J ((at_+1:Nat):Int)) H) λv H'=>v= I J ((at_+dc U (c::r):Nat):Int)/\H'=H:=by
   intro R;refine(vX (H:=H) aB N T q r (at_+1) m af M af af).mono ?_;rintro v H' ⟨rfl,e⟩;have aa:at_+1+dc U r=at_+dc U (c::r):=by
    rw[dc,R,aR];omega
   exact⟨by rw[aa],e⟩
  have p:((c.toNat:Int)==32)=(c.toNat==32):=by rw[Bool.eq_iff_iff];simp;omega
  have x:((c.toNat:Int)==9)=(c.toNat==9):=by rw[Bool.eq_iff_iff];simp;omega
  have B:((c.toNat:Int)==10)=(c.toNat==10):=by rw[Bool.eq_iff_iff];simp;omega
  have K:((c.toNat:Int)==13)=(c.toNat==13):=by rw[Bool.eq_iff_iff];simp;omega
  cases i:c.toNat==32 with
  |true=>
   simp-implicitDefEqProofs(disch:=try exact aj)only[h4,hJ,kB,ir,reduceAdd,reduceLeDiff,reduceIte,ax,j,decide_true,o,p,i,iD];exact G (by simp only[jq,i,Bool.true_or])
  |false=>
   cases l:c.toNat==9 with
   |true=>
    simp-implicitDefEqProofs(disch:=try exact aj)only[h4,hJ,kB,ir,reduceAdd,reduceLeDiff,reduceIte,ax,j,decide_true,o,p,i,x,l,iD];exact G (by simp only[jq,l,Bool.true_or,Bool.or_true])
   |false=>
    cases n:c.toNat==10 with
    |true=>
     simp-implicitDefEqProofs(disch:=try exact aj)only[h4,hJ,kB,ir,reduceAdd,reduceLeDiff,reduceIte,ax,j,decide_true,o,p,i,x,l,B,n,iD];exact G (by simp only[jq,n,Bool.true_or,Bool.or_true])
    |false=>
     cases u:c.toNat==13 with
     |true=>
      simp-implicitDefEqProofs(disch:=try exact aj)only[h4,hJ,kB,ir,reduceAdd,reduceLeDiff,reduceIte,ax,j,decide_true,o,p,i,x,l,B,n,K,u,iD];exact G (by simp only[jq,u,Bool.or_true])
     |false=>
      have ad:jq c=false:=by simp only[jq,i,l,n,u,Bool.or_self]
      have S:IntKind.i64.wrap ((s.length:Int)-(at_:Int))=((s.length-at_:Nat):Int):=G_ s.length at_ af af;have V:(c==47&&r.head?==D 47)=U->dc U (c::r)=0:=λA=>by rw[dc,ad,aK,A,aK]
      by_cases O:(2:Int)<=((s.length-at_:Nat):Int)
      ·have F:=sA (s:=s) (a:=at_) (b:=at_+2) af af;rw[Nat.add_sub_cancel_left,h]at F;obtain⟨y,d,rfl⟩:∃y d,r=y::d:=by
        cases r with
        |nil=>simp at z;omega
        |cons y d=>exact⟨y,d,rfl⟩
       simp only[List.take_succ_cons,List.take_zero]at F;cases w:(([c,y]:aG)==[47,47])with
       |true=>
        have ab:c=47/\y=47:=by simpa using w
        obtain⟨rfl,rfl⟩:=ab;simp-implicitDefEqProofs(disch:=try exact aj)only[h4,hJ,kB,ir,reduceAdd,reduceLeDiff,reduceIte,ax,j,decide_true,o,p,i,x,l,B,n,K,u,S,O,vc,F,w];refine EY aB (h4 (aE P aA) N m) N _ (47::47::d) at_ N h Q (by simp only[List.length_cons]at z ⊢;omega) (λk ag ah al ai=> ?_);have am:=ag 47 _ rfl bk;have hle:(s.drop (at_+k)).length<=q:=by
         simp only[List.length_drop,List.length_cons]at E z ⊢;omega
        refine(vX (H:=H) aB N T q (s.drop (at_+k)) (at_+k) m hle rfl ah (by simp only[List.length_drop,List.length_cons]at hm z ⊢;omega)).mono ?_;rintro v H' ⟨rfl,e⟩;have R:dc U (47::47::d)=dc X (47::47::d):=by
         have L:dc U (47::47::d)=dc X (47::d)+1:=rfl;have M:dc X (47::47::d)=dc X (47::d)+1:=rfl;rw[L,M]
        refine⟨?_,e⟩;rw[R,<-ai,Nat.add_assoc]
       |false=>
        have A:(c==47&&(y::d).head?==D 47)=false:=by
         have:¬(c=47/\y=47):=by simpa using w
         simpa using this
        simp-implicitDefEqProofs(disch:=try exact aj)only[h4,hJ,kB,ir,reduceAdd,reduceLeDiff,reduceIte,ax,j,decide_true,o,p,i,x,l,B,n,K,u,S,O,vc,F,w];exact bb.2 ⟨by rw[V A,Nat.add_zero],rfl⟩
      ·have w:r=[]:=by
        cases r with
        |nil=>rfl
        |cons y d=>simp only[List.length_cons]at z;omega
       have A:(c==47&&r.head?==D 47)=false:=by rw[w];simp
       simp-implicitDefEqProofs(disch:=try exact aj)only[h4,hJ,kB,ir,reduceAdd,reduceLeDiff,reduceIte,ax,j,decide_true,o,p,i,x,l,B,n,K,u,S,O,decide_false];exact bb.2 ⟨by rw[V A,Nat.add_zero],rfl⟩
def zR{H:ae}{s:aG}(aB:s.length<=1000000000000000000){at_:Nat}(a:at_<=s.length):W (aE P aA 38 [Y s,I J at_] H) λv H'=>v= I J ((at_+dc U (s.drop at_):Nat):Int)/\H'=H:=by
 refine cG (λ_=>Mp (s.length+1)) ?_;rw[ir];exact vX aB (s.length+1) af s.length (s.drop at_) at_ (s.length+1) (by simp) rfl a (by simp;omega)
