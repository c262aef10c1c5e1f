/-
  Texts of one proof, laid together: ShH Ri Rj Rk Rl Sa Sb Sc.
-/
import Derived.Test.YtmhhnnklfcbgfaaGreatMT
set_option linter.unusedVariables false
set_option linter.unusedSimpArgs false
set_option linter.defProp false
open Option renaming some→D,none→I
open Bool renaming true→C,false→Z
open Go.bo.aa renaming int→J,bool→y
open Go.IntKind renaming i64→X
namespace Go.Proofs.YtmhhnnklfcbgfaaGreat
open Go.bo
section
set_option maxRecDepth 100000
noncomputable section
def qj(G:an)(b:aa)(H:ad):O:=bx H (b0 (H).next b) λx1 ae=>cA ae [J X 0,aa.aB,aa.aB,aa.aB] λx2 ah=>af (aj P ah 27 x1) λc=>aU ah (G 35 [c] ah) λx4 ak=>af (dg .not x4) λx5=>aP (D x5) (bY ak (bA P ak 33 x2 (.agg [J X 0,aa.aB,aa.aB,aa.aB])) λau=>af (aj P au 33 x2) λr=>D (r,au)) (af (aj P ak 27 x1) λx7=>aU ak (G 36 [x7] ak) λx8 au=>bY au (bA P au 33 x2 x8) λa=>af (aj P a 33 x2) λr=>D (r,a))
def GP(G:an)(N:Nat)(a:aa)(H:ad):bd Tryz.f11 G N (bO [a]) H=qj G a H:=by
 refine bR (A:=bd Tryz.f11 G N) (aw _) ?_;delta qj;kernel_rfl
def TB(N:Nat){a:aa}{H:ad}{r:aa×ad}(h:qj (aC P ax) a H=D r):aC P ax 11 [a] H=D r:=
 cp ag Tryz.func11 ag ag ag ((GP (aC P ax) N a H).trans h)
def xt(G:an)(a:aa)(H:ad):O:=bx H (b0 (H).next a) λx1 ae=>af (aj P ae 27 x1) λx4=>aU ae (G 38 [x4] ae) λx5 ah=>af (ar P .neq 73 C x5 aa.fD) λx7=>aP (D x7) (af (cr x5) λb=>af (av P 76 b 2) λx10=>af (aj P ah 30 x10) λx11=>D (x11,ah)) (D (aa.aB,ah))
def Wn(G:an)(N:Nat)(a:aa)(H:ad):bd Tryz.f14 G N (bO [a]) H=xt G a H:=by
 refine bR (A:=bd Tryz.f14 G N) (aw _) ?_;delta xt;kernel_rfl
def uu(G:an)(N:Nat)(x4:aa)(H:ad):O:=some (x4,H)
def Xl(G:an)(N:Nat):∀R H,aX P G N (j (j (j (j (j (j (bb Tryz.f18))))))) (aR Tryz.f18) [] (aR Tryz.f18) R H=uu G N (R 4) H:=by
 refine bj (aw _) λR H=> ?_
 delta uu;kernel_rfl
def Ba(G:an)(N:Nat)(c:aa->aa->aa->ad->O)(x4 b a:aa)(H:ad):O:=af (ar P .lss 3 Z a b) λd=>aP (D d) (af (a6 P 31 x4 a) λe=>af (aj P H 30 e) λx50=>aU H (G 42 [x50] H) λx51 ae=>aU ae (G 41 [x51] ae) λx52 ah=>af (a6 P 31 x4 a) λf=>bY ah (bA P ah 30 f x52) λak=>af (ar P .add 3 C a (J X 1)) λg=>c x4 b g ak) (uu G N x4 H)
def ux(G:an)(N:Nat):Nat->aa->aa->aa->ad->O
 |0,_,_,_,_=>I
 |n+1,x4,a,b,H=>Ba G N (ux G N n) x4 a b H
def Xg(G:an)(N:Nat)(b:aa->aa->aa->ad->O):∀R H,aX P G N (aE (aE (j (aE (j (j (j (j (j (bb Tryz.f18)))))))))) (λR H=>b (R 4) (R 41) (R 42) H) [(4,(λR H=>uu G N (R 4) H))] (aR Tryz.f18) R H=Ba G N b (R 4) (R 41) (R 42) H:=by
 refine bj (aw _) λR H=> ?_
 delta Ba;generalize uu G N=a;revert a;refine id ?_;intro a;kernel_rfl
def oX(G:an)(N:Nat)(x4:aa)(H:ad):O:=bf P .len [31] [x4] H λa=>ux G N N x4 a (J X 0) H
def Xk(G:an)(N:Nat):∀R H,aX P G N (j (j (j (j (j (bb Tryz.f18)))))) (aR Tryz.f18) [] (aR Tryz.f18) R H=oX G N (R 4) H:=by
 refine bj ((aF ag (Xl G N) ((aF ag ((bX ag ((cj (k:=λm R H=>ux G N m (R 4) (R 41) (R 42) H) ag (λR H=>ag) (λm=>Xg G N (ux G N m)))))) (aw _))))) λR H=> ?_
 delta oX;generalize ux G N N=a;revert a;refine id ?_;intro a;kernel_rfl
def uw(G:an)(N:Nat)(e:aa->aa->aa->ad->O)(L4:aa->aa->aa->aa->aa->ad->O)(c x4:aa)(x5 a b:aa)(H:ad):O:=af (ar P .add 3 C b (J X 1)) λd=>L4 c x4 x5 a d H
def Xm(G:an)(N:Nat)(a:aa->aa->aa->ad->O)(L4:aa->aa->aa->aa->aa->ad->O):∀R H,aX P G N (j (j (j (aE (aE (j (j (aE (j (aE (aE (j (aE (j (j (j (j (bb Tryz.f18)))))))))))))))))) (λR H=>L4 (R 3) (R 4) (R 5) (R 19) (R 20) H) [(2,(λR H=>a (R 3) (R 4) (R 5) H)),(1,(λR H=>a (R 3) (R 4) (R 5) H)),(0,(λR H=>oX G N (R 4) H))] (aR Tryz.f18) R H=uw G N a L4 (R 3) (R 4) (R 5) (R 19) (R 20) H:=by
 refine bj (aw _) λR H=> ?_
 delta uw;kernel_rfl
def Bc(G:an)(N:Nat)(c:aa->aa->aa->ad->O)(L4:aa->aa->aa->aa->aa->ad->O)(b x4:aa)(x5 d a:aa)(H:ad):O:=af (ar P .lss 3 Z a d) λf=>aP (D f) (aU H (G 40 [b,a,x4] H) λe ae=>bf P .len [30] [e] ae λg=>af (a6 P 31 x4 a) λh=>af (aj P ae 30 h) λi=>bf P .len [30] [i] ae λj=>af (ar P .gtr 3 Z g j) λk=>aP (D k) (af (a6 P 31 x4 a) λl=>bY ae (bA P ae 30 l e) λah=>uw G N c L4 b x4 (y C) d a ah) (uw G N c L4 b x4 x5 d a ae)) (c b x4 x5 H)
def uz(G:an)(N:Nat)(a:aa->aa->aa->ad->O):Nat->aa->aa->aa->aa->aa->ad->O
 |0,_,_,_,_,_,_=>I
 |n+1,d,x4,x5,b,c,H=>Bc G N a (uz G N a n) d x4 x5 b c H
def Xi(G:an)(N:Nat)(a:aa->aa->aa->ad->O)(L4:aa->aa->aa->aa->aa->ad->O):∀R H,aX P G N (aE (aE (j (j (aE (j (aE (aE (j (aE (j (j (j (j (bb Tryz.f18))))))))))))))) (λR H=>L4 (R 3) (R 4) (R 5) (R 19) (R 20) H) [(2,(λR H=>a (R 3) (R 4) (R 5) H)),(1,(λR H=>a (R 3) (R 4) (R 5) H)),(0,(λR H=>oX G N (R 4) H))] (aR Tryz.f18) R H=Bc G N a L4 (R 3) (R 4) (R 5) (R 19) (R 20) H:=by
 refine bj ((aF ag ((aF ag ((aF ag (Xm G N a L4) (aw _))) (aw _))) (aw _))) λR H=> ?_
 delta Bc;generalize a=b;generalize uw G N a L4=c;revert b c;refine id ?_;intro b c;kernel_rfl
def Bb(G:an)(N:Nat)(a:aa->aa->aa->ad->O)(c x4 x5:aa)(H:ad):O:=aP (D x5) (bf P .len [31] [x4] H λb=>uz G N a N c x4 (y Z) b (J X 0) H) (oX G N x4 H)
def uy(G:an)(N:Nat):Nat->aa->aa->aa->ad->O
 |0,_,_,_,_=>I
 |n+1,a,x4,x5,H=>Bb G N (uy G N n) a x4 x5 H
def Xh(G:an)(N:Nat)(a:aa->aa->aa->ad->O):∀R H,aX P G N (aE (aE (j (aE (j (j (j (j (bb Tryz.f18))))))))) (λR H=>a (R 3) (R 4) (R 5) H) [(0,(λR H=>oX G N (R 4) H))] (aR Tryz.f18) R H=Bb G N a (R 3) (R 4) (R 5) H:=by
 refine bj ((aF ag ((bX ag ((aF ag ((aF ag ((bX ag ((cj (k:=λm R H=>uz G N a m (R 3) (R 4) (R 5) (R 19) (R 20) H) ag (λR H=>ag) (λm=>Xi G N a (uz G N a m)))))) (aw _))) (aw _))))) (aw _))) λR H=> ?_
 delta Bb;generalize oX G N=b;generalize uz G N a N=c;revert b c;refine id ?_;intro b c;kernel_rfl
def xG(G:an)(N:Nat)(b:aa)(H:ad):O:=bx H (b0 (H).next b) λx1 ae=>af (aj P ae 27 x1) λf=>aU ae (G 38 [f] ae) λx10 ah=>af (ar P .eql 73 C x10 aa.fD) λx12=>aP (D x12) (D (aa.aB,ah)) (af (av P 27 x1 2) λc=>af (aj P ah 24 c) λd=>bf P .len [24] [d] ah λa=>bx ah (e5 (fw P ⟨.leaf,(ah).next⟩ 31 a a) (ah).next) λe ak=>uy G N N x10 e (y C) ak)
def Xj(G:an)(N:Nat)(b:aa)(H:ad):bd Tryz.f18 G N (bO [b]) H=xG G N b H:=by
 refine bR (A:=bd Tryz.f18 G N) ((aF ag ((aF ag ((aF ag ((aF ag ((aF ag (Xk G N) ((aF ag ((bX ag ((cj (k:=λm R H=>uy G N m (R 3) (R 4) (R 5) H) ag (λR H=>ag) (λm=>Xh G N (uy G N m)))))) (aw _))))) (aw _))) (aw _))) (aw _))) (aw _))) ?_;delta xG;generalize uy G N N=a;revert a;refine id ?_;intro a;kernel_rfl
def mW(G:an)(N:Nat)(x4:aa)(H:ad):O:=some (x4,H)
def Xt(G:an)(N:Nat):∀R H,aX P G N (j (j (j (j (j (bb Tryz.f20)))))) (aR Tryz.f20) [] (aR Tryz.f20) R H=mW G N (R 4) H:=by
 refine bj (aw _) λR H=> ?_
 delta mW;kernel_rfl
def oZ(G:an)(N:Nat)(L1:aa->aa->aa->aa->aa->ad->O)(d x4:aa)(a b c:aa)(H:ad):O:=af (ar P .add 3 C c (J X 1)) λe=>L1 d x4 a b e H
def Xu(G:an)(N:Nat)(L1:aa->aa->aa->aa->aa->ad->O):∀R H,aX P G N (j (j (j (aE (aE (j (aE (j (j (j (j (bb Tryz.f20)))))))))))) (λR H=>L1 (R 3) (R 4) (R 15) (R 16) (R 17) H) [(0,(λR H=>mW G N (R 4) H))] (aR Tryz.f20) R H=oZ G N L1 (R 3) (R 4) (R 15) (R 16) (R 17) H:=by
 refine bj (aw _) λR H=> ?_
 delta oZ;kernel_rfl
def uB(G:an)(N:Nat)(L1:aa->aa->aa->aa->aa->ad->O)(a x4:aa)(x5 x7:aa)(g h i:aa)(H:ad):O:=aU H (G 47 [a,x7] H) λj ae=>af (cr a) λk=>af (av P 76 k 2) λb=>af (aj P ae 30 b) λc=>af (cr a) λl=>af (av P 76 l 3) λd=>af (aj P ae 31 d) λx50=>af (a6 P 31 x50 x5) λx52=>af (aj P ae 30 x52) λe=>bx ae (cv P (ae).next 31 2 [(0,c),(1,e)]) λm ah=>aU ah (G 46 [j,m] ah) λn ak=>bx ak (cv P (ak).next 31 1 [(0,n)]) λo au=>aU au (cS P au [31,31] x4 o) λp f=>bif ((aV (aj P H 30 b) c&&(aV (aj P ae 30 b) c&&C))&&((aV (aj P H 31 d) x50&&(aV (aj P ae 31 d) x50&&C))&&((aV (aj P H 30 x52) e&&(aV (aj P ae 30 x52) e&&C))&&C)))then(oZ G N L1 a p g h i f)else I
def Xv(G:an)(N:Nat)(L1:aa->aa->aa->aa->aa->ad->O):∀R H,aX P G N (j (j (j (aE (aE (j (j (aE (aE (j (aE (j (j (j (j (bb Tryz.f20)))))))))))))))) (λR H=>oZ G N L1 (R 3) (R 4) (R 15) (R 16) (R 17) H) [(1,(λR H=>oZ G N L1 (R 3) (R 4) (R 15) (R 16) (R 17) H)),(0,(λR H=>mW G N (R 4) H))] (aR Tryz.f20) R H=uB G N L1 (R 3) (R 4) (R 5) (R 7) (R 15) (R 16) (R 17) H:=by
 refine bj (aw _) λR H=> ?_
 delta uB;generalize oZ G N L1=a;revert a;refine id ?_;intro a;kernel_rfl
def Be(G:an)(N:Nat)(L1:aa->aa->aa->aa->aa->ad->O)(L4:aa->aa->aa->aa->aa->aa->aa->aa->aa->aa->ad->O)(b x4:aa)(x5 x7:aa)(c d:aa)(e f:aa)(g a:aa)(H:ad):O:=af (ar P .lss 3 Z a g) λi=>aP (D i) (af (a6 P 47 f a) λj=>af (aj P H 89 j) λk=>cA H [J X 0,J X 0,J X 0,J X 0,J X 0,aa.aB] λh ae=>bY ae (bA P ae 89 h k) λah=>af (aj P ah 89 h) λl=>aU ah (G 45 [b,l] ah) λm ak=>aU ak (cS P ak [30,30] x7 m) λn au=>af (ar P .add 3 C a (J X 1)) λo=>L4 b x4 x5 n c d e f g o au) (uB G N L1 b x4 x5 x7 c d e H)
def uD(G:an)(N:Nat)(L1:aa->aa->aa->aa->aa->ad->O):Nat->aa->aa->aa->aa->aa->aa->aa->aa->aa->aa->ad->O
 |0,_,_,_,_,_,_,_,_,_,_,_=>I
 |n+1,g,x4,x5,x7,a,b,c,d,e,f,H=>Be G N L1 (uD G N L1 n) g x4 x5 x7 a b c d e f H
def Xr(G:an)(N:Nat)(L1:aa->aa->aa->aa->aa->ad->O)(L4:aa->aa->aa->aa->aa->aa->aa->aa->aa->aa->ad->O):∀R H,aX P G N (aE (aE (j (aE (j (j (aE (aE (j (j (aE (aE (j (aE (j (j (j (j (bb Tryz.f20))))))))))))))))))) (λR H=>L4 (R 3) (R 4) (R 5) (R 7) (R 15) (R 16) (R 17) (R 27) (R 28) (R 29) H) [(2,(λR H=>uB G N L1 (R 3) (R 4) (R 5) (R 7) (R 15) (R 16) (R 17) H)),(1,(λR H=>oZ G N L1 (R 3) (R 4) (R 15) (R 16) (R 17) H)),(0,(λR H=>mW G N (R 4) H))] (aR Tryz.f20) R H=Be G N L1 L4 (R 3) (R 4) (R 5) (R 7) (R 15) (R 16) (R 17) (R 27) (R 28) (R 29) H:=by
 refine bj (aw _) λR H=> ?_
 delta Be;generalize uB G N L1=a;revert a;refine id ?_;intro a;kernel_rfl
def Bd(G:an)(N:Nat)(L1:aa->aa->aa->aa->aa->ad->O)(e x4:aa)(b c a:aa)(H:ad):O:=af (ar P .lss 3 Z a c) λf=>aP (D f) (af (a6 P 24 b a) λg=>af (aj P H 49 g) λh=>cA H [J X 0,aa.aB,y Z,J X 0,J X 0,J X 0,aa.aB] λx6 ae=>bY ae (bA P ae 49 x6 h) λah=>aU ah (G 44 [e,a] ah) λi ak=>aU ak (G 43 [i] ak) λj au=>af (av P 49 x6 4) λk=>af (aj P au 47 k) λd=>bf P .len [47] [d] au λl=>uD G N L1 N e x4 a j b c a d l (J X 0) au) (mW G N x4 H)
def uC(G:an)(N:Nat):Nat->aa->aa->aa->aa->aa->ad->O
 |0,_,_,_,_,_,_=>I
 |n+1,d,x4,a,b,c,H=>Bd G N (uC G N n) d x4 a b c H
def Xq(G:an)(N:Nat)(L1:aa->aa->aa->aa->aa->ad->O):∀R H,aX P G N (aE (aE (j (aE (j (j (j (j (bb Tryz.f20))))))))) (λR H=>L1 (R 3) (R 4) (R 15) (R 16) (R 17) H) [(0,(λR H=>mW G N (R 4) H))] (aR Tryz.f20) R H=Bd G N L1 (R 3) (R 4) (R 15) (R 16) (R 17) H:=by
 refine bj ((aF ag ((aF ag ((aF ag (Xu G N L1) ((bX ag ((aF ag ((aF ag ((aF ag (Xv G N L1) ((aF ag ((bX ag ((cj (k:=λm R H=>uD G N L1 m (R 3) (R 4) (R 5) (R 7) (R 15) (R 16) (R 17) (R 27) (R 28) (R 29) H) ag (λR H=>ag) (λm=>Xr G N L1 (uD G N L1 m)))))) (aw _))))) (aw _))) (aw _))))))) (aw _))) (aw _))) λR H=> ?_
 delta Bd;generalize mW G N=a;generalize uD G N L1 N=b;revert a b;refine id ?_;intro a b;kernel_rfl
def xI(G:an)(N:Nat)(b:aa)(H:ad):O:=bx H (b0 (H).next b) λx1 ae=>af (aj P ae 27 x1) λx10=>aU ae (G 38 [x10] ae) λx11 ah=>af (ar P .eql 73 C x11 aa.fD) λc=>aP (D c) (D (aa.aB,ah)) (af (av P 27 x1 2) λd=>af (aj P ah 24 d) λa=>bf P .len [24] [a] ah λe=>uC G N N x11 aa.aB a e (J X 0) ah)
def Xs(G:an)(N:Nat)(b:aa)(H:ad):bd Tryz.f20 G N (bO [b]) H=xI G N b H:=by
 refine bR (A:=bd Tryz.f20 G N) ((aF ag ((aF ag ((aF ag ((aF ag ((aF ag (Xt G N) ((aF ag ((bX ag ((cj (k:=λm R H=>uC G N m (R 3) (R 4) (R 15) (R 16) (R 17) H) ag (λR H=>ag) (λm=>Xq G N (uC G N m)))))) (aw _))))) (aw _))) (aw _))) (aw _))) (aw _))) ?_;delta xI;generalize uC G N N=a;revert a;refine id ?_;intro a;kernel_rfl
def xK(G:an)(i x1:aa)(H:ad):O:=bx H (b0 (H).next i) λx2 ae=>af (aj P ae 27 x2) λx6=>aU ae (G 38 [x6] ae) λx7 ah=>af (ar P .neq 73 C x7 aa.fD) λc=>ao c C ah (bw x1) λx11 ak=>ao c C ak (aH (ar P .geq 3 C x11 (J X 0))) λx12 au=>af (ba c (D x12) (D (y Z))) λa=>ao a C au (bw x1) λj g=>ao a C g (aH (av P 27 x2 2)) λk d=>ao a C d (qr (aj P d 24 k)) λf e=>ao a C e (λq=>cx (a2 P .empty .len [24] [f]) (a2 P e .len [24] [f]) q) λl h=>ao a C h (aH (ar P .lss 3 Z j l)) λm b=>af (ba a (D m) (D (y Z))) λn=>aP (D n) (af (cr x7) λo=>af (av P 76 o 3) λp=>af (aj P b 31 p) λr=>af (a6 P 31 r x1) λs=>af (aj P b 30 s) λt=>D (t,b)) (D (aa.aB,b))
def XK(G:an)(N:Nat)(a:aa)(x1:aa)(H:ad):bd Tryz.f22 G N (bO [a,x1]) H=xK G a x1 H:=by
 refine bR (A:=bd Tryz.f22 G N) (aw _) ?_;delta xK;kernel_rfl
def xN(G:an)(N:Nat)(L0:aa->aa->aa->aa->ad->O)(x1 x2:aa)(f x4:aa)(H:ad):O:=af (aj P H 33 x4) λe=>aU H (G 80 [e] H) λg ae=>bx ae (cv P (ae).next 198 2 [(0,f),(1,g)]) λh ah=>aU ah (G 79 [h] ah) λi ak=>af (aj P ak 27 x1) λx11=>aU ak (G 78 [x11,i] ak) λj au=>cA au [J X 0,aa.aB,aa.aB,aa.aB] λx5 d=>bY d (bA P d 33 x5 j) λb=>bif ((aV (aj P H 33 x4) e&&C)&&((aV (aj P H 27 x1) x11&&(aV (aj P ae 27 x1) x11&&(aV (aj P ah 27 x1) x11&&(aV (aj P ak 27 x1) x11&&C))))&&C))then(af (av P 33 x5 1) λk=>af (aj P b 30 k) λl=>af (av P 33 x4 1) λm=>af (aj P b 30 m) λn=>aU b (G 81 [l,n] b) λo a=>aP (D o) (af (aj P a 33 x5) λp=>bY a (bA P a 33 x2 p) λc=>af (aj P c 33 x2) λr=>D (r,c)) (af (aj P a 33 x5) λq=>bY a (bA P a 33 x4 q) λc=>L0 x1 x2 f x4 c))else I
def o6(G:an)(N:Nat):Nat->aa->aa->aa->aa->ad->O
 |0,_,_,_,_,_=>I
 |n+1,x1,x2,a,x4,H=>xN G N (o6 G N n) x1 x2 a x4 H
def Yf(G:an)(N:Nat)(L0:aa->aa->aa->aa->ad->O):∀R H,aX P G N (aE (aE (j (j (j (bb Tryz.f36)))))) (λR H=>L0 (R 1) (R 2) (R 3) (R 4) H) [(0,(aR Tryz.f36))] (aR Tryz.f36) R H=xN G N L0 (R 1) (R 2) (R 3) (R 4) H:=by
 refine bj (aw _) λR H=> ?_
 delta xN;kernel_rfl
def rD(G:an)(N:Nat)(c:aa)(H:ad):O:=bx H (b0 (H).next c) λx1 ae=>cA ae [J X 0,aa.aB,aa.aB,aa.aB] λx2 ah=>af (aj P ah 27 x1) λx6=>aU ah (G 77 [x6] ah) λx7 ak=>af (aj P ak 27 x1) λx8=>aU ak (G 78 [x8,x7] ak) λx10 au=>cA au [J X 0,aa.aB,aa.aB,aa.aB] λx4 a=>bY a (bA P a 33 x4 x10) λb=>o6 G N N x1 x2 x7 x4 b
def H2(G:an)(N:Nat)(b:aa)(H:ad):bd Tryz.f36 G N (bO [b]) H=rD G N b H:=by
 refine bR (A:=bd Tryz.f36 G N) ((aF ag ((aF ag ((aF ag ((bX ag ((cj (k:=λm R H=>o6 G N m (R 1) (R 2) (R 3) (R 4) H) ag (λR H=>ag) (λm=>Yf G N (o6 G N m)))))) (aw _))) (aw _))) (aw _))) ?_;delta rD;generalize o6 G N N=a;revert a;refine id ?_;intro a;kernel_rfl
def UR(N:Nat){a:aa}{H:ad}{r:aa×ad}(h:rD (aC P ax) N a H=D r):aC P ax 36 [a] H=D r:=
 cp ag Tryz.func36 ag ag ag ((H2 (aC P ax) N a H).trans h)
def uP(G:an)(N:Nat)(a:aa)(H:ad):O:=some (a,H)
def Yk(G:an)(N:Nat):∀R H,aX P G N (j (j (j (j (j (j (j (bb Tryz.f38)))))))) (aR Tryz.f38) [] (aR Tryz.f38) R H=uP G N (R 3) H:=by
 refine bj (aw _) λR H=> ?_
 delta uP;kernel_rfl
def Bf(G:an)(N:Nat)(x:aa->aa->aa->aa->ad->O)(x1 a:aa)(u d:aa)(H:ad):O:=af (ar P .lss 3 Z d u) λA=>aP (D A) (aU H (G 44 [a,d] H) λE ae=>af (aj P ae 27 x1) λs=>aU ae (G 85 [s,d] ae) λS ah=>af (av P 27 x1 2) λf=>af (aj P ah 24 f) λg=>af (a6 P 24 g d) λK=>af (av P 49 K 0) λh=>af (aj P ah 3 h) λi=>af (av P 27 x1 2) λj=>af (aj P ah 24 j) λk=>af (a6 P 24 k d) λL=>af (av P 49 L 0) λl=>af (aj P ah 3 l) λm=>af (fX P 30 E I (D i) (D m)) λM=>af (cr a) λQ=>af (av P 76 Q 1) λR=>af (av P 33 R 2) λo=>af (aj P ah 30 o) λp=>af (a6 P 30 p S) λv=>af (aj P ah 3 v) λw=>bx ah (cv P (ah).next 30 1 [(0,w)]) λT ak=>aU ak (cS P ak [30,30] M T) λU au=>aU au (G 47 [a,U] au) λV e=>af (cr a) λW=>af (av P 76 W 2) λb=>af (aj P e 30 b) λc=>bx e (cv P (e).next 31 1 [(0,c)]) λY q=>aU q (G 46 [V,Y] q) λx87 n=>af (cr a) λB=>af (av P 76 B 3) λx50=>af (aj P n 31 x50) λx51=>bx n (cv P (n).next 31 1 [(0,x87)]) λx88 r=>aU r (cS P r [31,31] x51 x88) λx89 t=>af (cr a) λab=>af (av P 76 ab 3) λag=>bY t (bA P t 31 ag x89) λz=>bif ((aV (aj P H 27 x1) s&&(aV (aj P ae 27 x1) s&&C))&&((aV (aj P H 24 f) g&&(aV (aj P ae 24 f) g&&(aV (aj P ah 24 f) g&&(aV (aj P ak 24 f) g&&C))))&&((aV (aj P H 3 h) i&&(aV (aj P ae 3 h) i&&(aV (aj P ah 3 h) i&&(aV (aj P ak 3 h) i&&C))))&&((aV (aj P H 24 j) k&&(aV (aj P ae 24 j) k&&(aV (aj P ah 24 j) k&&(aV (aj P ak 24 j) k&&C))))&&((aV (aj P H 3 l) m&&(aV (aj P ae 3 l) m&&(aV (aj P ah 3 l) m&&(aV (aj P ak 3 l) m&&C))))&&((aV (aj P H 30 o) p&&(aV (aj P ae 30 o) p&&(aV (aj P ah 30 o) p&&C)))&&((aV (aj P ah 3 v) w&&C)&&((aV (aj P H 30 b) c&&(aV (aj P ae 30 b) c&&(aV (aj P ah 30 b) c&&(aV (aj P ak 30 b) c&&(aV (aj P au 30 b) c&&(aV (aj P e 30 b) c&&C))))))&&((aV (aj P H 31 x50) x51&&(aV (aj P ae 31 x50) x51&&(aV (aj P ah 31 x50) x51&&(aV (aj P ak 31 x50) x51&&(aV (aj P au 31 x50) x51&&(aV (aj P e 31 x50) x51&&(aV (aj P q 31 x50) x51&&(aV (aj P n 31 x50) x51&&(aV (aj P r 31 x50) x51&&C)))))))))&&C)))))))))then(af (ar P .add 3 C d (J X 1)) λai=>x x1 a u ai z)else I) (uP G N a H)
def uQ(G:an)(N:Nat):Nat->aa->aa->aa->aa->ad->O
 |0,_,_,_,_,_=>I
 |n+1,x1,a,b,c,H=>Bf G N (uQ G N n) x1 a b c H
def Yg(G:an)(N:Nat)(b:aa->aa->aa->aa->ad->O):∀R H,aX P G N (aE (aE (j (aE (j (j (j (j (j (j (bb Tryz.f38))))))))))) (λR H=>b (R 1) (R 3) (R 43) (R 44) H) [(2,(λR H=>uP G N (R 3) H))] (aR Tryz.f38) R H=Bf G N b (R 1) (R 3) (R 43) (R 44) H:=by
 refine bj (aw _) λR H=> ?_
 delta Bf;generalize uP G N=a;revert a;refine id ?_;intro a;kernel_rfl
def uO(G:an)(N:Nat)(x1 a x4:aa)(H:ad):O:=aU H (G 47 [a,x4] H) λb ae=>af (cr a) λc=>af (av P 76 c 2) λd=>bY ae (bA P ae 30 d b) λah=>af (av P 27 x1 2) λe=>af (aj P ah 24 e) λf=>bf P .len [24] [f] ah λg=>uQ G N N x1 a g (J X 0) ah
def Yj(G:an)(N:Nat):∀R H,aX P G N (j (j (j (j (j (bb Tryz.f38)))))) (aR Tryz.f38) [] (aR Tryz.f38) R H=uO G N (R 1) (R 3) (R 4) H:=by
 refine bj ((aF ag ((aF ag (Yk G N) ((aF ag ((bX ag ((cj (k:=λm R H=>uQ G N m (R 1) (R 3) (R 43) (R 44) H) ag (λR H=>ag) (λm=>Yg G N (uQ G N m)))))) (aw _))))) (aw _))) λR H=> ?_
 delta uO;generalize uQ G N N=a;revert a;refine id ?_;intro a;kernel_rfl
def Bg(G:an)(N:Nat)(f:aa->aa->aa->aa->aa->ad->O)(x1 d:aa)(x4 e a:aa)(H:ad):O:=af (ar P .lss 3 Z a e) λg=>aP (D g) (af (aj P H 27 x1) λj=>aU H (G 84 [j,a] H) λk ae=>af (cr d) λh=>af (av P 76 h 1) λi=>af (av P 33 i 2) λb=>af (aj P ae 30 b) λc=>af (a6 P 30 c k) λl=>af (aj P ae 3 l) λm=>bx ae (cv P (ae).next 30 1 [(0,m)]) λn ah=>aU ah (cS P ah [30,30] x4 n) λo ak=>bif ((aV (aj P H 30 b) c&&(aV (aj P ae 30 b) c&&C))&&C)then(af (ar P .add 3 C a (J X 1)) λp=>f x1 d o e p ak)else I) (uO G N x1 d x4 H)
def uR(G:an)(N:Nat):Nat->aa->aa->aa->aa->aa->ad->O
 |0,_,_,_,_,_,_=>I
 |n+1,x1,c,x4,a,b,H=>Bg G N (uR G N n) x1 c x4 a b H
def Yh(G:an)(N:Nat)(b:aa->aa->aa->aa->aa->ad->O):∀R H,aX P G N (aE (aE (j (aE (j (j (j (j (bb Tryz.f38))))))))) (λR H=>b (R 1) (R 3) (R 4) (R 17) (R 18) H) [(0,(λR H=>uO G N (R 1) (R 3) (R 4) H))] (aR Tryz.f38) R H=Bg G N b (R 1) (R 3) (R 4) (R 17) (R 18) H:=by
 refine bj (aw _) λR H=> ?_
 delta Bg;generalize uO G N=a;revert a;refine id ?_;intro a;kernel_rfl
def xO(G:an)(N:Nat)(a:aa)(H:ad):O:=bx H (b0 (H).next a) λx1 ae=>af (aj P ae 27 x1) λx7=>aU ae (G 35 [x7] ae) λx8 ah=>af (dg .not x8) λg=>aP (D g) (D (aa.fD,ah)) (af (aj P ah 27 x1) λx11=>aU ah (G 36 [x11] ah) λx12 ak=>af (aj P ak 27 x1) λx10=>af (c7 P 76 [(0,x10),(1,x12)]) λb=>bx ak (b0 (ak).next b) λc au=>bif ((aV (aj P ah 27 x1) x10&&(aV (aj P ak 27 x1) x10&&C))&&C)then(af (av P 27 x1 1) λd=>af (aj P au 23 d) λe=>bf P .len [23] [e] au λf=>uR G N N x1 c aa.aB f (J X 0) au)else I)
def Yi(G:an)(N:Nat)(b:aa)(H:ad):bd Tryz.f38 G N (bO [b]) H=xO G N b H:=by
 refine bR (A:=bd Tryz.f38 G N) ((aF ag ((aF ag ((aF ag ((aF ag ((aF ag (Yj G N) ((aF ag ((bX ag ((cj (k:=λm R H=>uR G N m (R 1) (R 3) (R 4) (R 17) (R 18) H) ag (λR H=>ag) (λm=>Yh G N (uR G N m)))))) (aw _))))) (aw _))) (aw _))) (aw _))) (aw _))) ?_;delta xO;generalize uR G N N=a;revert a;refine id ?_;intro a;kernel_rfl
def nf(G:an)(N:Nat)(x7:aa)(H:ad):O:=some (x7,H)
def Yo(G:an)(N:Nat):∀R H,aX P G N (j (j (j (bb Tryz.f40)))) (aR Tryz.f40) [] (aR Tryz.f40) R H=nf G N (R 7) H:=by
 refine bj (aw _) λR H=> ?_
 delta nf;kernel_rfl
def ng(G:an)(N:Nat)(L1:aa->aa->aa->aa->aa->aa->aa->ad->O)(a x1:aa)(x2 x7:aa)(b c d:aa)(H:ad):O:=af (ar P .add 3 C d (J X 1)) λe=>L1 a x1 x2 x7 b c e H
def Yp(G:an)(N:Nat)(L1:aa->aa->aa->aa->aa->aa->aa->ad->O):∀R H,aX P G N (j (j (j (aE (aE (j (aE (j (j (bb Tryz.f40)))))))))) (λR H=>L1 (R 0) (R 1) (R 2) (R 7) (R 24) (R 25) (R 26) H) [(0,(λR H=>nf G N (R 7) H))] (aR Tryz.f40) R H=ng G N L1 (R 0) (R 1) (R 2) (R 7) (R 24) (R 25) (R 26) H:=by
 refine bj (aw _) λR H=> ?_
 delta ng;kernel_rfl
def uS(G:an)(N:Nat)(L1:aa->aa->aa->aa->aa->aa->aa->ad->O)(a:aa->aa->aa->aa->aa->aa->aa->aa->aa->aa->ad->O)(b x1:aa)(x2 x7:aa)(c d:aa)(e f:aa)(g h:aa)(H:ad):O:=af (ar P .add 3 C h (J X 1)) λi=>a b x1 x2 x7 c d e f g i H
def Yq(G:an)(N:Nat)(L1:aa->aa->aa->aa->aa->aa->aa->ad->O)(a:aa->aa->aa->aa->aa->aa->aa->aa->aa->aa->ad->O):∀R H,aX P G N (j (j (j (aE (aE (j (j (aE (aE (j (j (aE (aE (j (aE (j (j (bb Tryz.f40)))))))))))))))))) (λR H=>a (R 0) (R 1) (R 2) (R 7) (R 24) (R 25) (R 26) (R 33) (R 34) (R 35) H) [(2,(λR H=>ng G N L1 (R 0) (R 1) (R 2) (R 7) (R 24) (R 25) (R 26) H)),(1,(λR H=>ng G N L1 (R 0) (R 1) (R 2) (R 7) (R 24) (R 25) (R 26) H)),(0,(λR H=>nf G N (R 7) H))] (aR Tryz.f40) R H=uS G N L1 a (R 0) (R 1) (R 2) (R 7) (R 24) (R 25) (R 26) (R 33) (R 34) (R 35) H:=by
 refine bj (aw _) λR H=> ?_
 delta uS;kernel_rfl
def Bi(G:an)(N:Nat)(L1:aa->aa->aa->aa->aa->aa->aa->ad->O)(k:aa->aa->aa->aa->aa->aa->aa->aa->aa->aa->ad->O)(b x1:aa)(x2 x7:aa)(e f:aa)(g h:aa)(i c:aa)(H:ad):O:=af (ar P .lss 3 Z c i) λn=>aP (D n) (af (a6 P 30 h c) λo=>af (aj P H 3 o) λj=>af (cr b) λp=>af (av P 76 p 3) λr=>af (aj P H 31 r) λs=>af (a6 P 31 s x1) λt=>af (aj P H 30 t) λu=>aU H (G 94 [u,j] H) λa ae=>ao a C ae (bw x7) λv ah=>ao a C ah (bw j) λx50 ak=>ao a C ak (λq=>b9 ak (G 94 [v,x50] ak) q) λx51 au=>ao a C au (aH (dg .not x51)) λx52 d=>af (ba a (D x52) (D (y Z))) λw=>aP (D w) (bx d (cv P (d).next 30 1 [(0,j)]) λx l=>aU l (cS P l [30,30] x7 x) λz m=>uS G N L1 k b x1 x2 z e f g h i c m) (uS G N L1 k b x1 x2 x7 e f g h i c d)) (ng G N L1 b x1 x2 x7 e f g H)
def uU(G:an)(N:Nat)(L1:aa->aa->aa->aa->aa->aa->aa->ad->O):Nat->aa->aa->aa->aa->aa->aa->aa->aa->aa->aa->ad->O
 |0,_,_,_,_,_,_,_,_,_,_,_=>I
 |n+1,a,x1,x2,x7,b,c,d,e,f,g,H=>Bi G N L1 (uU G N L1 n) a x1 x2 x7 b c d e f g H
def Ym(G:an)(N:Nat)(L1:aa->aa->aa->aa->aa->aa->aa->ad->O)(a:aa->aa->aa->aa->aa->aa->aa->aa->aa->aa->ad->O):∀R H,aX P G N (aE (aE (j (j (aE (aE (j (j (aE (aE (j (aE (j (j (bb Tryz.f40))))))))))))))) (λR H=>a (R 0) (R 1) (R 2) (R 7) (R 24) (R 25) (R 26) (R 33) (R 34) (R 35) H) [(2,(λR H=>ng G N L1 (R 0) (R 1) (R 2) (R 7) (R 24) (R 25) (R 26) H)),(1,(λR H=>ng G N L1 (R 0) (R 1) (R 2) (R 7) (R 24) (R 25) (R 26) H)),(0,(λR H=>nf G N (R 7) H))] (aR Tryz.f40) R H=Bi G N L1 a (R 0) (R 1) (R 2) (R 7) (R 24) (R 25) (R 26) (R 33) (R 34) (R 35) H:=by
 refine bj ((aF ag ((aF ag ((aF ag (Yq G N L1 a) (aw _))) (aw _))) (aw _))) λR H=> ?_
 delta Bi;generalize ng G N L1=b;generalize uS G N L1 a=c;revert b c;refine id ?_;intro b c;kernel_rfl
def Bh(G:an)(N:Nat)(L1:aa->aa->aa->aa->aa->aa->aa->ad->O)(b x1:aa)(x2 x7:aa)(c d a:aa)(H:ad):O:=af (ar P .lss 3 Z a d) λg=>aP (D g) (af (a6 P 47 c a) λh=>af (aj P H 89 h) λi=>cA H [J X 0,J X 0,J X 0,J X 0,J X 0,aa.aB] λf ae=>bY ae (bA P ae 89 f i) λah=>af (aj P ah 89 f) λj=>aU ah (G 93 [b,j,x2] ah) λe ak=>bf P .len [30] [e] ak λk=>uU G N L1 N b x1 x2 x7 c d a e k (J X 0) ak) (nf G N x7 H)
def uT(G:an)(N:Nat):Nat->aa->aa->aa->aa->aa->aa->aa->ad->O
 |0,_,_,_,_,_,_,_,_=>I
 |n+1,a,x1,x2,x7,b,c,d,H=>Bh G N (uT G N n) a x1 x2 x7 b c d H
def Yl(G:an)(N:Nat)(L1:aa->aa->aa->aa->aa->aa->aa->ad->O):∀R H,aX P G N (aE (aE (j (aE (j (j (bb Tryz.f40))))))) (λR H=>L1 (R 0) (R 1) (R 2) (R 7) (R 24) (R 25) (R 26) H) [(0,(λR H=>nf G N (R 7) H))] (aR Tryz.f40) R H=Bh G N L1 (R 0) (R 1) (R 2) (R 7) (R 24) (R 25) (R 26) H:=by
 refine bj ((aF ag ((aF ag ((aF ag (Yp G N L1) ((bX ag ((aF ag ((aF ag ((bX ag ((cj (k:=λm R H=>uU G N L1 m (R 0) (R 1) (R 2) (R 7) (R 24) (R 25) (R 26) (R 33) (R 34) (R 35) H) ag (λR H=>ag) (λm=>Ym G N L1 (uU G N L1 m)))))) (aw _))) (aw _))))))) (aw _))) (aw _))) λR H=> ?_
 delta Bh;generalize nf G N=a;generalize uU G N L1 N=b;revert a b;refine id ?_;intro a b;kernel_rfl
def xP(G:an)(N:Nat)(a x1 x2:aa)(H:ad):O:=af (a6 P 31 x2 x1) λc=>af (aj P H 30 c) λd=>af (cr a) λe=>af (av P 76 e 0) λf=>af (av P 27 f 2) λg=>af (aj P H 24 g) λh=>af (a6 P 24 h x1) λi=>af (av P 49 i 4) λj=>af (aj P H 47 j) λb=>bf P .len [47] [b] H λk=>uT G N N a x1 x2 d b k (J X 0) H
def Yn(G:an)(N:Nat)(b:aa)(x1:aa)(x2:aa)(H:ad):bd Tryz.f40 G N (bO [b,x1,x2]) H=xP G N b x1 x2 H:=by
 refine bR (A:=bd Tryz.f40 G N) ((aF ag ((aF ag ((aF ag (Yo G N) ((aF ag ((bX ag ((cj (k:=λm R H=>uT G N m (R 0) (R 1) (R 2) (R 7) (R 24) (R 25) (R 26) H) ag (λR H=>ag) (λm=>Yl G N (uT G N m)))))) (aw _))))) (aw _))) (aw _))) ?_;delta xP;generalize uT G N N=a;revert a;refine id ?_;intro a;kernel_rfl
def xT(G:an)(a x1:aa)(H:ad):O:=af (cr a) λx8=>af (av P 76 x8 0) λq=>af (av P 27 q 2) λx10=>af (aj P H 24 x10) λx11=>af (a6 P 24 x11 x1) λd=>af (av P 49 d 1) λe=>af (aj P H 23 e) λf=>bf P .len [23] [f] H λb=>af (ar P .eql 3 C b (J X 0)) λg=>aP (D g) (D (aa.aB,H)) (af (cr a) λh=>af (av P 76 h 0) λi=>af (aj P H 27 i) λj=>aU H (G 98 [j,x1,J X 0] H) λc ae=>af (cr a) λk=>af (av P 76 k 1) λl=>af (av P 33 l 2) λm=>af (aj P ae 30 m) λn=>af (ar P .add 3 Z c b) λo=>af (fX P 30 n (D c) (D o) I) λp=>D (p,ae))
def Yu(G:an)(N:Nat)(a:aa)(x1:aa)(H:ad):bd Tryz.f44 G N (bO [a,x1]) H=xT G a x1 H:=by
 refine bR (A:=bd Tryz.f44 G N) (aw _) ?_;delta xT;kernel_rfl
def rE(G:an)(H:ad):O:=some (aa.aB,H)
def Yw(G:an)(N:Nat):∀R H,aX P G N (j (j (bb Tryz.f45))) (aR Tryz.f45) [] (aR Tryz.f45) R H=rE G H:=by
 refine bj (aw _) λR H=> ?_
 delta rE;kernel_rfl
def uV(G:an)(a b:aa)(x6 x7:aa)(H:ad):O:=aP (D x7) (af (cr a) λx12=>af (av P 76 x12 1) λc=>af (av P 33 c 1) λd=>af (aj P H 30 d) λe=>af (av P 89 b 4) λf=>af (aj P H 3 f) λg=>af (a6 P 30 e g) λh=>af (aj P H 3 h) λi=>bx H (cv P (H).next 30 1 [(0,i)]) λj ae=>aU ae (G 47 [a,j] ae) λk ah=>D (k,ah)) (af (ar P .eql 3 C x6 (J X 13)) λl=>aP (D l) (af (cr a) λm=>af (av P 76 m 3) λn=>af (aj P H 31 n) λo=>af (av P 89 b 3) λp=>af (aj P H 3 p) λq=>af (a6 P 31 o q) λr=>af (aj P H 30 r) λs=>D (s,H)) (rE G H))
def Yx(G:an)(N:Nat):∀R H,aX P G N (j (aE (j (aE (j (bb Tryz.f45)))))) (λR H=>rE G H) [(0,(λR H=>rE G H))] (aR Tryz.f45) R H=uV G (R 0) (R 3) (R 6) (R 7) H:=by
 refine bj (aw _) λR H=> ?_
 delta uV;generalize rE G=a;revert a;refine id ?_;intro a;kernel_rfl
def xU(G:an)(b x1:aa)(H:ad):O:=bx H (b0 (H).next x1) λa ae=>af (av P 89 a 0) λx5=>af (aj P ae 3 x5) λx6=>af (ar P .eql 3 C x6 (J X 11)) λx8=>aP (D x8) (uV G b a x6 x8 ae) (af (ar P .eql 3 C x6 (J X 12)) λc=>uV G b a x6 c ae)
def Yv(G:an)(N:Nat)(b:aa)(x1:aa)(H:ad):bd Tryz.f45 G N (bO [b,x1]) H=xU G b x1 H:=by
 refine bR (A:=bd Tryz.f45 G N) ((aF ag ((aF ag (Yw G N) ((aF ag ((bX ag ((aF ag (Yx G N) (aw _))))) (aw _))))) (aw _))) ?_;delta xU;generalize uV G=a;revert a;refine id ?_;intro a;kernel_rfl
def rF(G:an)(N:Nat)(x5:aa)(H:ad):O:=some (x5,H)
def YA(G:an)(N:Nat):∀R H,aX P G N (j (j (j (bb Tryz.f46)))) (aR Tryz.f46) [] (aR Tryz.f46) R H=rF G N (R 5) H:=by
 refine bj (aw _) λR H=> ?_
 delta rF;kernel_rfl
def uW(G:an)(N:Nat)(L1:aa->aa->aa->aa->aa->ad->O)(x1 x5:aa)(x8 b x10:aa)(H:ad):O:=af (ar P .add 3 C x10 (J X 1)) λa=>L1 x1 x5 x8 b a H
def YB(G:an)(N:Nat)(L1:aa->aa->aa->aa->aa->ad->O):∀R H,aX P G N (j (j (j (aE (aE (j (aE (j (j (bb Tryz.f46)))))))))) (λR H=>L1 (R 1) (R 5) (R 8) (R 9) (R 10) H) [(0,(λR H=>rF G N (R 5) H))] (aR Tryz.f46) R H=uW G N L1 (R 1) (R 5) (R 8) (R 9) (R 10) H:=by
 refine bj (aw _) λR H=> ?_
 delta uW;kernel_rfl
def Bj(G:an)(N:Nat)(L1:aa->aa->aa->aa->aa->ad->O)(x1 x5:aa)(x8 a x10:aa)(H:ad):O:=af (ar P .lss 3 Z x10 a) λx11=>aP (D x11) (af (a6 P 30 x8 x10) λx12=>af (aj P H 3 x12) λc=>cA H [J X 0] λx7 ae=>bY ae (bA P ae 3 x7 c) λah=>aU ah (G 99 [x1,(.func (.func 100) [] [x7])] ah) λd ak=>af (dg .not d) λe=>aP (D e) (af (aj P ak 3 x7) λf=>bx ak (cv P (ak).next 30 1 [(0,f)]) λg au=>aU au (cS P au [30,30] x5 g) λh b=>uW G N L1 x1 h x8 a x10 b) (uW G N L1 x1 x5 x8 a x10 ak)) (rF G N x5 H)
def uX(G:an)(N:Nat):Nat->aa->aa->aa->aa->aa->ad->O
 |0,_,_,_,_,_,_=>I
 |n+1,x1,x5,x8,a,x10,H=>Bj G N (uX G N n) x1 x5 x8 a x10 H
def Yy(G:an)(N:Nat)(L1:aa->aa->aa->aa->aa->ad->O):∀R H,aX P G N (aE (aE (j (aE (j (j (bb Tryz.f46))))))) (λR H=>L1 (R 1) (R 5) (R 8) (R 9) (R 10) H) [(0,(λR H=>rF G N (R 5) H))] (aR Tryz.f46) R H=Bj G N L1 (R 1) (R 5) (R 8) (R 9) (R 10) H:=by
 refine bj ((aF ag ((aF ag ((aF ag (YB G N L1) (aw _))) (aw _))) (aw _))) λR H=> ?_
 delta Bj;generalize rF G N=a;generalize uW G N L1=b;revert a b;refine id ?_;intro a b;kernel_rfl
def xV(G:an)(N:Nat)(a x1:aa)(H:ad):O:=bf P .len [30] [a] H λb=>uX G N N x1 aa.aB a b (J X 0) H
def Yz(G:an)(N:Nat)(b:aa)(x1:aa)(H:ad):bd Tryz.f46 G N (bO [b,x1]) H=xV G N b x1 H:=by
 refine bR (A:=bd Tryz.f46 G N) ((aF ag ((aF ag ((aF ag (YA G N) ((aF ag ((bX ag ((cj (k:=λm R H=>uX G N m (R 1) (R 5) (R 8) (R 9) (R 10) H) ag (λR H=>ag) (λm=>Yy G N (uX G N m)))))) (aw _))))) (aw _))) (aw _))) ?_;delta xV;generalize uX G N N=a;revert a;refine id ?_;intro a;kernel_rfl
def xW(G:an)(a x1:aa)(H:ad):O:=af (cr a) λx6=>af (av P 76 x6 1) λx7=>af (av P 33 x7 3) λx8=>af (aj P H 31 x8) λb=>aU H (G 101 [b,x1] H) λx11 ae=>D (x11,ae)
def YC(G:an)(N:Nat)(a:aa)(x1:aa)(H:ad):bd Tryz.f47 G N (bO [a,x1]) H=xW G a x1 H:=by
 refine bR (A:=bd Tryz.f47 G N) (aw _) ?_;delta xW;kernel_rfl
def rS(G:an)(m x1:aa)(H:ad):O:=bx H (b0 (H).next m) λx2 ae=>cA ae [J X 0,aa.aB,aa.aB,aa.aB] λx4 ah=>af (aj P ah 27 x2) λx10=>aU ah (G 131 [x10] ah) λx11 ak=>af (av P 27 x2 3) λx12=>af (aj P ak 25 x12) λc=>cx (a2 P .empty .len [25] [c]) (a2 P ak .len [25] [c]) λb=>aU (b.heap ak) (G 130 [x11,b.val,J X 8,x1] (b.heap ak)) λd au=>af (gC d 0) λi=>cA au [aa.aB,aa.aB] λx5 g=>vq g (bA P g 154 x5 i) λy a=>af (gC d 1) λj=>bif eH [0,1,0,4,12,0,63,127,255,255,0,1535,4095] [11,12] [⟨0,.read x10,λH=>aj P H 27 x2⟩,⟨1,.cF x11 ak,λH=>I⟩,⟨2,.pure x12,λH=>I⟩,⟨3,.read c,λH=>aj P H 25 x12⟩,⟨4,b,λH=>a2 P H .len [25] [c]⟩,⟨5,.pure x1,λH=>I⟩,⟨6,.cF d au,λH=>I⟩,⟨7,.pure d,λH=>I⟩,⟨8,.pure i,λH=>I⟩,⟨10,(.new x5 (.row Z (List.length [aa.aB,aa.aB]) [[aa.aB,aa.aB]])),λH=>I⟩,⟨11,.cF y a,λH=>I⟩,⟨9,.pure j,λH=>I⟩,⟨12,.pure j,λH=>I⟩] ah then(af (aj P a 154 x5) λn=>aU a (G 132 [n] a) λk l=>af (gC k 0) λo=>af (gC k 1) λq=>cA l [J X 0,aa.aB,aa.aB,aa.aB] λx7 h=>bY h (bA P h 33 x7 o) λe=>af (aj P e 33 x7) λp=>bY e (bA P e 33 x4 p) λf=>af (aj P f 33 x4) λr=>D (r,f))else I
def H8(G:an)(N:Nat)(a:aa)(x1:aa)(H:ad):bd Tryz.f78 G N (bO [a,x1]) H=rS G a x1 H:=by
 refine bR (A:=bd Tryz.f78 G N) (aw _) ?_;delta rS;kernel_rfl
def U4(N:Nat){a x1:aa}{H:ad}{r:aa×ad}(h:rS (aC P ax) a x1 H=D r):aC P ax 78 [a,x1] H=D r:=
 cp ag Tryz.func78 ag ag ag ((H8 (aC P ax) N a x1 H).trans h)
def rZ(G:an)(N:Nat)(a:aa)(H:ad):O:=some (a,H)
def Zk(G:an)(N:Nat):∀R H,aX P G N (j (j (j (bb Tryz.f80)))) (aR Tryz.f80) [] (aR Tryz.f80) R H=rZ G N (R 3) H:=by
 refine bj (aw _) λR H=> ?_
 delta rZ;kernel_rfl
def va(G:an)(N:Nat)(L1:aa->aa->aa->aa->aa->ad->O)(x1 b:aa)(x7 x8 a:aa)(H:ad):O:=af (ar P .lss 3 Z a x8) λx10=>aP (D x10) (af (a6 P 30 x7 a) λx12=>af (aj P H 3 x12) λc=>af (av P 33 x1 1) λd=>af (aj P H 30 d) λe=>aU H (G 134 [e,c] H) λf ae=>af (c7 P 56 [(0,(J X 5)),(1,a),(2,f)]) λg=>bx ae (cv P (ae).next 53 1 [(0,g)]) λh ah=>aU ah (cS P ah [53,53] b h) λi ak=>af (ar P .add 3 C a (J X 1)) λj=>L1 x1 i x7 x8 j ak) (rZ G N b H)
def nE(G:an)(N:Nat):Nat->aa->aa->aa->aa->aa->ad->O
 |0,_,_,_,_,_,_=>I
 |n+1,x1,a,x7,x8,b,H=>va G N (nE G N n) x1 a x7 x8 b H
def Zj(G:an)(N:Nat)(L1:aa->aa->aa->aa->aa->ad->O):∀R H,aX P G N (aE (aE (j (aE (j (j (bb Tryz.f80))))))) (λR H=>L1 (R 1) (R 3) (R 7) (R 8) (R 9) H) [(0,(λR H=>rZ G N (R 3) H))] (aR Tryz.f80) R H=va G N L1 (R 1) (R 3) (R 7) (R 8) (R 9) H:=by
 refine bj (aw _) λR H=> ?_
 delta va;generalize rZ G N=a;revert a;refine id ?_;intro a;kernel_rfl
def rY(G:an)(N:Nat)(a:aa)(H:ad):O:=bx H (b0 (H).next a) λx1 ae=>af (av P 33 x1 1) λx6=>af (aj P ae 30 x6) λx7=>bf P .len [30] [x7] ae λx8=>nE G N N x1 aa.aB x7 x8 (J X 0) ae
def H_(G:an)(N:Nat)(b:aa)(H:ad):bd Tryz.f80 G N (bO [b]) H=rY G N b H:=by
 refine bR (A:=bd Tryz.f80 G N) ((aF ag ((aF ag ((aF ag (Zk G N) ((aF ag ((bX ag ((cj (k:=λm R H=>nE G N m (R 1) (R 3) (R 7) (R 8) (R 9) H) ag (λR H=>ag) (λm=>Zj G N (nE G N m)))))) (aw _))))) (aw _))) (aw _))) ?_;delta rY;generalize nE G N N=a;revert a;refine id ?_;intro a;kernel_rfl
def U6(N:Nat){a:aa}{H:ad}{r:aa×ad}(h:rY (aC P ax) N a H=D r):aC P ax 80 [a] H=D r:=
 cp ag Tryz.func80 ag ag ag ((H_ (aC P ax) N a H).trans h)
def r1(G:an)(H:ad):O:=some (aa.aB,H)
def Zq(G:an)(N:Nat):∀R H,aX P G N (j (j (bb Tryz.f93))) (aR Tryz.f93) [] (aR Tryz.f93) R H=r1 G H:=by
 refine bj (aw _) λR H=> ?_
 delta r1;kernel_rfl
def vc(G:an)(a x2:aa)(x4 x8 p:aa)(H:ad):O:=aP (D p) (af (cr a) λb=>af (av P 76 b 1) λc=>af (av P 33 c 1) λd=>af (aj P H 30 d) λe=>af (av P 89 x4 4) λf=>af (aj P H 3 f) λg=>af (a6 P 30 e g) λh=>af (aj P H 3 h) λi=>bx H (cv P (H).next 30 1 [(0,i)]) λj ae=>D (j,ae)) (af (ar P .eql 3 C x8 (J X 13)) λk=>aP (D k) (af (av P 89 x4 3) λl=>af (aj P H 3 l) λm=>af (a6 P 31 x2 m) λn=>af (aj P H 30 n) λo=>D (o,H)) (r1 G H))
def Zr(G:an)(N:Nat):∀R H,aX P G N (j (aE (j (aE (j (bb Tryz.f93)))))) (λR H=>r1 G H) [(0,(λR H=>r1 G H))] (aR Tryz.f93) R H=vc G (R 0) (R 2) (R 4) (R 8) (R 9) H:=by
 refine bj (aw _) λR H=> ?_
 delta vc;generalize r1 G=a;revert a;refine id ?_;intro a;kernel_rfl
def yg(G:an)(a x1 x2:aa)(H:ad):O:=bx H (b0 (H).next x1) λx4 ae=>af (av P 89 x4 0) λx7=>af (aj P ae 3 x7) λx8=>af (ar P .eql 3 C x8 (J X 11)) λx10=>aP (D x10) (vc G a x2 x4 x8 x10 ae) (af (ar P .eql 3 C x8 (J X 12)) λx11=>vc G a x2 x4 x8 x11 ae)
def Zp(G:an)(N:Nat)(b:aa)(x1:aa)(x2:aa)(H:ad):bd Tryz.f93 G N (bO [b,x1,x2]) H=yg G b x1 x2 H:=by
 refine bR (A:=bd Tryz.f93 G N) ((aF ag ((aF ag (Zq G N) ((aF ag ((bX ag ((aF ag (Zr G N) (aw _))))) (aw _))))) (aw _))) ?_;delta yg;generalize vc G=a;revert a;refine id ?_;intro a;kernel_rfl
def xi(G:an)(a x1:aa)(H:ad):O:=af (aj P H 3 x1) λx5=>aU H (G 94 [a,x5] H) λx6 ae=>D (x6,ae)
def Vc(G:an)(N:Nat)(a:aa)(x1:aa)(H:ad):bd Tryz.f100 G N (bO [a,x1]) H=xi G a x1 H:=by
 refine bR (A:=bd Tryz.f100 G N) (aw _) ?_;delta xi;kernel_rfl
end
end
section
open Go.bp
section
variable {H:ad}{ok ok':Nat->Prop}{x:bQ}
def QB(a:dL x):0<cL x:=by have:=a.o;unfold cL;omega
def QA(a:dL x):cL x<=70000:=by have:=a.o;have:=a.globals;have:=kY a;unfold cL;omega
def E1{H:ad}{a b c d:aa}{m:Int}{zX:Nat}(g:H.get zX=D (.row Z 5 [[a,b,c,d,J X m]])):aj P H 25 (.ptr zX 0 3)=D d:=by rw[fB ag g rfl];rfl
def Fi(af:right x=C){V:aa}(aD:c2 H ok x V){l:List bz}{lv:aa}(aX:e0 (cL x) x.sites.length l)(az:l.length<=800000000)(aU:aZ c6 H ok' l lv):W (aC P ax 78 [V,lv] H) λr H'=>nO H' (λL=>H.next<=L) (bp.merge (da (cL x) x.sites.length l) x.sites.length) r/\ay H H':=by
 have aY:=aD;have M:=je af;have aj:=M.sites;have aS:=QA M;obtain⟨_,rfl,a,b,cc,d,rfl,ae,ah,ak,au⟩:=aD;refine bZ (λ_=>U4 0) ?_;have a4:=ay.push H (.row Z 5 [[a,b,cc,d,J X x.main]]);have aN:=ad.bq H (.row Z 5 [[a,b,cc,d,J X x.main]]);have a7:aV (D (.agg [a,b,cc,d,J X x.main])) (.agg [a,b,cc,d,J X x.main])=true:=by simp[aV,aa.beq,eE.beq,ae.rd,ah.rd,ak.rd,au.rd]
 have ap:=ay.push (H.push (.row Z 5 [[a,b,cc,d,J X x.main]])) (.row Z 4 [bW 0 .aB .aB .aB]);have T:=ad.bq (H.push (.row Z 5 [[a,b,cc,d,J X x.main]])) (.row Z 4 [bW 0 .aB .aB .aB]);have m:=ap.get aN;obtain⟨zX,u⟩:∃zX,zX=H.next:=⟨_,rfl⟩
 have ar:(H.push (.row Z 5 [[a,b,cc,d,J X x.main]])).next=zX+1:=by rw[u];simp
 have bb:∀(k:aa->ad->O),cA (H.push (.row Z 5 [[a,b,cc,d,J X x.main]])) [J X 0,.aB,.aB,.aB] k=k (.ptr (zX+1) 0 0) ((H.push (.row Z 5 [[a,b,cc,d,J X x.main]])).push (.row Z 4 [bW 0 .aB .aB .aB])):=λk=>by rw[kQ,kR,ar];rfl
 rw[ar]at T;rw[<-u]at m;simp only[rS,dZ ae ah ak au,lK,bb,<-u];have Q:=a4.trans ap;generalize aQ:(H.push (.row Z 5 [[a,b,cc,d,J X x.main]])).push (.row Z 4 [bW 0 .aB .aB .aB])=av at*;have bg:av.next=zX+2:=by rw[<-aQ];simp[u]
 simp-implicitDefEqProofs(disch:=try exact al)only[aq,ch m];refine bk (LO af (aY.aI Q)) ?_;rintro _ aw ⟨rfl,s⟩;refine⟨s.1,?_⟩;have aP:=s.get m;have hlen:=au.len e4 (H0:=aw);have aT:∀H0,a2 P H0 .len [25] [d]=D (J X (x.sites.length:Nat)):=λH0=>au.len e4
 simp-implicitDefEqProofs(disch:=try exact al)only[aq,aO,aM,E1 aP,aT,K.heap,K.val];refine bk (S2 aX aS (QB M) aj az (aU.aI (Q.trans s))) ?_;rintro _ j ⟨bh,rfl,⟨nv,fv,rfl,ab,Y⟩,ao⟩;refine⟨ao.1,?_⟩;have R:=s.trans ao;have a5:=ad.bq j (.row Z 2 [[.aB,.aB]]);have S:=ay.push j (.row Z 2 [[nv,fv]]);have a_:bA P (j.push (.row Z 2 [[.aB,.aB]])) 154 (.ptr j.next 0 0) (.agg [nv,fv])=D (j.push (.row Z 2 [[nv,fv]])):=by
  rw[Bu a5 ab.one Y.one,ad.jd]
 simp-implicitDefEqProofs(disch:=try exact al)only[Nat.reduceAdd,aq,aO,a_];have a3:=ay.push j (.row Z 2 [[.aB,.aB]]);have w:=R.trans S;have a1:=R.trans a3;have a9:aV (D d) d=true:=by simp[aV,au.rd]
 refine cI (cJ ag ?_) ?_
 ·refine cY ?_ ?_
  ·simp only[cw,K.heap,List.forall_mem_cons]
   repeat' first|exact ay.refl _|exact s|exact R|exact w|exact a1|(intro _ h;cases h;done)|refine aL ?_ ?_
  ·simp only[List.forall_mem_cons]
   repeat' first|(intro v o;cases o;done)|(intro v o;cases o;intro H' p;simp only[ch (p.get m),a7];done)|(intro v o;cases o;intro H' p;simp only[E1 (p.get m),a9];done)|(intro _ h;cases h;done)|refine aL ?_ ?_
 ·have aE:=ad.bq j (.row Z 2 [[nv,fv]]);have an:=(Q.trans w);have n5:(j.push (.row Z 2 [[nv,fv]])).next=j.next+1:=by simp
  have aH:=w.get T;have aW:=ab.aI S;have aR:=Y.aI S;generalize j.push (.row Z 2 [[nv,fv]])=A at*;simp-implicitDefEqProofs(disch:=try exact al)only[aq,og aE];refine bk (Qj (P6 aj ai) aW aR) ?_;rintro _ e ⟨bd,rfl,⟨ov,i,f,rfl,B,E,G,aA⟩,t⟩;refine⟨t.1,?_⟩;have a6:=ad.bq e (.row Z 4 [bW 0 .aB .aB .aB]);generalize be:bp.merge (da (cL x) x.sites.length l) x.sites.length=k at*;have nJ:bA P (e.push (.row Z 4 [bW 0 .aB .aB .aB])) 33 (.ptr e.next 0 0) (.agg (bW k.count ov i f))=D (e.push (.row Z 4 [bW k.count ov i f])):=by
   rw[kO a6 rfl B.one E.one G.one,ad.jd]
  have z:=ay.push e (.row Z 4 [bW k.count ov i f]);have aF:=ad.bq e (.row Z 4 [bW k.count ov i f]);have bc:∀(q:aa->ad->O),cA e [J X 0,.aB,.aB,.aB] q=q (.ptr e.next 0 0) (e.push (.row Z 4 [bW 0 .aB .aB .aB])):=λq=>by rw[kQ,kR];rfl
  have U:=(t.trans z).get aH;have ba:=kO (a:=ov) (b:=i) (c:=f) (n:=k.count) U rfl B.one E.one G.one;have a0:=ad.b6 U;have aG:((e.push (.row Z 4 [bW k.count ov i f])).set (zX+1) (.row Z 4 [bW k.count ov i f])).get (zX+1)=D (.row Z 4 [bW k.count ov i f]):=ad.dA a0;have am:∀q,q≠zX+1->((e.push (.row Z 4 [bW k.count ov i f])).set (zX+1) (.row Z 4 [bW k.count ov i f])).get q=(e.push (.row Z 4 [bW k.count ov i f])).get q:=λq a8=>ad.cW (Ne.symm a8)
  simp only[B4,List.getElem?_cons_zero,List.getElem?_cons_succ,lJ,bc,nJ];rw[pk (by simp)];simp only[ko aF,lJ,ba];rw[pk (by simp)];simp only[ko aG,lJ];have bf:zX+2<=A.next:=by have:=w.1;omega
  have N:eB e (λL=>A.next<=L) ((e.push (.row Z 4 [bW k.count ov i f])).set (zX+1) (.row Z 4 [bW k.count ov i f])) (λL=>zX<=L):=λq b (a8:A.next<=q) g=>⟨show zX<=q by omega,by rw[am q ai];exact z.get g⟩
  refine aK.2 ⟨⟨_,_,_,rfl,B.keep N,E.keep N,G.keep N,aA⟩,⟨by have:=an.1;have:=t.1;have:=z.1;simp at*;omega,λq a8=> ?_⟩⟩;rw[am q ai,z.2 q (by have:=t.1;omega),t.2 q ai,an.2 q a8]
end
end
section
open Go.bp
def ZR(l:Nat)(c:bz):cv P l 53 1 [(0,.agg (cT c))]=D (.aJ l 0 1 4 (D 1),.row Z 4 [cT c]):=by
 cases c<;>exact nI g4 l rfl rfl rfl
def Ej{a:Int}:∀{l:List Int} {i:Nat},l[i]? =D a->(∀j:Nat,j<i->l[j]? ≠D a)->l.idxOf a=i
 |[],i,h,_=>by simp at h
 |x::l,0,h,_=>by simp at h;subst h;simp
 |x::l,i+1,h,aN=>by
  have aD:x≠a:=λe=>aN 0 ai (by simp[e])
  rw[List.idxOf_cons,beq_eq_false_iff_ne.2 aD,jF,Ej (by simpa using h) λj b=>by have:=aN (j+1) ai;simpa using this]
def OQ{R:Nat->Nat->Prop}(he:fl R){m s:Nat}(c:s<m):p4 (bC ((List.range m).map (et R))) ((et R s:Nat):Int)=((dr R s:Nat):Int):=by
 have az:=g3 he s;have ae:(bC ((List.range m).map (et R)))[dr R s]? =D ((et R s:Nat):Int):=by
  have:dr R s<m:=ai;have e:=(sA he).2 (he.symm az.1);simp[bC,this,e]
 unfold p4;rw[if_pos (List.mem_of_getElem? ae),Ej ae λj b e=> ?_];have a:j<m:=ai;simp[bC,a]at e;have:=az.2.2 j ((sA he).1 (by exact_mod_cast e.symm));omega
section
variable {H:ad}{ok ok':Nat->Prop}
def B_{R:Nat->Nat->Prop}(he:fl R){m zX cnt:Nat}{ov nv fv:aa}(hm:m<=1000000){B:Nat}(f:zX<B){N:Nat}:∀(j k q:Nat) (H:ad) (l:List bz) (v:aa),k+j=m->j<q->l=(List.range k).map (λs=>bz.same s (dr R s))->bG c6 B bH H l v->B<=H.next->H.get zX=D (.row Z 4 [bW cnt ov nv fv])->aZ bu H (· <B) (bC ((List.range m).map (et R))) ov->
  W (nE (aC P ax) N q (.ptr zX 0 0) v ov (J X m) (J X k) H) λr H'=>bG c6 B bH H' (gn R m) r/\dt B H H'
 |_,_,0,_,_,_,_,a8,_,_,_,_,_=>ai
 |0,k,q+1,H,l,v,A,_,b,az,d,g,a7=>by
  have c:¬(k:Int)<(m:Int):=ai;simp-implicitDefEqProofs(disch:=try exact al)only[nE,va,rZ,aq,aG,c,decide_false];have e:k=m:=ai;subst e;exact aK.2 ⟨by rw[gn,<-b];exact az,.refl _ _⟩
 |j+1,k,q+1,H,l,v,A,a8,b,az,d,g,a7=>by
  have c:(k:Int)<(m:Int):=ai;have h:k<m:=ai;have on:=B_ he (cnt:=cnt) (ov:=ov) (nv:=nv) (fv:=fv) hm f (N:=N) j (k+1) q;have hlen:(bC ((List.range m).map (et R))).length=m:=by simp[bC]
  obtain⟨p,i1,i2⟩:=a7.int (j:=(k:Int)) (a:=((et R k:Nat):Int)) ai (by simp[bC,h]);have w:c7 P 56 [(0,J X 5),(1,J X (k:Nat)),(2,J X (dr R k:Nat))]=D (.agg (cT (.same k (dr R k)))):=CI rfl rfl rfl;simp-implicitDefEqProofs(disch:=try exact al)only[nE,va,aq,aO,aG,aM,c,decide_true,i1,i2,g2 g];have i:=OD (a:=((et R k:Nat):Int)) a7 (by rw[hlen];omega);rw[OQ he h]at i;refine fu i ?_;obtain⟨n,H1,o,u,a3,a4,a5⟩:=bG.vB (K:=c6) (ok:=bH) (ok':=bH) g4 az d (ay.refl H) (a:=bz.same k (dr R k)) (cs:=cT (.same k (dr R k))) rfl (λ_ _=>trivial) (by rw[b];simp;omega);have E:(H.push (.row Z 4 [cT (.same k (dr R k))])).next<=H1.next:=by rw[ad.ds];exact a4
  have t:cS P (H.push (.row Z 4 [cT (.same k (dr R k))])) [53,53] v (.aJ H.next 0 1 4 (D 1))=D (n,H1):=o;have x:l++[bz.same k (dr R k)]=(List.range (k+1)).map (λs=>bz.same s (dr R s)):=by rw[b,List.range_succ,List.map_append];rfl
  simp-implicitDefEqProofs(disch:=try exact al)only[aq,aG,w,ZR,t,c3 (show k<=1000000000 by omega)];exact(on H1 _ n ai ai x u (by have:=a3.1;omega) ((a3.2 zX f).trans g) (a7.hP a3)).mono λr H' z=>⟨z.1,a3.trans z.2⟩
def Ld(l n:Nat){a b c:aa}(d:a.one=C)(e:b.one=C)(aA:c.one=C):b0 l (.agg (bW n a b c))=D (.ptr l 0 0,.row Z 4 [bW n a b c]):=by simp[b0,aa.cells,bW,d,e,aA];rfl
def Ki{R:Nat->Nat->Prop}(he:fl R){m:Nat}{k:bp.eg}{v:aa}(hm:m<=1000000)(h:k.of=(List.range m).map (et R))(i:nO H ok k v):W (aC P ax 80 [v] H) λr H'=>bG c6 H.next bH H' (gn R m) r/\ay H H':=by
 obtain⟨ov,nv,fv,rfl,a,f,g,_⟩:=i;rw[h]at a;refine bZ (λ_=>U6 (m+1)) ?_;have d:=ay.push H (.row Z 4 [bW k.count ov nv fv]);have b:=ad.bq H (.row Z 4 [bW k.count ov nv fv]);have hlen:∀H0,a2 P H0 .len [30] [ov]=D (J X m):=λH0=>by rw[a.len cU];simp[bC]
 simp-implicitDefEqProofs(disch:=try exact al)only[rY,bf,aq,aO,aM,Ld _ _ a.one f.one g.one,g2 b,hlen];refine(B_ he hm (B:=H.next+1) ai m 0 _ _ [] .aB ai ai rfl (bG.nil c6 _ _ _) (by simp) b ((a.below.aI d).keep (.le λL j=>ai))).mono λr H' z=>⟨⟨z.1.eG,λL n c e=>by have:=z.1.low L n c e;omega⟩,⟨by have:=z.2.1;simp at this;omega,λq a8=>(z.2.2 q ai).trans (d.2 q a8)⟩⟩
end
end
section
open Go.bp
def Fb:eC 198 53 1:=⟨ag,ag,⟨24,ag,b_⟩,⟨.aB,ag,rfl,rfl⟩,b_⟩
def BX{H:ad}{ok ok':Nat->Prop}(a:bz)(cs:List aa)(h:c6.V H ok a cs):c6.V H ok' a cs:=h
section
variable {H:ad}{ok ok':Nat->Prop}
def NT{n:Nat}(aS:n<=1000000000):W (aC P ax 133 [.aB,.int .i64 n] H) λr H'=>bG c6 H.next bH H' [] r/\ay H H':=by
 refine bZ (λ_=>TN 0) ?_;have h:¬(n:Int)<0:=ai;have d:∀H0,a2 P H0 .cap [53] [.aB]=D (.int .i64 0):=λH0=>ag
 have g:∀H0,a2 P H0 .len [53] [.aB]=D (.int .i64 0):=λH0=>ag
 have w0:IntKind.i64.wrap ((0:Int)-0)=0:=b_;have q:IntKind.i64.wrap ((n:Int)-0)=(n:Int):=by rw[wrap_i64 ai ai];omega
 by_cases k:n=0
 ·subst k;have f:¬(0:Int)>0:=b_;have t:IntKind.i64.wrap (((0:Nat):Int)-0)=0:=b_;simp-implicitDefEqProofs(disch:=try exact al)only[oI,oJ,oK,bf,aq,aG,decide_false,d,g,w0,Int.lt_irrefl,Int.ofNat_zero];exact aK.2 ⟨bG.nil c6 _ _ _,.refl _⟩
 ·have f:(0:Int)<(n:Int):=ai;have o:fX P 53 .aB I (D (.int .i64 0)) I=D .aB:=ag;have pp:=ay.push H (.row Z 4 (List.replicate n [.int .i64 0,.int .i64 0,.int .i64 0,.int .i64 0]));have j:=ad.bq H (.row Z 4 (List.replicate n [.int .i64 0,.int .i64 0,.int .i64 0,.int .i64 0]));have ap:cS P H [53,3] .aB (.int .i64 (n:Nat))=D (.aJ H.next 0 n 4 I,H.push (.row Z 4 (List.replicate n [.int .i64 0,.int .i64 0,.int .i64 0,.int .i64 0]))):=by
   have u:P.underlying 53=D (.slice 56):=ag;have i64:p3 P 3=true:=ag;have b:cD P 56=D 4:=ag;have s:j7 P 56=D 32:=ag;have z3:e1 P 56=D (.agg [.int .i64 0,.int .i64 0,.int .i64 0,.int .i64 0]):=ag;have aA:0<n/\(aa.agg [.int .i64 0,.int .i64 0,.int .i64 0,.int .i64 0]).cells.length=4/\0<4/\(aa.agg [.int .i64 0,.int .i64 0,.int .i64 0,.int .i64 0]).cells.all aa.one=C/\n*32<=140737488355328/\n<=1125899906842624:=⟨ai,rfl,b_,rfl,ai,ai⟩;simp only[cS,u,i64,if_true,vz,b,s,z3];show(if _ then _ else _)=_;rw[if_pos aA];rfl
  have p:fX P 53 (.aJ H.next 0 n 4 I) I (D (.int .i64 0)) I=D (.aJ H.next 0 0 4 I):=by
   have u:P.underlying 53=D (.slice 56):=ag;have b:cD P 56=D 4:=ag;simp[fX,u,b,eK]
  simp-implicitDefEqProofs(disch:=try exact al)only[oI,oJ,oK,bf,aq,aG,h,decide_false,d,g,w0,q,f,decide_true,o,p,ap];refine aK.2 ⟨⟨.inr ⟨H.next,_,I,rfl,trivial,j,by simp,.inl rfl,λi a l=>by simp at l⟩,λL m c e=>by cases e;exact b4 _⟩,pp⟩
def bG.Dc{B:Nat}{H1:ad}{l m:List bz}{v w:aa}(h:bG c6 B bH H1 l v)(d:B<=H1.next)(hm:aZ c6 H1 ok m w)(az:l.length+m.length<=1000000000):
  ∃a H',cS P H1 [53,53] v w=D (a,H')/\bG c6 B bH H' (l++m) a/\dt B H1 H':=by
 obtain⟨a,H',b,c,a3,_,_⟩:=h.app g4 d ((hm.zm g4).plain (okE':=λ_=>False) BX) (λ_ _ h=>h.elim) (λ_ _ _ _=>trivial) (ok':=bH) trivial az;exact⟨a,H',b,c,a3⟩
def aZ.wM{l:List (List bz)}{v:aa}(h:aZ (cQ c6) H ok l v){j:Int}{a:List bz}(b:0<=j)(c:l[j.toNat]? =D a):∃p w,a6 P 198 v (J X j)=D p/\aj P H 53 p=D w/\aZ c6 H ok a w:=by
 obtain⟨p,cs,d,e,w,rfl,f⟩:=aZ.val (K:=cQ c6) Fb ag h b c;exact⟨p,w,d,e,f⟩
def LL{b c:List bz}{v:aa}(h:aZ (cQ c6) H ok [b,c] v)(S:b.length+c.length<=1000000000):W (aC P ax 79 [v] H) λr H'=>bG c6 H.next bH H' (b++c) r/\ay H H':=by
 refine bZ (λ_=>U5 3) ?_;have lv:∀H0,a2 P H0 .len [198] [v]=D (J X 2):=λH0=>by rw[h.len Fb];rfl
 obtain⟨V,O,i1,i2,i3⟩:=h.wM (j:=0) (a:=b) ai rfl;obtain⟨ab,Q,B,G,L⟩:=h.wM (j:=1) (a:=c) ai rfl;have cP:∀H0,a2 P H0 .len [53] [O]=D (J X b.length):=λH0=>i3.len g4
 have N:∀H0,a2 P H0 .len [53] [Q]=D (J X c.length):=λH0=>L.len g4
 have o:IntKind.i64.wrap ((0:Int)+(b.length:Int))=((b.length:Nat):Int):=by rw[wrap_i64 ai ai];omega
 have p:IntKind.i64.wrap ((b.length:Int)+(c.length:Int))=((b.length+c.length:Nat):Int):=by rw[wrap_i64 ai ai];omega
 have q:¬((b.length:Nat):Int)<0:=ai;have s:¬((b.length+c.length:Nat):Int)<0:=ai;have i:IntKind.i64.wrap ((0:Int)+1)=1:=b_;have k:IntKind.i64.wrap ((1:Int)+1)=2:=b_;have d0:(0:Int)<2:=b_;have d1:(1:Int)<2:=b_;have d2:¬(2:Int)<2:=b_;simp-implicitDefEqProofs(disch:=try exact al)only[rT,rX,yb,rV,o_,bf,aq,aG,lv,i1,i2,B,G,cP,N,o,p,q,s,i,k,d0,d1,d2,decide_true,decide_false];refine bk (NT ai) ?_;rintro g H1 ⟨t,d⟩;refine⟨d.1,?_⟩;have u:H.next<=H1.next:=d.1
 have ae:=h.below.aI d;obtain⟨Y,af,x,z,A⟩:=ae.wM (j:=0) (a:=b) ai rfl;obtain⟨v2,f,x1,x2,e⟩:=t.Dc u A (by simp;omega);have ah:=ae.hP e;obtain⟨ad,ag,E,K,M⟩:=ah.wM (j:=1) (a:=c) ai rfl;have w:H.next<=f.next:=by have:=e.1;omega
 obtain⟨v3,n,R,l,m⟩:=x2.Dc w M (by simp;omega);have T:H1.next<=f.next:=e.1
 have U:f.next<=n.next:=m.1
 simp-implicitDefEqProofs(disch:=try exact al)only[rW,ya,rU,bf,aq,aG,lv,x,z,E,K,x1,R,i,k,d0,d1,d2,decide_true,decide_false];rw[List.nil_append]at l;exact aK.2 ⟨l,((er d (b4 _)).trans e).trans m⟩
end
end
section
open Go.bp
def DV{α β:Type}{f:α->List β}{n:Nat}:∀{l:List α},(∀a∈l,(f a).length<=n)->(l.flatMap f).length<=n*l.length
 |[],_=>by simp
 |a::l,h=>by
  have ae:=h a (by simp);have ah:=DV (f:=f) (n:=n) (l:=l) λb c=>h b (by simp[c])
  simp only[List.flatMap_cons,List.length_append,List.length_cons];rw[Nat.mul_succ];omega
def Dm{x:bQ}(a:dL x):∀{cs:List b3} {f:Nat},(∀(j:Nat) (c:b3),cs[j]? =D c->x.o[f+j]? =D c)->(h2 x cs f).length<=7*eR cs
 |[],_,_=>by simp[h2,eR]
 |c::cs,f,h=>by
  have aA:jr x f c:=⟨a,by simpa using h 0 c rfl⟩;have ae:(sB x f c).length<=7*c.ins.length:=DV λi d=>zG (aA.ok.ins d) a
  have ah:=Dm a (cs:=cs) (f:=f+1) λj b e=>by
   have:=h (j+1) b (by simpa using e);rwa[show f+(j+1)=f+1+j by omega]at this
  simp only[h2,eR,List.length_append];omega
def zi{x:bQ}(a:right x=C):(cons x).length<=17500:=by
 have ae:=Dm (je a) (cs:=x.o) (f:=0) λj c h=>by simpa using h
 have ah:=tk a;unfold cons;omega
def IQ:∀{l r:List Nat},bC l=bC r->l=r
 |[],[],_=>rfl
 |[],b::r,h=>by simp[bC]at h
 |a::l,[],h=>by simp[bC]at h
 |a::l,b::r,h=>by
  simp only[bC,List.map_cons,List.cons.injEq]at h;have ae:a=b:=ai;rw[ae,IQ (l:=l) (r:=r) h.2]
def ZU(l:Nat){v w:aa}(a:v.one=C)(hw:w.one=C):cv P l 198 2 [(0,v),(1,w)]=D (.aJ l 0 2 1 (D 2),.row Z 1 [[v],[w]]):=by
 have u:P.underlying 198=D (.slice 53):=ag;have e:cD P 53=D 1:=ag;have z3:e1 P 53=D .aB:=ag;have c:=dG a;have d:=dG hw;have b:aa.aB.cells=[aa.aB]:=rfl;have on:aa.aB.one=true:=rfl;simp[cv,u,e,z3,jB,c,d,b,a,hw,on,List.replicate]
section
variable {H:ad}{ok:Nat->Prop}{x:bQ}
def K6{n:Nat}{a b c:aa}(d:aa.beq a a=C)(e:aa.beq b b=C)(aA:aa.beq c c=C):aV (D (.agg (bW n a b c))) (.agg (bW n a b c))=true:=by
 simp[aV,bW,aa.beq,eE.beq,d,e,aA]
def C8(T:right x=C){V lv:aa}{zX zC:Nat}{p:Nat}(aR:(dR (cL x) x.sites.length (cons x) (p+1)).of=(dR (cL x) x.sites.length (cons x) p).of)(aS:∀j,j<p->(dR (cL x) x.sites.length (cons x) (j+1)).of≠(dR (cL x) x.sites.length (cons x) j).of)
  {cs:List aa} (aN:V= .agg cs) (be:zX+1<zC) {N:Nat}:∀(q i:Nat) (H:ad) (af:aa),i<=p->p<i+q->c2 H (· <zX) x V->H.get zX=D (.row Z 5 [cs])->aZ c6 H (· <zC) (cons x) lv->(∃r,H.get (zX+1)=D (.row Z 4 [r])/\r.length=4)->(∃n a b c,af= .agg (bW n a b c)/\H.get zC=D (.row Z 4 [bW n a b c]))->nO H (λq=>zX<=q/\q≠zC) (dR (cL x) x.sites.length (cons x) i) af->
  W (o6 (aC P ax) N q (.ptr zX 0 0) (.ptr (zX+1) 0 0) lv (.ptr zC 0 0) H) λr H'=>nO H' (λL=>zX<=L) (dR (cL x) x.sites.length (cons x) (p+1)) r/\dt zX H H'
 |0,i,_,_,bg,a8,_,_,_,_,_,_=>ai
 |q+1,i,H,af,bg,a8,aD,aT,av,⟨bv,aF,aU⟩,⟨n,a,b,c,a5,bP⟩,bf=>by
  have aL:=je T;have bE:=aL.sites;subst a5;obtain⟨ck,b',k,aA,ae,ah,ak,au⟩:=bf;simp only[aa.agg.injEq,bW,List.cons.injEq,aa.int.injEq,and_true,true_and]at aA;obtain⟨a6,rfl,rfl,rfl⟩:=aA;obtain rfl:n=(dR (cL x) x.sites.length (cons x) i).count:=by exact_mod_cast a6
  have bB:=ad.b6 bP;have bz:=zi T;have bu:=K6 (n:=(dR (cL x) x.sites.length (cons x) i).count) ae.rd ah.rd ak.rd;have he:=ox (cL x) x.sites.length (cons x) i;have bi:=pO (cL x) x.sites.length (cons x) i;have bh:dR (cL x) x.sites.length (cons x) (i+1)=bp.merge (da (cL x) x.sites.length (cons x++gn (gT (cL x) x.sites.length (cons x) i) x.sites.length)) x.sites.length:=rfl;obtain⟨_,ag,a0,u,v,d0,aE,am,an,ao,ap⟩:=aD;have aD:c2 H (· <zX) x V:=⟨_,ag,a0,u,v,d0,aE,am,an,ao,ap⟩;have a7:cs=[a0,u,v,d0,J X x.main]:=by rw[aN]at ag;cases ag;exact aE
  subst a7;have bt:aV (D (.agg [a0,u,v,d0,J X x.main])) (.agg [a0,u,v,d0,J X x.main])=true:=by simp[aV,aa.beq,eE.beq,am.rd,an.rd,ao.rd,ap.rd]
  generalize aQ:dR (cL x) x.sites.length (cons x) i=aW at*;simp-implicitDefEqProofs(disch:=try exact al)only[o6,xN,aq,ko bP];refine bk (Ki he ai bi ⟨a,b,c,rfl,ae,ah,ak,au⟩) ?_;rintro G H1 ⟨aY,Q⟩;refine⟨Q.1,?_⟩;generalize bx:gT (cL x) x.sites.length (cons x) i=R at*;have Y:=ay.push H1 (.row Z 1 [[lv],[G]]);have a9:=ad.bq H1 (.row Z 1 [[lv],[G]]);have aP:(gn R x.sites.length).length=x.sites.length:=by simp[gn]
  have two:aZ (cQ c6) (H1.push (.row Z 1 [[lv],[G]])) bH [cons x,gn R x.sites.length] (.aJ H1.next 0 2 1 (D 2)):=by
   refine .inr (.inl ⟨H1.next,0,D 2,Z,_,rfl,trivial,a9,by simp,λj y M=> ?_⟩)
   match j,M with
   |0,M=>cases M;exact⟨[lv],rfl,lv,rfl,((av.aI Q).aI Y).any⟩
   |1,M=>cases M;exact⟨[G],rfl,G,rfl,(aY.aJ.aI Y).any⟩
  simp-implicitDefEqProofs(disch:=try exact al)only[aq,ZU _ av.one aY.aJ.one];refine bk (LL two (by rw[aP];omega)) ?_;rintro g0 B ⟨bl,a3⟩;refine⟨a3.1,?_⟩;have U:=(Q.trans Y).trans a3;have ba:=Q.get aT;have bb:=(Q.trans Y).get aT;have aH:=U.get aT;simp-implicitDefEqProofs(disch:=try exact al)only[aq,ch aH];have wf:e0 (cL x) x.sites.length (cons x++gn R x.sites.length):=Jk (vO aL) (Jj he _ _);have bj:c2 H (· <zX) x (.agg [a0,u,v,d0,J X x.main]):=⟨_,rfl,a0,u,v,d0,rfl,am,an,ao,ap⟩;refine bk (Fi T (bj.keep (.aI U)) wf (by rw[List.length_append,aP];omega) bl.aJ) ?_;rintro _ f ⟨⟨ck,b',k,rfl,t,w,A,a1⟩,a4⟩
  refine⟨a4.1,?_⟩;rw[<-bh]at t w A ⊢;generalize K:dR (cL x) x.sites.length (cons x) (i+1)=d at*;have bw:∀(q:aa->ad->O),cA f [J X 0,.aB,.aB,.aB] q=q (.ptr f.next 0 0) (f.push (.row Z 4 [bW 0 .aB .aB .aB])):=λq=>by rw[kQ,kR];rfl
  have bs:=ad.bq f (.row Z 4 [bW 0 .aB .aB .aB]);have nJ:bA P (f.push (.row Z 4 [bW 0 .aB .aB .aB])) 33 (.ptr f.next 0 0) (.agg (bW d.count ck b' k))=D (f.push (.row Z 4 [bW d.count ck b' k])):=by
   rw[kO bs rfl t.one w.one A.one,ad.jd]
  have ab:=ay.push f (.row Z 4 [bW d.count ck b' k]);have S:=ad.bq f (.row Z 4 [bW d.count ck b' k]);have a2:=U.trans a4;have l:=a2.trans ab;have ar:=l.get bP;simp only[bw,nJ];rw[pk (by simp)];have bo:f.next<(f.push (.row Z 4 [bW d.count ck b' k])).next:=by simp
  have br:zC<f.next:=by have:=a2.1;omega
  obtain⟨E,bd⟩:∃E,E=f.next:=⟨_,rfl⟩
  rw[<-bd]at S bo br ⊢;generalize f.push (.row Z 4 [bW d.count ck b' k])=m at*;have i1:=t.aI ab;have hlen:(bC d.of).length<=1000000000:=by
   have e:=pO (cL x) x.sites.length (cons x) (i+1);rw[K]at e;rw[e];simp[bC];omega
  simp-implicitDefEqProofs(disch:=try exact al)only[aq,aO,aM,ko bP,bu,ch aT,ch ba,ch bb,ch aH,bt,g2 S,g2 ar];refine fu (LV i1 (ae.aI l) hlen) ?_;have bD:zC<B.next:=by have:=U.1;omega
  by_cases e:i=p
  ·subst e;have aj:bC d.of=bC aW.of:=by rw[<-K,<-aQ,aR]
   have aG:=l.get aF;have az:=kO (n:=d.count) aG aU t.one w.one A.one;have bn:=ad.b6 aG;have a_:(m.set (zX+1) (.row Z 4 [bW d.count ck b' k])).get (zX+1)=D (.row Z 4 [bW d.count ck b' k]):=ad.dA bn;have o:∀q,q≠zX+1->(m.set (zX+1) (.row Z 4 [bW d.count ck b' k])).get q=m.get q:=λq a8=>ad.cW (Ne.symm a8)
   simp-implicitDefEqProofs(disch:=try exact al)only[aq,aj,decide_true,ko S,az,ko a_];have s:eB f (λL=>B.next<=L) (m.set (zX+1) (.row Z 4 [bW d.count ck b' k])) (λL=>zX<=L):=λq b (a8:B.next<=q) g=>⟨show zX<=q by omega,by rw[o q ai];exact ab.get g⟩
   rw[K];exact aK.2 ⟨⟨_,_,_,rfl,t.keep s,w.keep s,A.keep s,a1⟩,by have:=l.1;simpa using this,λq a8=>by rw[o q ai,l.2 q ai]⟩
  ·have aj:bC d.of≠bC aW.of:=λh=>aS i ai (by
    rw[K,aQ];exact IQ h)
   have az:=kO (n:=d.count) (a:=ck) (b:=b') (c:=k) ar rfl t.one w.one A.one;have bm:=ad.b6 ar;have o:∀q,q≠zC->(m.set zC (.row Z 4 [bW d.count ck b' k])).get q=m.get q:=λq a8=>ad.cW (Ne.symm a8)
   simp-implicitDefEqProofs(disch:=try exact al)only[aq,aj,decide_false,ko S,az];have aX:∀{aw:Nat->Prop},(∀q,aw q->q≠zC)->eB H aw (m.set zC (.row Z 4 [bW d.count ck b' k])) aw:=λbc q b a8 g=>⟨a8,by rw[o q (bc q a8)];exact l.get g⟩
   have s:eB f (λL=>B.next<=L) (m.set zC (.row Z 4 [bW d.count ck b' k])) (λq=>zX<=q/\q≠zC):=λq b (a8:B.next<=q) g=>⟨show zX<=q/\q≠zC by omega,by rw[o q ai];exact ab.get g⟩
   refine(C8 T aR aS aN be q (i+1) _ (.agg (bW d.count ck b' k)) ai ai (aD.keep (aX λq (a8:q<zX)=>ai)) (by rw[o zX ai];exact l.get aT) (av.keep (aX λq (a8:q<zC)=>ai)) ⟨bv,by rw[o _ ai];exact l.get aF,aU⟩ ⟨_,_,_,_,rfl,ad.dA bm⟩ ?_).mono λr H' z=>⟨z.1,⟨by have:=z.2.1;have:=l.1;simp at*;omega,λq a8=>by rw[z.2.2 q a8,o q ai,l.2 q ai]⟩⟩
   rw[K];exact⟨_,_,_,rfl,t.keep s,w.keep s,A.keep s,a1⟩
def Lu(i:right x=C){V:aa}(aD:c2 H ok x V):W (aC P ax 36 [V] H) λr H'=>nO H' (λL=>H.next<=L) (bp.hk x) r/\ay H H':=by
 have E:=je i;have aG:=E.sites;obtain⟨G,aF,ab,af,ag⟩:=Bw (cL x) x.sites.length (cons x);have s:=aD;obtain⟨_,rfl,a,b,cc,d,rfl,ae,ah,ak,au⟩:=aD;refine bZ (λ_=>UR (G+1)) ?_;obtain⟨zX,h⟩:∃zX,zX=H.next:=⟨_,rfl⟩
 have ao:=ay.push H (.row Z 5 [[a,b,cc,d,J X x.main]]);have S:=ad.bq H (.row Z 5 [[a,b,cc,d,J X x.main]]);have M:=ay.push (H.push (.row Z 5 [[a,b,cc,d,J X x.main]])) (.row Z 4 [bW 0 .aB .aB .aB]);have B:=ad.bq (H.push (.row Z 5 [[a,b,cc,d,J X x.main]])) (.row Z 4 [bW 0 .aB .aB .aB]);have o:=M.get S;have N:(H.push (.row Z 5 [[a,b,cc,d,J X x.main]])).next=zX+1:=by rw[h];simp
 have ar:∀(k:aa->ad->O),cA (H.push (.row Z 5 [[a,b,cc,d,J X x.main]])) [J X 0,.aB,.aB,.aB] k=k (.ptr (zX+1) 0 0) ((H.push (.row Z 5 [[a,b,cc,d,J X x.main]])).push (.row Z 4 [bW 0 .aB .aB .aB])):=λk=>by rw[kQ,kR,N];rfl
 rw[N]at B;rw[<-h]at o;simp only[rD,dZ ae ah ak au,lK,ar,<-h];have l:=ao.trans M;generalize U:(H.push (.row Z 5 [[a,b,cc,d,J X x.main]])).push (.row Z 4 [bW 0 .aB .aB .aB])=Q at*;have aH:Q.next=zX+2:=by rw[<-U];simp[h]
 simp-implicitDefEqProofs(disch:=try exact al)only[aq,ch o];refine bk (LB i (s.aI l)) ?_;rintro lv n ⟨K,m⟩;refine⟨m.1,?_⟩;have an:=l.trans m;have T:=m.get o;simp-implicitDefEqProofs(disch:=try exact al)only[aq,ch T];have aE:=zi i;refine bk (Fi i (s.aI an) (vO E) ai K.aJ) ?_;rintro _ c ⟨⟨ck,b',e,rfl,u,v,w,am⟩,p⟩;refine⟨p.1,?_⟩;have aj:dR (cL x) x.sites.length (cons x) 0=bp.merge (da (cL x) x.sites.length (cons x)) x.sites.length:=rfl;rw[<-aj]at u v w ⊢;generalize Y:dR (cL x) x.sites.length (cons x) 0=f at*;have av:∀(q:aa->ad->O),cA c [J X 0,.aB,.aB,.aB] q=q (.ptr c.next 0 0) (c.push (.row Z 4 [bW 0 .aB .aB .aB])):=λq=>by rw[kQ,kR];rfl
 have ap:=ad.bq c (.row Z 4 [bW 0 .aB .aB .aB]);have nJ:bA P (c.push (.row Z 4 [bW 0 .aB .aB .aB])) 33 (.ptr c.next 0 0) (.agg (bW f.count ck b' e))=D (c.push (.row Z 4 [bW f.count ck b' e])):=by
  rw[kO ap rfl u.one v.one w.one,ad.jd]
 have A:=ay.push c (.row Z 4 [bW f.count ck b' e]);have R:=ad.bq c (.row Z 4 [bW f.count ck b' e]);have j:=(m.trans p).trans A;simp only[av,nJ];rw[pk (by simp)];have az:zX+2<=n.next:=by have:=m.1;omega
 have aA:n.next<=c.next:=p.1
 refine(C8 i ab af rfl (zX:=zX) (zC:=c.next) ai (G+1) 0 _ (.agg (bW f.count ck b' e)) ai ai (h▸s.keep λq b a8 g=>⟨ad.b6 g,(l.trans j).get g⟩) (j.get o) ((K.aJ.below.aI (p.trans A)).keep (.le λL aw=>ai)) ⟨_,j.get B,rfl⟩ ⟨_,_,_,_,rfl,R⟩ ?_).mono λr H' z=>⟨?_,⟨by have:=z.2.1;have:=(l.trans j).1;omega,λq a8=>by rw[z.2.2 q ai,(l.trans j).2 q a8]⟩⟩
 ·rw[Y];have t:eB c (λL=>n.next<=L) (c.push (.row Z 4 [bW f.count ck b' e])) (λq=>zX<=q/\q≠c.next):=λq b (a8:n.next<=q) g=>⟨show zX<=q/\q≠c.next by have:=ad.b6 g;omega,A.get g⟩
  exact⟨_,_,_,rfl,u.keep t,v.keep t,w.keep t,am⟩
 ·have:=z.1;unfold bp.hk;rw[ag];exact this
end
end
section
open Go.bp
section
variable {H:ad}{ok ok':Nat->Prop}
end
end
section
open Go.bp
structure po(n m:Nat)(k:bp.eg):Prop where
 fe:k.fields.length=k.count
 f8:∀f∈k.fields,f.length=8
 Db:k.count<=m
 FM:k.of.length=m
 nl:k.nodes.length=n
 lt:∀c∈k.of,c<k.count
def Ly(n m:Nat)(l:List bz):po n m (bp.merge (da n m l) m):=by
 refine⟨by simp[bp.merge,jW],λf aN=> ?_,Gy _ _,by simp[bp.merge,jW],by simp[bp.merge,jW,da,gl],λc aA=> ?_⟩
 ·simp only[bp.merge,jW,List.mem_map]at aN;obtain⟨r,_,rfl⟩:=aN;simp
 ·simp only[bp.merge,jW,List.mem_map,List.mem_range]at aA;obtain⟨s,a,rfl⟩:=aA;exact Da (cH.g0 _).eqv a
def Lx(x:bQ):po (cL x) x.sites.length (bp.hk x):=by
 obtain⟨k,_,_,_,h⟩:=Bw (cL x) x.sites.length (cons x);unfold bp.hk;rw[h];exact Ly _ _ _
section
variable {H:ad}{ep:Nat}{a b cc d ov nv fv gv sa:aa}{sX:Int}{n:Nat}
end
end
section
open Go.bp
section
variable {H:ad}{ok:Nat->Prop}
def aZ.Dd{l:List b3}{v:aa}(h:aZ fr H ok l v){j:Int}{g:b3}(b:0<=j)(c:l[j.toNat]? =D g):∃L n gv gw,a6 P 24 v (J X j)=D (.ptr L n 0)/\(∀H',ay H H'->aj P H' 3 (.ptr L n 0)=D (J X g.params)/\aj P H' 23 (.ptr L n 1)=D gv/\aj P H' 47 (.ptr L n 6)=D gw)/\aZ ei H ok g.vars gv/\aZ e7 H ok g.ins gw:=by
 obtain⟨L,n,ro,els,cs,d,i,e,f,gv,gw,rfl,b8,cg⟩:=aZ.at_ (K:=fr) c0 h b c;refine⟨L,n,gv,gw,d,λH' p=> ?_,b8,cg⟩;have a:=p.get e;refine⟨?_,?_,?_⟩<;>(rw[fB ag a f];rfl)
variable {x:bQ}
