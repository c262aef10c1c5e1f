/-
  Texts of one proof, laid together: ShD SgF Pa Pb Pc.
-/
import Derived.Test.YtmhhnnklfcbgfaaGreatMM
set_option linter.unusedVariables false
set_option linter.unusedSimpArgs false
set_option linter.defProp false
open Option renaming some→D,none→I
open Bool renaming true→C,false→Z
open Go.bo.aa renaming int→J,bool→y
open Go.IntKind renaming i64→X
namespace Go.Proofs.YtmhhnnklfcbgfaaGreat
open Go.bo
section
set_option maxRecDepth 100000
noncomputable section
def nA(G:an)(N:Nat)(a:aa)(H:ad):O:=af (cr a) λb=>af (av P 196 b 5) λc=>af (aj P H 53 c) λx50=>D (x50,H)
def Zc(G:an)(N:Nat):∀R H,aX P G N (j (j (j (j (bb Tryz.f77))))) (aR Tryz.f77) [] (aR Tryz.f77) R H=nA G N (R 3) H:=by
 refine bj (aw _) λR H=> ?_
 delta nA;kernel_rfl
def nB(G:an)(N:Nat)(L1:aa->aa->aa->aa->ad->O)(d a:aa)(b c:aa)(H:ad):O:=af (ar P .add 3 C c (J X 1)) λe=>L1 d a b e H
def Zd(G:an)(N:Nat)(L1:aa->aa->aa->aa->ad->O):∀R H,aX P G N (j (j (j (aE (aE (j (aE (j (j (j (bb Tryz.f77))))))))))) (λR H=>L1 (R 3) (R 20) (R 21) (R 22) H) [(0,(λR H=>nA G N (R 3) H))] (aR Tryz.f77) R H=nB G N L1 (R 3) (R 20) (R 21) (R 22) H:=by
 refine bj (aw _) λR H=> ?_
 delta nB;kernel_rfl
def u_(G:an)(N:Nat)(L1:aa->aa->aa->aa->ad->O)(h:aa->aa->aa->aa->aa->aa->aa->ad->O)(a c:aa)(d e:aa)(f g b:aa)(H:ad):O:=af (ar P .lss 3 Z b g) λi=>aP (D i) (af (a6 P 47 f b) λj=>af (aj P H 89 j) λk=>cA H [J X 0,J X 0,J X 0,J X 0,J X 0,aa.aB] λx7 ae=>bY ae (bA P ae 89 x7 k) λah=>af (aj P ah 89 x7) λl=>aU ah (G 129 [a,l] ah) λn ak=>af (ar P .add 3 C b (J X 1)) λm=>h a c d e f g m ak) (nB G N L1 a c d e H)
def nD(G:an)(N:Nat)(L1:aa->aa->aa->aa->ad->O):Nat->aa->aa->aa->aa->aa->aa->aa->ad->O
 |0,_,_,_,_,_,_,_,_=>I
 |n+1,d,a,b,c,e,f,g,H=>u_ G N L1 (nD G N L1 n) d a b c e f g H
def Zb(G:an)(N:Nat)(L1:aa->aa->aa->aa->ad->O)(b:aa->aa->aa->aa->aa->aa->aa->ad->O):∀R H,aX P G N (aE (aE (j (j (j (aE (aE (j (j (aE (aE (j (aE (j (j (j (bb Tryz.f77))))))))))))))))) (λR H=>b (R 3) (R 20) (R 21) (R 22) (R 36) (R 37) (R 38) H) [(2,(λR H=>nB G N L1 (R 3) (R 20) (R 21) (R 22) H)),(1,(λR H=>nB G N L1 (R 3) (R 20) (R 21) (R 22) H)),(0,(λR H=>nA G N (R 3) H))] (aR Tryz.f77) R H=u_ G N L1 b (R 3) (R 20) (R 21) (R 22) (R 36) (R 37) (R 38) H:=by
 refine bj (aw _) λR H=> ?_
 delta u_;generalize nB G N L1=a;revert a;refine id ?_;intro a;kernel_rfl
def u9(G:an)(N:Nat)(L1:aa->aa->aa->aa->ad->O)(b d:aa)(e a:aa)(H:ad):O:=af (ar P .lss 3 Z a e) λg=>aP (D g) (af (a6 P 24 d a) λh=>af (aj P H 49 h) λi=>cA H [J X 0,aa.aB,y Z,J X 0,J X 0,J X 0,aa.aB] λx5 ae=>bY ae (bA P ae 49 x5 i) λah=>af (cr b) λj=>af (av P 196 j 2) λk=>bY ah (bA P ah 3 k a) λak=>af (aj P ak 49 x5) λc=>af (cr b) λl=>af (av P 196 l 0) λm=>bY ak (bA P ak 49 m c) λau=>bif ((aV (aj P ah 49 x5) c&&(aV (aj P ak 49 x5) c&&C))&&C)then(af (av P 49 x5 4) λn=>af (aj P au 47 n) λf=>bf P .len [47] [f] au λo=>nD G N L1 N b d e a f o (J X 0) au)else I) (nA G N b H)
def nC(G:an)(N:Nat):Nat->aa->aa->aa->aa->ad->O
 |0,_,_,_,_,_=>I
 |n+1,d,a,b,c,H=>u9 G N (nC G N n) d a b c H
def Za(G:an)(N:Nat)(L1:aa->aa->aa->aa->ad->O):∀R H,aX P G N (aE (aE (j (aE (j (j (j (bb Tryz.f77)))))))) (λR H=>L1 (R 3) (R 20) (R 21) (R 22) H) [(0,(λR H=>nA G N (R 3) H))] (aR Tryz.f77) R H=u9 G N L1 (R 3) (R 20) (R 21) (R 22) H:=by
 refine bj ((aF ag ((aF ag ((aF ag (Zd G N L1) ((bX ag ((aF ag ((aF ag ((aF ag ((bX ag ((cj (k:=λm R H=>nD G N L1 m (R 3) (R 20) (R 21) (R 22) (R 36) (R 37) (R 38) H) ag (λR H=>ag) (λm=>Zb G N L1 (nD G N L1 m)))))) (aw _))) (aw _))) (aw _))))))) (aw _))) (aw _))) λR H=> ?_
 delta u9;generalize nA G N=a;generalize nD G N L1 N=b;revert a b;refine id ?_;intro a b;kernel_rfl
def rR(G:an)(N:Nat)(f:aa)(H:ad):O:=bx H (b0 (H).next f) λx1 ae=>af (aj P ae 27 x1) λx8=>aU ae (G 35 [x8] ae) λl ah=>af (dg .not l) λx10=>aP (D x10) (D (aa.aB,ah)) (af (aj P ah 27 x1) λx11=>aU ah (G 127 [x11] ah) λx12 ak=>af (aj P ak 27 x1) λd=>aU ak (G 128 [d] ak) λg au=>af (av P 27 x1 2) λa=>af (aj P au 24 a) λb=>af (c7 P 196 [(1,x12),(3,g),(4,b)]) λh=>bx au (b0 (au).next h) λi c=>bif ((aV (aj P ah 27 x1) d&&(aV (aj P ak 27 x1) d&&C))&&((aV (aj P ah 24 a) b&&(aV (aj P ak 24 a) b&&(aV (aj P au 24 a) b&&C)))&&C))then(af (av P 27 x1 2) λj=>af (aj P c 24 j) λe=>bf P .len [24] [e] c λk=>nC G N N i e k (J X 0) c)else I)
def H7(G:an)(N:Nat)(b:aa)(H:ad):bd Tryz.f77 G N (bO [b]) H=rR G N b H:=by
 refine bR (A:=bd Tryz.f77 G N) ((aF ag ((aF ag ((aF ag ((aF ag (Zc G N) ((aF ag ((bX ag ((cj (k:=λm R H=>nC G N m (R 3) (R 20) (R 21) (R 22) H) ag (λR H=>ag) (λm=>Za G N (nC G N m)))))) (aw _))))) (aw _))) (aw _))) (aw _))) ?_;delta rR;generalize nC G N N=a;revert a;refine id ?_;intro a;kernel_rfl
def U3(N:Nat){a:aa}{H:ad}{r:aa×ad}(h:rR (aC P ax) N a H=D r):aC P ax 77 [a] H=D r:=
 cp ag Tryz.func77 ag ag ag ((H7 (aC P ax) N a H).trans h)
def yc(G:an)(o x1:aa)(H:ad):O:=bx H (b0 (H).next o) λx2 ae=>af (aj P ae 27 x2) λx5=>aU ae (G 35 [x5] ae) λx6 ah=>af (dg .not x6) λx7=>ao x7 Z ah (bw x1) λv ak=>ao x7 Z ak (aH (ar P .lss 3 C v (J X 0))) λx10 au=>af (ba x7 (D (y C)) (D x10)) λx11=>ao x11 Z au (bw x1) λp m=>ao x11 Z m (aH (av P 27 x2 1)) λr g=>ao x11 Z g (qr (aj P g 23 r)) λi h=>ao x11 Z h (λq=>cx (a2 P .empty .len [23] [i]) (a2 P h .len [23] [i]) q) λs n=>ao x11 Z n (aH (ar P .geq 3 Z p s)) λt a=>af (ba x11 (D (y C)) (D t)) λu=>aP (D u) (D ((J X (-1)),a)) (af (aj P a 27 x2) λj=>aU a (G 128 [j] a) λk b=>af (av P 27 x2 2) λe=>af (aj P b 24 e) λc=>cx (a2 P .empty .len [24] [c]) (a2 P b .len [24] [c]) λd=>af (ar P .add 3 Z k d.val) λl=>af (ar P .add 3 Z l x1) λf=>bif eH [0,1,0,4,12,31,0,127,255] [0,1,5,7,8] [⟨0,.read j,λH=>aj P H 27 x2⟩,⟨1,.cF k b,λH=>I⟩,⟨2,.pure e,λH=>I⟩,⟨3,.read c,λH=>aj P H 24 e⟩,⟨4,d,λH=>a2 P H .len [24] [c]⟩,⟨5,.pure l,λH=>I⟩,⟨6,.pure x1,λH=>I⟩,⟨7,.pure f,λH=>I⟩,⟨8,.pure f,λH=>I⟩] a then(D (f,(d.heap b)))else I)
def Zn(G:an)(N:Nat)(a:aa)(x1:aa)(H:ad):bd Tryz.f84 G N (bO [a,x1]) H=yc G a x1 H:=by
 refine bR (A:=bd Tryz.f84 G N) (aw _) ?_;delta yc;kernel_rfl
def yd(G:an)(h x1:aa)(H:ad):O:=bx H (b0 (H).next h) λx2 ae=>af (aj P ae 27 x2) λx5=>aU ae (G 35 [x5] ae) λx6 ah=>af (dg .not x6) λx7=>ao x7 Z ah (bw x1) λr ak=>ao x7 Z ak (aH (ar P .lss 3 C r (J X 0))) λx10 au=>af (ba x7 (D (y C)) (D x10)) λx11=>ao x11 Z au (bw x1) λi f=>ao x11 Z f (aH (av P 27 x2 2)) λj b=>ao x11 Z b (qr (aj P b 24 j)) λd c=>ao x11 Z c (λq=>cx (a2 P .empty .len [24] [d]) (a2 P c .len [24] [d]) q) λk g=>ao x11 Z g (aH (ar P .geq 3 Z i k)) λl a=>af (ba x11 (D (y C)) (D l)) λm=>aP (D m) (D ((J X (-1)),a)) (af (aj P a 27 x2) λn=>aU a (G 128 [n] a) λo e=>af (ar P .add 3 Z o x1) λp=>D (p,e))
def Zo(G:an)(N:Nat)(a:aa)(x1:aa)(H:ad):bd Tryz.f85 G N (bO [a,x1]) H=yd G a x1 H:=by
 refine bR (A:=bd Tryz.f85 G N) (aw _) ?_;delta yd;kernel_rfl
def yj(G:an)(A x1 x2:aa)(H:ad):O:=bx H (b0 (H).next A) λd ae=>af (aj P ae 27 d) λx7=>aU ae (G 35 [x7] ae) λx8 ah=>af (dg .not x8) λf=>ao f Z ah (bw x1) λx11 ak=>ao f Z ak (aH (ar P .lss 3 C x11 (J X 0))) λx12 au=>af (ba f (D (y C)) (D x12)) λb=>ao b Z au (bw x1) λB w=>ao b Z w (aH (av P 27 d 2)) λE k=>ao b Z k (qr (aj P k 24 E)) λm l=>ao b Z l (λq=>cx (a2 P .empty .len [24] [m]) (a2 P l .len [24] [m]) q) λK x=>ao b Z x (aH (ar P .geq 3 Z B K)) λL z=>af (ba b (D (y C)) (D L)) λe=>ao e Z z (bw x2) λM o=>ao e Z o (aH (ar P .lss 3 C M (J X 0))) λN p=>af (ba e (D (y C)) (D N)) λa=>ao a Z p (bw x2) λQ r=>ao a Z r (aH (av P 27 d 2)) λR g=>ao a Z g (qr (aj P g 24 R)) λS s=>ao a Z s (bw x1) λT t=>ao a Z t (aH (a6 P 24 S T)) λU u=>ao a Z u (aH (av P 49 U 1)) λV h=>ao a Z h (qr (aj P h 23 V)) λn i=>ao a Z i (λq=>cx (a2 P .empty .len [23] [n]) (a2 P i .len [23] [n]) q) λW v=>ao a Z v (aH (ar P .geq 3 Z Q W)) λY c=>af (ba a (D (y C)) (D Y)) λab=>aP (D ab) (D ((J X (-1)),c)) (af (aj P c 27 d) λag=>aU c (G 127 [ag] c) λai j=>af (a6 P 30 ai x1) λal=>af (aj P j 3 al) λam=>af (ar P .add 3 Z am x2) λap=>D (ap,j))
def Zv(G:an)(N:Nat)(a:aa)(x1:aa)(x2:aa)(H:ad):bd Tryz.f98 G N (bO [a,x1,x2]) H=yj G a x1 x2 H:=by
 refine bR (A:=bd Tryz.f98 G N) (aw _) ?_;delta yj;kernel_rfl
def qo(G:an)(N:Nat)(a:aa)(H:ad):O:=some (a,H)
def VK(G:an)(N:Nat):∀R H,aX P G N (j (j (j (bb Tryz.f127)))) (aR Tryz.f127) [] (aR Tryz.f127) R H=qo G N (R 3) H:=by
 refine bj (aw _) λR H=> ?_
 delta qo;kernel_rfl
def tz(G:an)(N:Nat)(L1:aa->aa->aa->aa->ad->O)(a x8:aa)(m x10:aa)(H:ad):O:=af (ar P .lss 3 Z x10 m) λx11=>aP (D x11) (af (a6 P 24 x8 x10) λx12=>af (aj P H 49 x12) λn=>cA H [J X 0,aa.aB,y Z,J X 0,J X 0,J X 0,aa.aB] λx5 ae=>bY ae (bA P ae 49 x5 n) λah=>cx (a2 P .empty .len [30] [a]) (a2 P ah .len [30] [a]) λc=>af (ar P .sub 3 C c.val (J X 1)) λi=>af (a6 P 30 a i) λf=>af (aj P (c.heap ah) 3 f) λj=>af (av P 49 x5 1) λg=>af (aj P (c.heap ah) 23 g) λe=>cx (a2 P .empty .len [23] [e]) (a2 P (c.heap ah) .len [23] [e]) λd=>af (ar P .add 3 Z j d.val) λk=>vp (d.heap (c.heap ah)) (cv P ((d.heap (c.heap ah))).next 30 1 [(0,k)]) λl b ak=>aU ak (cS P ak [30,30] a l) λh au=>bif eH [0,0,0,4,12,30,62,0,128,384,1022,2046,4095,8191] [1,2,3,4,5,6,7,8,9,10,11,12,13] [⟨0,.pure a,λH=>I⟩,⟨1,.pure a,λH=>I⟩,⟨2,.pure a,λH=>I⟩,⟨3,c,λH=>a2 P H .len [30] [a]⟩,⟨4,.pure i,λH=>I⟩,⟨5,.pure f,λH=>I⟩,⟨6,.read j,λH=>aj P H 3 f⟩,⟨7,.pure g,λH=>I⟩,⟨8,.read e,λH=>aj P H 23 g⟩,⟨9,d,λH=>a2 P H .len [23] [e]⟩,⟨10,.pure k,λH=>I⟩,⟨11,.new l b,λH=>I⟩,⟨12,.cF h au,λH=>I⟩,⟨13,.pure h,λH=>I⟩] ah then(af (ar P .add 3 C x10 (J X 1)) λo=>L1 h x8 m o au)else I) (qo G N a H)
def mq(G:an)(N:Nat):Nat->aa->aa->aa->aa->ad->O
 |0,_,_,_,_,_=>I
 |n+1,a,x8,b,x10,H=>tz G N (mq G N n) a x8 b x10 H
def VJ(G:an)(N:Nat)(L1:aa->aa->aa->aa->ad->O):∀R H,aX P G N (aE (aE (j (aE (j (j (bb Tryz.f127))))))) (λR H=>L1 (R 3) (R 8) (R 9) (R 10) H) [(0,(λR H=>qo G N (R 3) H))] (aR Tryz.f127) R H=tz G N L1 (R 3) (R 8) (R 9) (R 10) H:=by
 refine bj (aw _) λR H=> ?_
 delta tz;generalize qo G N=a;revert a;refine id ?_;intro a;kernel_rfl
def qn(G:an)(N:Nat)(a:aa)(H:ad):O:=bx H (b0 (H).next a) λx1 ae=>bx ae (D (.aJ (ae).next 0 1 1 (D 1),.row Z 1 [[J X 0]])) λx6 ah=>af (av P 27 x1 2) λx7=>af (aj P ah 24 x7) λx8=>bf P .len [24] [x8] ah λb=>mq G N N x6 x8 b (J X 0) ah
def GU(G:an)(N:Nat)(b:aa)(H:ad):bd Tryz.f127 G N (bO [b]) H=qn G N b H:=by
 refine bR (A:=bd Tryz.f127 G N) ((aF ag ((aF ag ((aF ag (VK G N) ((aF ag ((bX ag ((cj (k:=λm R H=>mq G N m (R 3) (R 8) (R 9) (R 10) H) ag (λR H=>ag) (λm=>VJ G N (mq G N m)))))) (aw _))))) (aw _))) (aw _))) ?_;delta qn;generalize mq G N N=a;revert a;refine id ?_;intro a;kernel_rfl
def TH(N:Nat){a:aa}{H:ad}{r:aa×ad}(h:qn (aC P ax) N a H=D r):aC P ax 127 [a] H=D r:=
 cp ag Tryz.func127 ag ag ag ((GU (aC P ax) N a H).trans h)
def qp(G:an)(d:aa)(H:ad):O:=bx H (b0 (H).next d) λx1 ae=>af (aj P ae 27 x1) λc=>aU ae (G 127 [c] ae) λx4 ah=>af (av P 27 x1 2) λx5=>af (aj P ah 24 x5) λx6=>cx (a2 P .empty .len [24] [x6]) (a2 P ah .len [24] [x6]) λa=>af (a6 P 30 x4 a.val) λx8=>af (aj P (a.heap ah) 3 x8) λb=>bif eH [0,1,0,4,12,31,63,127] [0,1,5,6,7] [⟨0,.read c,λH=>aj P H 27 x1⟩,⟨1,.cF x4 ah,λH=>I⟩,⟨2,.pure x5,λH=>I⟩,⟨3,.read x6,λH=>aj P H 24 x5⟩,⟨4,a,λH=>a2 P H .len [24] [x6]⟩,⟨5,.pure x8,λH=>I⟩,⟨6,.read b,λH=>aj P H 3 x8⟩,⟨7,.pure b,λH=>I⟩] ae then(D (b,(a.heap ah)))else I
def GV(G:an)(N:Nat)(a:aa)(H:ad):bd Tryz.f128 G N (bO [a]) H=qp G a H:=by
 refine bR (A:=bd Tryz.f128 G N) (aw _) ?_;delta qp;kernel_rfl
def TI(N:Nat){a:aa}{H:ad}{r:aa×ad}(h:qp (aC P ax) a H=D r):aC P ax 128 [a] H=D r:=
 cp ag Tryz.func128 ag ag ag ((GV (aC P ax) N a H).trans h)
def qu(G:an)(f:aa)(H:ad):O:=bx H (b0 (H).next f) λx1 ae=>af (aj P ae 27 x1) λg=>aU ae (G 35 [g] ae) λx4 ah=>af (dg .not x4) λx5=>aP (D x5) (D ((J X 0),ah)) (af (aj P ah 27 x1) λx6=>aU ah (G 128 [x6] ah) λx7 ak=>af (av P 27 x1 2) λx8=>af (aj P ak 24 x8) λc=>cx (a2 P .empty .len [24] [c]) (a2 P ak .len [24] [c]) λa=>af (ar P .add 3 Z x7 a.val) λx11=>af (av P 27 x1 1) λx12=>af (aj P (a.heap ak) 23 x12) λb=>cx (a2 P .empty .len [23] [b]) (a2 P (a.heap ak) .len [23] [b]) λd=>af (ar P .add 3 Z x11 d.val) λe=>bif eH [0,1,0,4,12,31,0,64,192,511,1023] [0,1,5,9,10] [⟨0,.read x6,λH=>aj P H 27 x1⟩,⟨1,.cF x7 ak,λH=>I⟩,⟨2,.pure x8,λH=>I⟩,⟨3,.read c,λH=>aj P H 24 x8⟩,⟨4,a,λH=>a2 P H .len [24] [c]⟩,⟨5,.pure x11,λH=>I⟩,⟨6,.pure x12,λH=>I⟩,⟨7,.read b,λH=>aj P H 23 x12⟩,⟨8,d,λH=>a2 P H .len [23] [b]⟩,⟨9,.pure e,λH=>I⟩,⟨10,.pure e,λH=>I⟩] ah then(D (e,(d.heap (a.heap ak))))else I)
def GY(G:an)(N:Nat)(a:aa)(H:ad):bd Tryz.f131 G N (bO [a]) H=qu G a H:=by
 refine bR (A:=bd Tryz.f131 G N) (aw _) ?_;delta qu;kernel_rfl
def TL(N:Nat){a:aa}{H:ad}{r:aa×ad}(h:qu (aC P ax) a H=D r):aC P ax 131 [a] H=D r:=
 cp ag Tryz.func131 ag ag ag ((GY (aC P ax) N a H).trans h)
def jh(G:an)(a b:aa)(x5 W:aa)(H:ad):O:=aP (D W) (af (av P 89 b 1) λk=>af (aj P H 3 k) λl=>aU H (G 170 [a,l] H) λm ae=>af (av P 89 b 4) λc=>af (aj P ae 3 c) λd=>aU ae (G 169 [a,J X 1,m,d,J X 0] ae) λY ah=>bif ((aV (aj P H 3 c) d&&(aV (aj P ae 3 c) d&&C))&&C)then(D (.tuple [],ah))else I) (af (ar P .eql 3 C x5 (J X 13)) λn=>aP (D n) (af (aj P H 89 b) λo=>aU H (G 171 [a,o] H) λab ae=>D (.tuple [],ae)) (af (ar P .eql 3 C x5 (J X 18)) λp=>aP (D p) (af (av P 89 b 1) λq=>af (aj P H 3 q) λr=>aU H (G 172 [a,r] H) λs ae=>aP (D s) (af (cr a) λt=>af (av P 196 t 2) λu=>af (aj P ae 3 u) λv=>aU ae (G 173 [a,v] ae) λw ah=>af (av P 89 b 1) λe=>af (aj P ah 3 e) λf=>aU ah (G 170 [a,f] ah) λx ak=>aU ak (G 169 [a,J X 2,w,x,J X 0] ak) λag au=>bif ((aV (aj P ae 3 e) f&&(aV (aj P ah 3 e) f&&C))&&C)then(D (.tuple [],au))else I) (D (.tuple [],ae))) (af (ar P .eql 3 C x5 (J X 19)) λz=>aP (D z) (af (av P 89 b 1) λA=>af (aj P H 3 A) λB=>aU H (G 172 [a,B] H) λE ae=>aP (D E) (af (av P 89 b 1) λx51=>af (aj P ae 3 x51) λx52=>aU ae (G 170 [a,x52] ae) λK ah=>af (av P 89 b 4) λg=>af (aj P ah 3 g) λh=>aU ah (G 174 [a,h] ah) λL ak=>aU ak (G 169 [a,J X 2,K,L,J X 0] ak) λai au=>bif ((aV (aj P ae 3 g) h&&(aV (aj P ah 3 g) h&&C))&&C)then(D (.tuple [],au))else I) (D (.tuple [],ae))) (af (ar P .eql 3 C x5 (J X 20)) λM=>aP (D M) (af (av P 89 b 1) λN=>af (aj P H 3 N) λQ=>aU H (G 172 [a,Q] H) λR ae=>aP (D R) (af (av P 89 b 4) λS=>af (aj P ae 3 S) λT=>aU ae (G 174 [a,T] ae) λU ah=>af (av P 89 b 1) λi=>af (aj P ah 3 i) λj=>aU ah (G 170 [a,j] ah) λV ak=>aU ak (G 169 [a,J X 2,U,V,J X 0] ak) λal au=>bif ((aV (aj P ae 3 i) j&&(aV (aj P ah 3 i) j&&C))&&C)then(D (.tuple [],au))else I) (D (.tuple [],ae))) (af (aj P H 89 b) λx7=>aU H (G 175 [a,x7] H) λx8 ae=>D (.tuple [],ae))))))
def VL(G:an)(N:Nat):∀R H,aX P G N (j (aE (j (j (bb Tryz.f129))))) (aR Tryz.f129) [(0,(aR Tryz.f129))] (aR Tryz.f129) R H=jh G (R 0) (R 3) (R 5) (R 9) H:=by
 refine bj (aw _) λR H=> ?_
 delta jh;kernel_rfl
def qq(G:an)(b x1:aa)(H:ad):O:=bx H (b0 (H).next x1) λa ae=>af (av P 89 a 0) λx4=>af (aj P ae 3 x4) λx5=>af (ar P .eql 3 C x5 (J X 11)) λx10=>aP (D x10) (jh G b a x5 x10 ae) (af (ar P .eql 3 C x5 (J X 12)) λx11=>jh G b a x5 x11 ae)
def GW(G:an)(N:Nat)(b:aa)(x1:aa)(H:ad):bd Tryz.f129 G N (bO [b,x1]) H=qq G b x1 H:=by
 refine bR (A:=bd Tryz.f129 G N) ((aF ag ((aF ag ((bX ag ((aF ag (VL G N) (aw _))))) (aw _))) (aw _))) ?_;delta qq;generalize jh G=a;revert a;refine id ?_;intro a;kernel_rfl
def TJ(N:Nat){a x1:aa}{H:ad}{r:aa×ad}(h:qq (aC P ax) a x1 H=D r):aC P ax 129 [a,x1] H=D r:=
 cp ag Tryz.func129 ag ag ag ((GW (aC P ax) N a x1 H).trans h)
def qA(G:an)(a x1:aa)(x2 i x4:aa)(H:ad):O:=af (cr a) λx12=>af (av P 196 x12 5) λb=>af (aj P H 53 b) λc=>af (c7 P 56 [(0,x1),(1,x2),(2,i),(3,x4)]) λd=>bx H (cv P (H).next 53 1 [(0,d)]) λe ae=>aU ae (cS P ae [53,53] c e) λf ah=>af (cr a) λg=>af (av P 196 g 5) λh=>bY ah (bA P ah 53 h f) λak=>D (.tuple [],ak)
def G4(G:an)(N:Nat)(a:aa)(x1:aa)(x2:aa)(b:aa)(x4:aa)(H:ad):bd Tryz.f169 G N (bO [a,x1,x2,b,x4]) H=qA G a x1 x2 b x4 H:=by
 refine bR (A:=bd Tryz.f169 G N) (aw _) ?_;delta qA;kernel_rfl
def TS(N:Nat){a x1 x2 b x4:aa}{H:ad}{r:aa×ad}(h:qA (aC P ax) a x1 x2 b x4 H=D r):aC P ax 169 [a,x1,x2,b,x4] H=D r:=
 cp ag Tryz.func169 ag ag ag ((G4 (aC P ax) N a x1 x2 b x4 H).trans h)
def qB(G:an)(a x1:aa)(H:ad):O:=af (cr a) λx6=>af (av P 196 x6 1) λx7=>af (aj P H 30 x7) λx8=>af (cr a) λx10=>af (av P 196 x10 2) λx11=>af (aj P H 3 x11) λx12=>af (a6 P 30 x8 x12) λb=>af (aj P H 3 b) λc=>af (ar P .add 3 Z c x1) λd=>D (d,H)
def G5(G:an)(N:Nat)(a:aa)(x1:aa)(H:ad):bd Tryz.f170 G N (bO [a,x1]) H=qB G a x1 H:=by
 refine bR (A:=bd Tryz.f170 G N) (aw _) ?_;delta qB;kernel_rfl
def TT(N:Nat){a x1:aa}{H:ad}{r:aa×ad}(h:qB (aC P ax) a x1 H=D r):aC P ax 170 [a,x1] H=D r:=
 cp ag Tryz.func170 ag ag ag ((G5 (aC P ax) N a x1 H).trans h)
def mI(G:an)(N:Nat)(a b:aa)(H:ad):O:=af (av P 89 b 1) λe=>af (aj P H 3 e) λf=>aU H (G 172 [a,f] H) λg ae=>aP (D g) (af (av P 89 b 1) λh=>af (aj P ae 3 h) λi=>aU ae (G 170 [a,i] ae) λj ah=>af (av P 89 b 3) λc=>af (aj P ah 3 c) λd=>aU ah (G 173 [a,d] ah) λk ak=>aU ak (G 169 [a,J X 2,j,k,J X 0] ak) λl au=>bif ((aV (aj P ae 3 c) d&&(aV (aj P ah 3 c) d&&C))&&C)then(D (.tuple [],au))else I) (D (.tuple [],ae))
def WJ(G:an)(N:Nat):∀R H,aX P G N (j (j (bb Tryz.f171))) (aR Tryz.f171) [] (aR Tryz.f171) R H=mI G N (R 0) (R 3) H:=by
 refine bj (aw _) λR H=> ?_
 delta mI;kernel_rfl
def oL(G:an)(N:Nat)(L1:aa->aa->aa->aa->aa->ad->O)(a b:aa)(x7 x8 d:aa)(H:ad):O:=af (ar P .add 3 C d (J X 1)) λc=>L1 a b x7 x8 c H
def WK(G:an)(N:Nat)(L1:aa->aa->aa->aa->aa->ad->O):∀R H,aX P G N (j (j (j (aE (aE (j (aE (j (bb Tryz.f171))))))))) (λR H=>L1 (R 0) (R 3) (R 7) (R 8) (R 9) H) [(0,(λR H=>mI G N (R 0) (R 3) H))] (aR Tryz.f171) R H=oL G N L1 (R 0) (R 3) (R 7) (R 8) (R 9) H:=by
 refine bj (aw _) λR H=> ?_
 delta oL;kernel_rfl
def ue(G:an)(N:Nat)(L1:aa->aa->aa->aa->aa->ad->O)(a c:aa)(x7 x8 b:aa)(H:ad):O:=af (ar P .lss 3 Z b x8) λx10=>aP (D x10) (af (a6 P 30 x7 b) λx12=>af (aj P H 3 x12) λj=>aU H (G 172 [a,j] H) λk ae=>aP (D k) (aU ae (G 170 [a,j] ae) λn ah=>af (cr a) λl=>af (av P 196 l 1) λd=>af (aj P ah 30 d) λe=>af (av P 89 c 3) λf=>af (aj P ah 3 f) λg=>af (a6 P 30 e g) λh=>af (aj P ah 3 h) λi=>af (ar P .add 3 Z i b) λm=>aU ah (G 169 [a,J X 2,m,n,J X 0] ah) λo ak=>bif ((aV (aj P ae 30 d) e&&(aV (aj P ah 30 d) e&&C))&&((aV (aj P ae 3 f) g&&(aV (aj P ah 3 f) g&&C))&&((aV (aj P ae 3 h) i&&(aV (aj P ah 3 h) i&&C))&&C)))then(oL G N L1 a c x7 x8 b ak)else I) (oL G N L1 a c x7 x8 b ae)) (mI G N a c H)
def mJ(G:an)(N:Nat):Nat->aa->aa->aa->aa->aa->ad->O
 |0,_,_,_,_,_,_=>I
 |n+1,a,b,x7,x8,c,H=>ue G N (mJ G N n) a b x7 x8 c H
def WI(G:an)(N:Nat)(L1:aa->aa->aa->aa->aa->ad->O):∀R H,aX P G N (aE (aE (j (aE (j (bb Tryz.f171)))))) (λR H=>L1 (R 0) (R 3) (R 7) (R 8) (R 9) H) [(0,(λR H=>mI G N (R 0) (R 3) H))] (aR Tryz.f171) R H=ue G N L1 (R 0) (R 3) (R 7) (R 8) (R 9) H:=by
 refine bj ((aF ag ((aF ag ((aF ag (WK G N L1) (aw _))) (aw _))) (aw _))) λR H=> ?_
 delta ue;generalize mI G N=a;generalize oL G N L1=b;revert a b;refine id ?_;intro a b;kernel_rfl
def qC(G:an)(N:Nat)(b x1:aa)(H:ad):O:=bx H (b0 (H).next x1) λa ae=>af (av P 89 a 5) λx6=>af (aj P ae 30 x6) λx7=>bf P .len [30] [x7] ae λx8=>mJ G N N b a x7 x8 (J X 0) ae
def G6(G:an)(N:Nat)(b:aa)(x1:aa)(H:ad):bd Tryz.f171 G N (bO [b,x1]) H=qC G N b x1 H:=by
 refine bR (A:=bd Tryz.f171 G N) ((aF ag ((aF ag (WJ G N) ((aF ag ((bX ag ((cj (k:=λm R H=>mJ G N m (R 0) (R 3) (R 7) (R 8) (R 9) H) ag (λR H=>ag) (λm=>WI G N (mJ G N m)))))) (aw _))))) (aw _))) ?_;delta qC;generalize mJ G N N=a;revert a;refine id ?_;intro a;kernel_rfl
def TV(N:Nat){a x1:aa}{H:ad}{r:aa×ad}(h:qC (aC P ax) N a x1 H=D r):aC P ax 171 [a,x1] H=D r:=
 cp ag Tryz.func171 ag ag ag ((G6 (aC P ax) N a x1 H).trans h)
def oM(G:an)(f x1:aa)(H:ad):O:=af (ar P .geq 3 C x1 (J X 0)) λx6=>ao x6 C H (bw f) λx8 ae=>ao x6 C ae (aH (cr x8)) λl ah=>ao x6 C ah (aH (av P 196 l 0)) λx10 ak=>ao x6 C ak (aH (av P 49 x10 1)) λx11 au=>ao x6 C au (qr (aj P au 23 x11)) λx12 c=>ao x6 C c (bw x1) λg d=>ao x6 C d (aH (a6 P 23 x12 g)) λh b=>ao x6 C b (qr (aj P b 46 h)) λi a=>ao x6 C a (λq=>b9 a (G 125 [i] a) q) λj e=>af (ba x6 (D j) (D (y Z))) λk=>D (k,e)
def G7(G:an)(N:Nat)(a:aa)(x1:aa)(H:ad):bd Tryz.f172 G N (bO [a,x1]) H=oM G a x1 H:=by
 refine bR (A:=bd Tryz.f172 G N) (aw _) ?_;delta oM;kernel_rfl
def TW(N:Nat){a x1:aa}{H:ad}{r:aa×ad}(h:oM (aC P ax) a x1 H=D r):aC P ax 172 [a,x1] H=D r:=
 cp ag Tryz.func172 ag ag ag ((G7 (aC P ax) N a x1 H).trans h)
def qD(G:an)(a x1:aa)(H:ad):O:=af (cr a) λx6=>af (av P 196 x6 3) λx7=>af (aj P H 3 x7) λx8=>af (ar P .add 3 Z x8 x1) λx10=>D (x10,H)
def G8(G:an)(N:Nat)(a:aa)(x1:aa)(H:ad):bd Tryz.f173 G N (bO [a,x1]) H=qD G a x1 H:=by
 refine bR (A:=bd Tryz.f173 G N) (aw _) ?_;delta qD;kernel_rfl
def TX(N:Nat){a x1:aa}{H:ad}{r:aa×ad}(h:qD (aC P ax) a x1 H=D r):aC P ax 173 [a,x1] H=D r:=
 cp ag Tryz.func173 ag ag ag ((G8 (aC P ax) N a x1 H).trans h)
def qE(G:an)(a x1:aa)(H:ad):O:=af (cr a) λx6=>af (av P 196 x6 3) λx7=>af (aj P H 3 x7) λx8=>af (cr a) λx10=>af (av P 196 x10 4) λx11=>af (aj P H 24 x11) λx12=>bf P .len [24] [x12] H λb=>af (ar P .add 3 Z x8 b) λc=>af (ar P .add 3 Z c x1) λd=>D (d,H)
def G9(G:an)(N:Nat)(a:aa)(x1:aa)(H:ad):bd Tryz.f174 G N (bO [a,x1]) H=qE G a x1 H:=by
 refine bR (A:=bd Tryz.f174 G N) (aw _) ?_;delta qE;kernel_rfl
def TY(N:Nat){a x1:aa}{H:ad}{r:aa×ad}(h:qE (aC P ax) a x1 H=D r):aC P ax 174 [a,x1] H=D r:=
 cp ag Tryz.func174 ag ag ag ((G9 (aC P ax) N a x1 H).trans h)
def qF(G:an)(b x1:aa)(H:ad):O:=bx H (b0 (H).next x1) λa ae=>af (av P 89 a 0) λx5=>af (aj P ae 3 x5) λx6=>af (ar P .eql 3 C x6 (J X 3)) λx7=>ao x7 C ae (bw b) λa9 ah=>ao x7 C ah (aH (av P 89 a 1)) λx10 ak=>ao x7 C ak (qr (aj P ak 3 x10)) λx11 au=>ao x7 C au (λq=>b9 au (G 172 [a9,x11] au) q) λx12 k=>af (ba x7 (D x12) (D (y Z))) λam=>aP (D am) (af (av P 89 a 1) λap=>af (aj P k 3 ap) λaq=>aU k (G 170 [b,aq] k) λaw l=>af (av P 89 a 2) λM=>af (aj P l 3 M) λN=>aU l (G 170 [b,N] l) λax s=>aU s (G 169 [b,J X 2,aw,ax,J X 0] s) λbh t=>bif ((aV (aj P k 3 M) N&&(aV (aj P l 3 M) N&&C))&&C)then(D (.tuple [],t))else I) (af (av P 89 a 0) λay=>af (aj P k 3 ay) λaz=>af (ar P .eql 3 C az (J X 6)) λu=>ao u C k (bw b) λaA l=>ao u C l (aH (av P 89 a 1)) λaC s=>ao u C s (qr (aj P s 3 aC)) λaD t=>ao u C t (λq=>b9 t (G 172 [aA,aD] t) q) λaE h=>af (ba u (D aE) (D (y Z))) λaF=>aP (D aF) (af (av P 89 a 1) λaG=>af (aj P h 3 aG) λaI=>aU h (G 170 [b,aI] h) λaK c=>af (av P 89 a 2) λQ=>af (aj P c 3 Q) λR=>aU c (G 170 [b,R] c) λaL d=>af (av P 89 a 3) λA=>af (aj P d 3 A) λB=>aU d (G 169 [b,J X 3,aK,aL,B] d) λbi m=>bif ((aV (aj P h 3 Q) R&&(aV (aj P c 3 Q) R&&C))&&((aV (aj P h 3 A) B&&(aV (aj P c 3 A) B&&(aV (aj P d 3 A) B&&C)))&&C))then(D (.tuple [],m))else I) (af (av P 89 a 0) λaM=>af (aj P h 3 aM) λaN=>af (ar P .eql 3 C aN (J X 8)) λv=>ao v C h (bw b) λx51 c=>ao v C c (aH (av P 89 a 1)) λx52 d=>ao v C d (qr (aj P d 3 x52)) λaO m=>ao v C m (λq=>b9 m (G 172 [x51,aO] m) q) λaQ i=>af (ba v (D aQ) (D (y Z))) λaR=>aP (D aR) (af (av P 89 a 1) λaS=>af (aj P i 3 aS) λaT=>aU i (G 170 [b,aT] i) λaW j=>af (av P 89 a 2) λS=>af (aj P j 3 S) λT=>aU j (G 170 [b,T] j) λaX n=>aU n (G 169 [b,J X 3,aW,aX,J X 0] n) λbj o=>bif ((aV (aj P i 3 S) T&&(aV (aj P j 3 S) T&&C))&&C)then(D (.tuple [],o))else I) (af (av P 89 a 0) λaY=>af (aj P i 3 aY) λaZ=>af (ar P .eql 3 C aZ (J X 7)) λw=>ao w C i (bw b) λa0 j=>ao w C j (aH (av P 89 a 2)) λa1 n=>ao w C n (qr (aj P n 3 a1)) λa2 o=>ao w C o (λq=>b9 o (G 172 [a0,a2] o) q) λa3 e=>af (ba w (D a3) (D (y Z))) λa4=>aP (D a4) (af (av P 89 a 1) λa5=>af (aj P e 3 a5) λa6=>aU e (G 170 [b,a6] e) λa7 f=>af (av P 89 a 2) λU=>af (aj P f 3 U) λV=>aU f (G 170 [b,V] f) λa8 g=>af (av P 89 a 3) λE=>af (aj P g 3 E) λK=>aU g (G 169 [b,J X 4,a7,a8,K] g) λx87 p=>bif ((aV (aj P e 3 U) V&&(aV (aj P f 3 U) V&&C))&&((aV (aj P e 3 E) K&&(aV (aj P f 3 E) K&&(aV (aj P g 3 E) K&&C)))&&C))then(D (.tuple [],p))else I) (af (av P 89 a 0) λx89=>af (aj P e 3 x89) λa_=>af (ar P .eql 3 C a_ (J X 9)) λx=>ao x C e (bw b) λbb f=>ao x C f (aH (av P 89 a 3)) λbc g=>ao x C g (qr (aj P g 3 bc)) λbd p=>ao x C p (λq=>b9 p (G 172 [bb,bd] p) q) λbe r=>af (ba x (D be) (D (y Z))) λbf=>aP (D bf) (af (av P 89 a 1) λab=>af (aj P r 3 ab) λag=>aU r (G 170 [b,ag] r) λai z=>af (av P 89 a 3) λx104=>af (aj P z 3 x104) λL=>aU z (G 170 [b,L] z) λal W=>aU W (G 169 [b,J X 4,ai,al,J X 0] W) λbg Y=>bif ((aV (aj P r 3 x104) L&&(aV (aj P z 3 x104) L&&C))&&C)then(D (.tuple [],Y))else I) (D (.tuple [],r))))))
def G_(G:an)(N:Nat)(a:aa)(x1:aa)(H:ad):bd Tryz.f175 G N (bO [a,x1]) H=qF G a x1 H:=by
 refine bR (A:=bd Tryz.f175 G N) (aw _) ?_;delta qF;kernel_rfl
def TZ(N:Nat){a x1:aa}{H:ad}{r:aa×ad}(h:qF (aC P ax) a x1 H=D r):aC P ax 175 [a,x1] H=D r:=
 cp ag Tryz.func175 ag ag ag ((G_ (aC P ax) N a x1 H).trans h)
end
end
end Go.Proofs.YtmhhnnklfcbgfaaGreat
namespace Go.bp
open Go.bo
open Go.bo
open Go.bo
open Go.bo
structure jr(x:bQ)(f:Nat)(c:b3):Prop where
 r:dL x
 at_:x.o[f]? =some c
def jr.ok{x:bQ}{f:Nat}{c:b3}(h:jr x f c):BU x f c:=iV (h.r.code h.at_)
section
variable {x:bQ}{f:Nat}{c:b3}{i:In}
def Z9(h:dw x f c i=C):1<=i.op/\i.op<=20:=by
 unfold dw at h;simp only[Bool.and_eq_true]at h;obtain⟨_,h⟩:=h;split at h<;>first|omega|cases h
def vi(a7:i.op=3)(h:dw x f c i=C):a1 c i.a≠bt/\a1 c i.a=a1 c i.b:=by
 unfold dw at h;simp only[Bool.and_eq_true,a7,decide_eq_true_eq]at h;exact h.2
def vj(a7:i.op=6)(h:dw x f c i=C):a1 c i.a≠bt/\a1 c i.a=dW x (a1 c i.b) i.c:=by
 unfold dw at h;simp only[Bool.and_eq_true,a7,decide_eq_true_eq]at h;exact h.2
def vk(a7:i.op=7)(h:dw x f c i=C):a1 c i.b≠bt/\a1 c i.b=dW x (a1 c i.a) i.c:=by
 unfold dw at h;simp only[Bool.and_eq_true,a7,decide_eq_true_eq]at h;exact h.2
def vl(a7:i.op=8)(h:dw x f c i=C):a1 c i.a≠bt/\0<(a1 c i.b).d/\a1 c i.c=cN/\a1 c i.a=less (a1 c i.b):=by
 unfold dw at h;simp only[Bool.and_eq_true,a7,decide_eq_true_eq]at h;exact h.2
def vm(a7:i.op=9)(h:dw x f c i=C):a1 c i.c≠bt/\0<(a1 c i.a).d/\a1 c i.b=cN/\a1 c i.c=less (a1 c i.a):=by
 unfold dw at h;simp only[Bool.and_eq_true,a7,decide_eq_true_eq]at h;exact h.2
def vg(a7:i.op=11)(h:dw x f c i=C):(a1 c i.a≠bt/\(a1 c i.a).b=3/\(a1 c i.a).d=0)/\gO x f i.n (a1 c i.a)=true:=by
 unfold dw at h;simp only[Bool.and_eq_true,a7,decide_eq_true_eq]at h;exact h.2
def vh(a7:i.op=12)(h:dw x f c i=C):(0<(a1 c i.a).d/\a1 c i.b=cN)/\gO x f i.n (a1 c i.a)=true:=by
 unfold dw at h;simp only[Bool.and_eq_true,a7,decide_eq_true_eq]at h;exact h.2
def pf(a7:i.op=13)(h:dw x f c i=C):∃g,BR x c i g:=by
 unfold dw at h;simp only[Bool.and_eq_true,a7]at h;exact Li h.2
def ID(a7:i.op=18)(h:dw x f c i=C):(c.has=C/\a1 c i.a≠bt/\a1 c i.a=c.res)\/(c.has=Z/\i.a= -1):=by
 unfold dw at h;simp only[Bool.and_eq_true,a7]at h;obtain⟨_,h⟩:=h;cases aA:c.has with
 |true=>rw[aA]at h;simp only[gG,decide_eq_true_eq]at h;exact .inl ⟨rfl,h⟩
 |false=>rw[aA]at h;simp only[jF,beq_iff_eq]at h;exact .inr ⟨rfl,h⟩
def r5(a7:i.op=19)(h:dw x f c i=C):a1 c i.a≠bt/\dE x.globals i.n=D (a1 c i.a):=by
 unfold dw at h;simp only[Bool.and_eq_true,a7,decide_eq_true_eq]at h;exact h.2
def r6(a7:i.op=20)(h:dw x f c i=C):a1 c i.a≠bt/\dE x.globals i.n=D (a1 c i.a):=by
 unfold dw at h;simp only[Bool.and_eq_true,a7,decide_eq_true_eq]at h;exact h.2
def k3{t:cz}(h:0<t.d):t≠bt:=by rintro rfl;revert h;decide
def pV{k:Int}{t:cz}(h:dW x t k≠bt):t≠bt:=by
 rintro rfl;revert h;simp[dW,j0,bt]
def jr.node(w:jr x f c){v:Int}(h:a1 c v≠bt):bE x.o f+v.toNat<cL x:=by
 have:=yB w.at_ (Ax h).2.1;unfold cL;omega
def jr.res(w:jr x f c):fS x f<cL x:=by
 have:=(List.getElem?_eq_some_iff.1 w.at_).1;unfold fS cL;omega
def Ec{t:cz}{n:Int}(h:dE x.globals n=D t):gr x n.toNat<cL x:=by
 have:=(iR h).2.1;unfold gr cL;omega
def Cq{at_ to:Nat}{k:bz}:∀{l:List Int} {j:Nat},k∈fW c at_ to l j->∃(m:Nat) (v:Int),l[m]? =D v/\c8 c v=C/\k= .copy (to+(j+m)) (at_+v.toNat)
 |[],j,h=>by simp[fW]at h
 |v::l,j,h=>by
  simp only[fW,List.mem_append]at h;rcases h with h|h
  ·cases a:c8 c v with
   |true=>
    rw[a]at h;simp only[gG,List.mem_singleton]at h;exact⟨0,v,rfl,a,h⟩
   |false=>rw[a]at h;simp at h
  ·obtain⟨m,w,ae,ah,ak⟩:=Cq h;exact⟨m+1,w,by simpa using ae,ah,by rw[ak];congr 1;omega⟩
def k_{α:Type}{b:Bool}{a k:α}(h:k∈(bif b then[a]else[])):b=C/\k=a:=by
 cases b with
 |true=>exact⟨rfl,by simpa using h⟩
 |false=>simp at h
def jr.abt(w:jr x f c)(h:dw x f c i=C):e0 (cL x) x.sites.length (cK x f c i):=by
 intro k d;unfold cK at d;simp only at d;split at d
 ·rename_i a7;obtain⟨ae,ah⟩:=vi a7 h;obtain⟨_,rfl⟩:=k_ d;exact⟨w.node ae,w.node (ah▸ae)⟩
 ·rename_i a7;obtain⟨ae,ah⟩:=vj a7 h;obtain⟨_,rfl⟩:=k_ d;have ak:dW x (a1 c i.b) i.c≠bt:=ah▸ae;exact⟨w.node ae,w.node (pV ak),(pU w.r ak).2⟩
 ·rename_i a7;obtain⟨ae,ah,_,_⟩:=vl a7 h;obtain⟨_,rfl⟩:=k_ d;exact⟨w.node ae,w.node (k3 ah),by omega⟩
 ·rename_i a7;obtain⟨ae,ah⟩:=vk a7 h;obtain⟨_,rfl⟩:=k_ d;have ak:dW x (a1 c i.a) i.c≠bt:=ah▸ae;exact⟨w.node (pV ak),w.node ae,(pU w.r ak).2⟩
 ·rename_i a7;obtain⟨ae,ah,_,_⟩:=vm a7 h;obtain⟨_,rfl⟩:=k_ d;exact⟨w.node (k3 ah),w.node ae,by omega⟩
 ·rename_i a7;obtain⟨ae,ah⟩:=vg a7 h;simp only[List.mem_singleton]at d;subst d;exact⟨w.node ae.1,(pB ah).2.1⟩
 ·rename_i a7;obtain⟨ae,ah⟩:=vh a7 h;simp only[List.mem_singleton]at d;subst d;exact⟨w.node (k3 ae.1),(pB ah).2.1⟩
 ·rename_i a7;obtain⟨g,e⟩:=pf a7 h;have l:jr x i.c.toNat g:=⟨w.r,e.at_.2⟩;rcases List.mem_append.1 d with d|d
  ·obtain⟨m,v,ae,ah,rfl⟩:=Cq d;obtain⟨ak,au⟩:=e.arg ae;have j:=(List.getElem?_eq_some_iff.1 au).1;have n:=yB e.at_.2 j;refine⟨?_,w.node ak⟩;unfold cL;omega
  ·obtain⟨ae,rfl⟩:=k_ d;simp only[Bool.and_eq_true]at ae;exact⟨w.node (xb ae.2),l.res⟩
 ·rename_i a7;obtain⟨ae,rfl⟩:=k_ d;simp only[Bool.and_eq_true]at ae;exact⟨w.res,w.node (xb ae.2)⟩
 ·rename_i a7;obtain⟨ae,ah⟩:=r5 a7 h;obtain⟨_,rfl⟩:=k_ d;exact⟨w.node ae,Ec ah⟩
 ·rename_i a7;obtain⟨ae,ah⟩:=r6 a7 h;obtain⟨_,rfl⟩:=k_ d;exact⟨Ec ah,w.node ae⟩
 ·simp at d
def zh{k:bz}:∀{cs:List b3} {f:Nat},k∈h2 x cs f->∃j c i,cs[j]? =D c/\i∈c.ins/\k∈cK x (f+j) c i
 |[],f,h=>by simp[h2]at h
 |c::cs,f,h=>by
  simp only[h2,List.mem_append,sB,List.mem_flatMap]at h;rcases h with⟨i,ae,ah⟩|h
  ·exact⟨0,c,i,rfl,ae,ah⟩
  ·obtain⟨j,d,i,ae,ah,ak⟩:=zh h;exact⟨j+1,d,i,by simpa using ae,ah,by rwa[show f+(j+1)=f+1+j by omega]⟩
def vO(b:dL x):e0 (cL x) x.sites.length (cons x):=by
 intro k a;obtain⟨j,c,i,ae,ah,ak⟩:=zh a;rw[Nat.zero_add]at ak;have w:jr x j c:=⟨b,ae⟩;exact w.abt (w.ok.ins ah) k ak
end
end Go.bp
namespace Go.Proofs.YtmhhnnklfcbgfaaGreat
open Go.bo
section
open Go.bp
section
variable {H:ad}{ok:Nat->Prop}{x:bQ}
def sd{a:List Nat}{T:List fa}{H:ad}:∀{S:List fa},(∀H'∈cw T H,ay H H')->(∀t∈S,∀v,t.k= .read v->a.contains t.i=C\/∀H',ay H H'->aV (t.rd H') v=C)->pj a T H S
 |[],_,_=>trivial
 |t::ts,ae,ah=>⟨λv c=>(ah t (by simp) v c).imp id λh H' hm=>h H' (ae H' hm),sd ae λd b=>ah d (by simp[b])⟩
def Js{a:List Nat}{T:List fa}{H:ad}:∀{S:List fa},(∀t∈S,∀v,t.k= .read v->a.contains t.i=C\/False)->pj a T H S
 |[],_=>trivial
 |t::ts,ah=>⟨λv c=>(ah t (by simp) v c).imp id False.elim,Js λd b=>ah d (by simp[b])⟩
def xg(b:dL x){g:b3}(a:g∈x.o):g.vars.length<=4000:=by
 obtain⟨f,aN⟩:=List.getElem?_of_mem a;exact(iV (b.code aN)).vars
def ti(b:dL x):∀g∈x.o,g.vars.length<=1000000000:=λg a=>by have:=xg b a;omega
def wh:∀{cs:List b3} {c:b3},c∈cs->c.ins.length<=eR cs
 |[],_,h=>by simp at h
 |d::cs,c,h=>by
  rw[eR];rcases List.mem_cons.1 h with rfl|h
  ·omega
  ·have:=wh h;omega
def tk(h:right x=C):eR x.o<=2500:=by
 unfold right at h;simp only[Bool.and_eq_true,decide_eq_true_eq]at h;exact h.2.2.2.2.2.1
def tj(h:right x=C):∀c∈x.o,c.ins.length<=1000000000:=λc aA=>by have:=wh aA;have:=tk h;omega
def sb(a:dL x):∀k,bE x.o k<=4000*k
 |0=>by simp[bE]
 |k+1=>by
  have b:=sb a k;rw[bE];cases h:x.o[k]? with
  |none=>simp;omega
  |some c=>have:=xg a (List.mem_of_getElem? h);simp;omega
def kY(a:dL x):ey x.o<=64000:=by
 have:=sb a x.o.length;have:=a.o;unfold ey;omega
def h6(x:bQ)(k:Nat):List Int:=(List.range (k+1)).map λj=>(bE x.o j:Int)
def FA(x:bQ)(k:Nat):(h6 x k).length=k+1:=by simp[h6]
def sY(x:bQ){k j:Nat}(h:j<=k):(h6 x k)[j]? =D (bE x.o j:Int):=by
 unfold h6;rw[List.getElem?_map,List.getElem?_range ai];rfl
def Qz(x:bQ)(k:Nat):h6 x (k+1)=h6 x k++[(bE x.o (k+1):Int)]:=by
 unfold h6;rw[List.range_succ (n:=k+1),List.map_append];rfl
def FC(b:dL x){cc:aa}{B:Nat}{N:Nat}:∀(j k m:Nat) (H:ad) (v:aa),k+j=x.o.length->j<m->bG bu B bH H (h6 x k) v->B<=H.next->aZ fr H (· <B) x.o cc->
  W (mq (aC P ax) N m v cc (J X x.o.length) (J X k) H) λr H'=>bG bu B bH H' (h6 x x.o.length) r/\dt B H H'
 |_,_,0,_,_,_,hm,_,_,_=>ai
 |0,k,m+1,H,v,G,_,az,l,ak=>by
  have d:¬(k:Int)<(x.o.length:Int):=ai;simp-implicitDefEqProofs(disch:=try exact al)only[mq,tz,qo,aq,aG,d,decide_false];have e:k=x.o.length:=ai;subst e;exact aK.2 ⟨az,.refl _ _⟩
 |j+1,k,m+1,H,v,G,V,az,l,ak=>by
  have d:(k:Int)<(x.o.length:Int):=ai;have f:k<x.o.length:=ai;have U:=b.o;obtain⟨pp,gv,gw,M,O,b8,cg⟩:=ak.pP (j:=(k:Int)) (g:=x.o[k]) ai (by simp[f]);have K:bE x.o (k+1)=bE x.o k+x.o[k].vars.length:=BE (by simp[f]);have ab:=xg b (List.getElem_mem f);have Y:=sb b k;have on:=FC b (cc:=cc) (B:=B) (N:=N) j (k+1) m;rw[Qz,K]at on;generalize x.o[k]=c at*;have st:=nK (c:=c) (v:=gv) (w:=gw) (ad.bq H (.row Z 7 [[J X 0,.aB,y Z,J X 0,J X 0,J X 0,.aB]])) b8.one cg.one;have s:=ay.push H (.row Z 7 [ct c gv gw]);have bP:=ad.bq H (.row Z 7 [ct c gv gw]);have L:=gj bP;have n:=az.aI s
  obtain⟨p,i1,i2⟩:=n.aJ.int (j:=(k:Int)) (a:=(bE x.o k:Int)) ai (by simpa using sY x (b4 k));have R:IntKind.i64.wrap (((k+1:Nat):Int)-1)=(k:Int):=by rw[wrap_i64 ai ai];omega
  have S:IntKind.i64.wrap ((bE x.o k:Int)+(c.vars.length:Int))=((bE x.o k+c.vars.length:Nat):Int):=by rw[wrap_i64 ai ai];omega
  have hlen:=az.aJ.len cU (H0:= .empty);rw[FA]at hlen;obtain⟨Q,H',i,t,u,z,_⟩:=n.wj (a:=((bE x.o k+c.vars.length:Nat):Int)) (by simp;omega) (by rw[FA];omega);have hle:((H.push (.row Z 7 [ct c gv gw])).push (.row Z 1 [[J X ((bE x.o k+c.vars.length:Nat):Int)]])).next<=H'.next:=by simp;simp at z;omega
  simp only[jc]at i;simp-implicitDefEqProofs(disch:=try exact al)only[mq,tz,Nat.reduceAdd,aq,aO,aG,aM,ad.ds,d,decide_true,M,O _ (ay.refl _),st,ad.fE,hlen,R,i1,i2,L,b8.len dh,S,eW,i];refine cI (cJ ag ?_) ?_
  ·exact Js (by simp only[List.forall_mem_cons];repeat' first|(intro v q;exact .inl rfl)|(intro v q;cases q;done)|(intro _ h;cases h;done)|refine aL ?_ ?_)
  have pu:dt B H H':=(er s l).trans u;simp-implicitDefEqProofs(disch:=try exact al)only[aq,aG,c3 (show k<=1000000000 by omega)];refine(on H' Q ai ai t (by have:=pu.1;omega) (ak.hP pu)).mono ?_;rintro r T ⟨A,E⟩;exact⟨A,pu.trans E⟩
def FD(t:dL x){V:aa}(aD:c2 H ok x V):W (aC P ax 127 [V] H) λr H'=>bG bu H.next bH H' (h6 x x.o.length) r/\ay H H':=by
 obtain⟨_,rfl,a,b,cc,d,rfl,ae,ah,ak,au⟩:=aD;refine bZ (λ_=>TH (x.o.length+1)) ?_;have u:=ay.push H (.row Z 5 [[a,b,cc,d,J X x.main]]);have p:=ad.bq H (.row Z 5 [[a,b,cc,d,J X x.main]]);have j:=ay.push (H.push (.row Z 5 [[a,b,cc,d,J X x.main]])) (.row Z 1 [[J X 0]]);have f:=u.trans j;simp-implicitDefEqProofs(disch:=try exact al)only[qn,bf,aq,aO,aM,ad.ds,dZ ae ah ak au,dy (j.get p),ak.len c0];have s:bG bu H.next bH ((H.push (.row Z 5 [[a,b,cc,d,J X x.main]])).push (.row Z 1 [[J X 0]])) (h6 x 0) (.aJ (H.next+1) 0 1 1 (D 1)):=⟨.inr ⟨H.next+1,[[J X 0]],D 1,rfl,trivial,ad.bq _ _,by simp[h6],.inr rfl,λi a h=>by
  rcases i with _|i
  ·cases h;exact⟨_,rfl,rfl⟩
  ·simp[h6]at h⟩,λL n c e=>by cases e;omega⟩
 refine(FC t (B:=H.next) x.o.length 0 (x.o.length+1) _ _ ai ai s f.1 (ak.below.keep λk b q g=>⟨q,f.get g⟩)).mono ?_;rintro r v ⟨l,m⟩;exact⟨l,dt.aI ((er f (b4 _)).trans m)⟩
def Ja(i:dL x){V:aa}(aD:c2 H ok x V):W (aC P ax 128 [V] H) λr H'=>r= J X (ey x.o)/\ay H H':=by
 have k:=aD;obtain⟨_,rfl,a,b,cc,d,rfl,ae,ah,ak,au⟩:=aD;refine bZ (λ_=>TI 0) ?_;have f:=ay.push H (.row Z 5 [[a,b,cc,d,J X x.main]]);have e:=ad.bq H (.row Z 5 [[a,b,cc,d,J X x.main]]);simp-implicitDefEqProofs(disch:=try exact al)only[qp,aq,dZ ae ah ak au,ch e];refine bk (FD i (k.aI f)) ?_;rintro nv K ⟨g,p⟩;refine⟨p.1,?_⟩;obtain⟨q,i1,i2⟩:=g.aJ.int (j:=(x.o.length:Int)) (a:=(ey x.o:Int)) ai (by simpa [ey]using sY x (b4 x.o.length));have l:aV (D (.agg [a,b,cc,d,J X x.main])) (.agg [a,b,cc,d,J X x.main])=true:=by simp[aV,aa.beq,eE.beq,ae.rd,ah.rd,ak.rd,au.rd]
 simp-implicitDefEqProofs(disch:=try exact al)only[aq,aO,aM,dy (p.get e),ak.len c0,i1,i2];refine cI (cJ ag ?_) (aK.2 ⟨rfl,f.trans p⟩);refine sd ?_ ?_
 ·simp only[cw,bo.K.heap,List.forall_mem_cons]
  repeat' first|exact ay.refl _|exact p|(intro _ h;cases h;done)|refine aL ?_ ?_
 ·simp only[List.forall_mem_cons]
  repeat' first|(intro v c;cases c;done)|(intro v c;exact .inl rfl)|(intro v c;cases c;refine .inr λH' p=> ?_;simp only[dy (p.get e),eA ak];done)|(intro _ h;cases h;done)|refine aL ?_ ?_
def LO(g:right x=C){V:aa}(aD:c2 H ok x V):W (aC P ax 131 [V] H) λr H'=>r= J X (cL x:Nat)/\ay H H':=by
 have k:=aD;have c:=je g;have s:=kY c;have t:=c.o;have u:=c.globals;obtain⟨_,rfl,a,b,cc,d,rfl,ae,ah,ak,au⟩:=aD;refine bZ (λ_=>TL 0) ?_;have j:=ay.push H (.row Z 5 [[a,b,cc,d,J X x.main]]);have e:=ad.bq H (.row Z 5 [[a,b,cc,d,J X x.main]]);have w:aV (D (.agg [a,b,cc,d,J X x.main])) (.agg [a,b,cc,d,J X x.main])=true:=by simp[aV,aa.beq,eE.beq,ae.rd,ah.rd,ak.rd,au.rd]
 simp-implicitDefEqProofs(disch:=try exact al)only[qu,aq,dZ ae ah ak au,ch e];refine bk (zI (k.aI j) (ti c) (tj g)) ?_;rintro _ K ⟨rfl,p⟩;refine⟨p.1,?_⟩;rw[g];simp-implicitDefEqProofs(disch:=try exact al)only[aq,Bool.not_true,ch (p.get e)];refine bk (Ja c ((k.aI j).aI p)) ?_;rintro _ q ⟨rfl,i⟩;refine⟨i.1,?_⟩;have l:=p.trans i;have m:IntKind.i64.wrap ((ey x.o:Int)+(x.o.length:Int))=((ey x.o+x.o.length:Nat):Int):=by rw[wrap_i64 ai ai];omega
 have n:IntKind.i64.wrap (((ey x.o+x.o.length:Nat):Int)+(x.globals.length:Int))=((cL x:Nat):Int):=by rw[wrap_i64 ai ai,cL];omega
 simp-implicitDefEqProofs(disch:=try exact al)only[aq,aO,aG,aM,dy (l.get e),ak.len c0,ah.len dh,m,n];refine cI (cJ ag ?_) (aK.2 ⟨rfl,j.trans l⟩);refine sd ?_ ?_
 ·simp only[cw,bo.K.heap,List.forall_mem_cons]
  repeat' first|exact ay.refl _|exact i|(intro _ h;cases h;done)|refine aL ?_ ?_
 ·simp only[List.forall_mem_cons]
  repeat' first|(intro v f;cases f;done)|(intro v f;exact .inl rfl)|(intro v f;cases f;refine .inr λH' p=> ?_;simp only[dy (p.get (ay.get ‹_› e)),eA ak,eA ah];done)|(intro _ h;cases h;done)|refine aL ?_ ?_
end
end
section
open Go.bp
def cT:bz->List aa
 | .base a b=>[J X 1,J X (a:Nat),J X (b:Nat),J X 0]
 | .copy a b=>[J X 2,J X (a:Nat),J X (b:Nat),J X 0]
 | .load a b f=>[J X 3,J X (a:Nat),J X (b:Nat),J X (f:Nat)]
 | .store a b f=>[J X 4,J X (a:Nat),J X (b:Nat),J X (f:Nat)]
 | .same a b=>[J X 5,J X (a:Nat),J X (b:Nat),J X 0]
def c6:ej bz:=⟨4,λ_ _ c cs=>cs=cT c,by rintro _ _ c _ rfl;cases c<;>exact⟨rfl,rfl⟩,λ_ h=>h⟩
def g4:eC 53 56 4:=⟨ag,ag,⟨32,ag,b_⟩,⟨.agg [J X 0,J X 0,J X 0,J X 0],ag,rfl,rfl⟩,b_⟩
def gJ(x:bQ)(f:Nat)(c:b3)(gv gw cn cc rv:aa):List aa:=[J X c.params,gv,y c.has,J X c.res.b,J X c.res.r,J X c.res.d,gw,cn,J X f,J X (ey x.o),cc,rv]
structure eZ(x:bQ)(f:Nat)(c:b3)(gv gw cn cc:aa)(M:Nat)(l:List bz)(H:ad)(rv:aa):Prop where
 g:H.get M=some (.row false 12 [gJ x f c gv gw cn cc rv])
 r:bG c6 (M+1) bH H l rv
 b8:aZ ei H (· <M) c.vars gv
 cg:aZ e7 H (· <M) c.ins gw
 aS:aZ bu H (· <M) (h6 x x.o.length) cn
 aA:aZ fr H (· <M) x.o cc
section
variable {H:ad}{x:bQ}{f:Nat}{c:b3}{gv gw cn cc rv:aa}{M:Nat}{l:List bz}
def eZ.lt(m:eZ x f c gv gw cn cc M l H rv):M<H.next:=ad.b6 m.g
def eZ.aI{H':ad}(m:eZ x f c gv gw cn cc M l H rv)(p:ay H H'):eZ x f c gv gw cn cc M l H' rv:=
 ⟨p.get m.g,m.r.aI p,m.b8.aI p,m.cg.aI p,m.aS.aI p,m.aA.aI p⟩
def kp(g:H.get M=D (.row Z 12 [gJ x f c gv gw cn cc rv])):aj P H 23 (.ptr M 0 1)=D gv/\aj P H 30 (.ptr M 0 7)=D cn/\aj P H 3 (.ptr M 0 8)=D (J X f)/\aj P H 3 (.ptr M 0 9)=D (J X (ey x.o))/\aj P H 24 (.ptr M 0 10)=D cc/\aj P H 53 (.ptr M 0 11)=D rv:=by
 rw[gJ]at g;simp-implicitDefEqProofs(disch:=try exact al)only[bM,g]
def yK(I:Nat)(rv:aa):Prop:=∀L n cap,rv= .aJ L 0 n 4 cap->I≠L
def bG.pD{α:Type}{K:ej α}{H:ad}{ok ok':Nat->Prop}{B:Nat}{H1:ad}{t e:Nat}(y:eC t e K.esz){l:List α}{v:aa}{a:α}{cs:List aa}(h:bG K B ok H l v)(u:B<=H.next)(p:ay H H1)(w:K.V H1 (λk=>H.next<=k) a cs)(i:∀k,ok k\/H.next<=k->ok' k)(az:l.length<=999999999):
  ∃d H',cS P (H1.push (.row Z K.esz [cs])) [t,t] v (.aJ H1.next 0 1 K.esz (D 1))=D (d,H')/\bG K B ok' H' (l++[a]) d/\dt B H H'/\H1.next<H'.next/\(∀k,k<H1.next->(∀L n c,v= .aJ L 0 n K.esz c->k≠L)->H'.get k=H1.get k)/\(d=v\/∃n,d= .aJ (H1.next+1) 0 n K.esz I):=by
 have pp:=ay.push H1 (.row Z K.esz [cs]);have A:=p.1;have x:∀L n c,v= .aJ L 0 n K.esz c->L<H.next:=λL n c j=>h.eG.lt j
 obtain⟨d,H',o,q,m,r,s⟩:=bG.app (ok:=ok) (ok':=ok') y ((h.aI p).aI pp) (by simp;omega) (ka.one y (ad.bq _ _) (K.keep (.aI pp) w)) (λk b f g=>⟨i k (.inr f),λL n c j=>by have:=x L n c j;omega⟩) (λk b f _=>i k (.inl f)) (i _ (.inr (by simp;omega))) (by simp;omega);refine⟨d,H',o,q,((er p u).trans (er pp ai)).trans m,by have:=m.1;simp at this;omega,λk f z=> ?_,by simpa using s⟩;rw[r k (by simp;omega) z,ad.eN ai]
def B1(m:eZ x f c gv gw cn cc M l H rv)(az:l.length<=999999998){k a b e:Int}(d:bz)(aA:cT d=[J X k,J X a,J X b,J X e]):W (aC P ax 169 [.ptr M 0 0,J X k,J X a,J X b,J X e] H) λr H'=>r= .tuple []/\H.next<=H'.next/\dt M H H'/\∃A,eZ x f c gv gw cn cc M (l++[d]) H' A/\∀I,I<H.next->I≠M->yK I rv->yK I A/\H'.get I=H.get I:=by
 refine bZ (λ_=>TS 0) ?_;have Y:=m.lt;obtain⟨o,H',E,q,w,V,N,O⟩:=bG.pD (K:=c6) (ok:=bH) (ok':=bH) g4 m.r ai (ay.refl H) (a:=d) (cs:=cT d) rfl (λ_ _=>trivial) ai;have hle:(H.push (.row Z 4 [cT d])).next<=H'.next:=by simp;omega
 have cu:H'.get M=D (.row Z 12 [gJ x f c gv gw cn cc rv]):=by rw[w.2 M ai];exact m.g
 have aJ:=nI g4 H.next (v:= .agg (cT d)) (cs:=cT d) rfl (by cases d<;>rfl) (by cases d<;>rfl)
 have B:c7 P 56 [(0,J X k),(1,J X a),(2,J X b),(3,J X e)]=D (.agg (cT d)):=by rw[aA];exact CJ rfl rfl rfl rfl
 have st:bA P H' 53 (.ptr M 0 11) o=D (H'.set M (.row Z 12 [gJ x f c gv gw cn cc o])):=by
  have p:=q.aJ.one;have t:=dG p;rw[fN (n:=1) ag cu rfl (by rw[t];rfl) (by rw[t];simp[p]) b_,t];rfl
 simp-implicitDefEqProofs(disch:=try exact al)only[qA,aq,aO,aM,kp m.g,B,aJ];have G:cS P (H.push (.row Z 4 [cT d])) [53,53] rv (.aJ H.next 0 1 4 (D 1))=D (o,H'):=E;simp-implicitDefEqProofs(disch:=try exact al)only[aq,aO,aM,G,st];have S:=ad.b6 cu;have low:∀i,i<M->(H'.set M (.row Z 12 [gJ x f c gv gw cn cc o])).get i=H.get i:=λi j=>by rw[ad.cW ai];exact w.2 i ai
 have s:∀{α:Type} {K:ej α} {l:List α} {v:aa},aZ K H (· <M) l v->aZ K (H'.set M (.row Z 12 [gJ x f c gv gw cn cc o])) (· <M) l v:=λh=>h.keep λi b j g=>⟨j,by rw[low i j];exact g⟩
 refine aK.2 ⟨rfl,by simp;omega,⟨by simp;omega,low⟩,o,⟨?_,?_,s m.b8,s m.cg,s m.aS,s m.aA⟩,λI Q R j=>⟨λL n cap p=> ?_,?_⟩⟩
 ·exact ad.dA S
 ·refine⟨?_,q.low⟩;rcases q.eG with h|⟨L',els,cap,z,T,U,u⟩
  ·exact .inl h
  ·have:=q.low _ _ _ z;exact .inr ⟨L',els,cap,z,T,by rw[ad.cW ai];exact U,u.1,u.2.1,u.2.2⟩
 ·rcases O with rfl|⟨ab,rfl⟩
  ·exact j L n cap p
  ·cases p;omega
 ·rw[ad.cW (Ne.symm R)];exact N I Q j
def Qy(b:dL x)(m:eZ x f c gv gw cn cc M l H rv)(aN:x.o[f]? =D c)(n:Nat)(aS:n<c.vars.length):W (aC P ax 170 [.ptr M 0 0,J X n] H) λr H'=>r= J X ((bE x.o f+n:Nat):Int)/\ay H H':=by
 refine bZ (λ_=>TT 0) ?_;have h:=(List.getElem?_eq_some_iff.1 aN).1;have i:=yB aN aS;have e:=kY b;obtain⟨q,i1,i2⟩:=m.aS.int (j:=(f:Int)) (a:=(bE x.o f:Int)) ai (by simpa using sY x (show f<=x.o.length by omega));have d:IntKind.i64.wrap ((bE x.o f:Int)+(n:Int))=((bE x.o f+n:Nat):Int):=by rw[wrap_i64 ai ai];omega
 simp-implicitDefEqProofs(disch:=try exact al)only[qB,aq,aO,aG,aM,kp m.g,i1,i2,d];exact aK.2 ⟨rfl,ay.refl _⟩
def Aq(m:eZ x f c gv gw cn cc M l H rv)(n:Int)(aS:n<c.vars.length):W (aC P ax 172 [.ptr M 0 0,J X n] H) λr H'=>r= y (decide (0<=n)&&c8 c n)/\ay H H':=by
 refine bZ (λ_=>TW 0) ?_;by_cases a:0<=n
 ·have b:n.toNat<c.vars.length:=ai;obtain⟨p,d,e⟩:=m.b8.yA (j:=n) (t:=c.vars[n.toNat]) a (by simp[b]);have a7:a1 c n=c.vars[n.toNat]:=by rw[a1,hj a];simp[b]
  rw[c8,a7];simp-implicitDefEqProofs(disch:=try exact al)only[oM,aq,aO,aG,aM,kp m.g,a,decide_true,d,e _ (ay.refl _)];refine cE (zF _) ?_;rintro _ K ⟨rfl,p⟩;refine⟨p.1,?_⟩;simp-implicitDefEqProofs(disch:=try exact al)only[aq];exact aK.2 ⟨by rw[Bool.true_and],p⟩
 ·simp-implicitDefEqProofs(disch:=try exact al)only[oM,aq,aG,a,decide_false];exact aK.2 ⟨by rw[Bool.false_and],ay.refl _⟩
def Ti(a:dL x)(m:eZ x f c gv gw cn cc M l H rv)(n:Nat)(aS:n<=1000):W (aC P ax 173 [.ptr M 0 0,J X n] H) λr H'=>r= J X (fS x n:Nat)/\ay H H':=by
 refine bZ (λ_=>TX 0) ?_;have d:=kY a;have b:IntKind.i64.wrap ((ey x.o:Int)+(n:Int))=((fS x n:Nat):Int):=by rw[wrap_i64 ai ai,fS];omega
 simp-implicitDefEqProofs(disch:=try exact al)only[qD,aq,aO,aG,aM,kp m.g,b];exact aK.2 ⟨rfl,ay.refl _⟩
def Qc(a:dL x)(m:eZ x f c gv gw cn cc M l H rv)(n:Nat)(aS:n<=1000):W (aC P ax 174 [.ptr M 0 0,J X n] H) λr H'=>r= J X (gr x n:Nat)/\ay H H':=by
 refine bZ (λ_=>TY 0) ?_;have e:=kY a;have h:=a.o;have b:IntKind.i64.wrap ((ey x.o:Int)+(x.o.length:Int))=((ey x.o+x.o.length:Nat):Int):=by rw[wrap_i64 ai ai];omega
 have d:IntKind.i64.wrap (((ey x.o+x.o.length:Nat):Int)+(n:Int))=((gr x n:Nat):Int):=by rw[wrap_i64 ai ai,gr];omega
 simp-implicitDefEqProofs(disch:=try exact al)only[qE,bf,aq,aO,aG,aM,kp m.g,m.aA.len c0,b,d];exact aK.2 ⟨rfl,ay.refl _⟩
end
end
section
open Go.bp
section
variable {H:ad}{ok:Nat->Prop}{x:bQ}{f:Nat}{c:b3}{i:In}{gv gw cn cc rv wi:aa}{M:Nat}{l:List bz}
def lM(x:bQ)(f:Nat)(c:b3)(gv gw cn cc:aa)(M:Nat)(l:List bz)(H:ad)(r:aa)(H':ad):Prop:=r= .tuple []/\dt M H H'/\∃a,eZ x f c gv gw cn cc M l H' a
def vo{v:Int}(h:a1 c v≠bt):0<=v/\v.toNat<c.vars.length/\v<c.vars.length:=by
 have:=Ax h;exact⟨this.1,this.2.1,ai⟩
def g5(a:dL x)(m:eZ x f c gv gw cn cc M l H rv)(aN:x.o[f]? =D c){n:Int}(aS:a1 c n≠bt):W (aC P ax 170 [.ptr M 0 0,J X n] H) λr H'=>r= J X ((bE x.o f+n.toNat:Nat):Int)/\ay H H':=by
 obtain⟨b,ae,_⟩:=vo aS;obtain⟨k,rfl⟩:∃k:Nat,n=k:=⟨n.toNat,ai⟩;exact Qy a m aN k (by simpa using ae)
def Gz(a:dL x)(m:eZ x f c gv gw cn cc M l H rv){n:Int}(b:0<=n)(aS:n<=1000):W (aC P ax 173 [.ptr M 0 0,J X n] H) λr H'=>r= J X (fS x n.toNat:Nat)/\ay H H':=by
 obtain⟨k,rfl⟩:∃k:Nat,n=k:=⟨n.toNat,ai⟩;exact Ti a m k ai
def Eb(a:dL x)(m:eZ x f c gv gw cn cc M l H rv){n:Int}(b:0<=n)(aS:n<=1000):W (aC P ax 174 [.ptr M 0 0,J X n] H) λr H'=>r= J X (gr x n.toNat:Nat)/\ay H H':=by
 obtain⟨k,rfl⟩:∃k:Nat,n=k:=⟨n.toNat,ai⟩;exact Qc a m k ai
def mg(m:eZ x f c gv gw cn cc M l H rv){n:Int}(aS:a1 c n≠bt):W (aC P ax 172 [.ptr M 0 0,J X n] H) λr H'=>r= y (c8 c n)/\ay H H':=by
 obtain⟨a,ae,ah⟩:=vo aS;refine(Aq m n ah).mono ?_;rintro r H' ⟨rfl,p⟩;exact⟨by rw[decide_eq_true a,Bool.true_and],p⟩
def l8{n:Int}(h:0<=n):aa.int X ((n.toNat:Nat):Int)= J X n:=by rw[Int.toNat_of_nonneg h]
def jy(m:eZ x f c gv gw cn cc M l H rv)(az:l.length<=999999998){k a b e:Int}(d:bz)(aA:cT d=[J X k,J X a,J X b,J X e]):W (aC P ax 169 [.ptr M 0 0,J X k,J X a,J X b,J X e] H) λr H'=>H.next<=H'.next/\lM x f c gv gw cn cc M (l++[d]) H r H':=by
 refine(B1 m az d aA).mono ?_;rintro r H' ⟨ae,ah,ak,g,au,_⟩;exact⟨ah,ae,ak,g,au⟩
def Qo(s:dL x)(V:eZ x f c gv gw cn cc M l H rv)(aN:x.o[f]? =D c)(hw:aZ bu H ok i.args wi)(w:dw x f c i=C)(az:l.length<=1000000)(an:¬(i.op=11\/i.op=12\/i.op=13\/i.op=18\/i.op=19\/i.op=20)):W (aC P ax 175 [.ptr M 0 0,.agg (cf i wi)] H) (lM x f c gv gw cn cc M (l++cK x f c i) H):=by
 refine bZ (λ_=>TZ 0) ?_;have u:=ay.push H (.row Z 6 [cf i wi]);have aQ:(H.push (.row Z 6 [cf i wi])).get H.next=D (.row Z 6 [[J X i.op,J X i.a,J X i.b,J X i.c,J X i.n,wi]]):=ad.bq _ _
 have m:=V.aI u;have ap:=V.lt;have nil:∀{Y:ad},cK x f c i=[]->ay H Y->W (D (aa.tuple [],Y)) (lM x f c gv gw cn cc M (l++cK x f c i) H):=λe p=>aK.2 ⟨rfl,er p ai,rv,by rw[e,List.append_nil];exact V.aI p⟩
 simp-implicitDefEqProofs(disch:=try exact al)only[qF,aq,aO,aM,db hw];generalize H.push (.row Z 6 [cf i wi])=H0 at*;have ao:=ad.b6 aQ;generalize aj:H.next=I at*
 have G:=eP aQ;by_cases ak:i.op=3
 ·have t:∀j:Int,(i.op==j)=(3==j):=λj=>by rw[ak]
  have r:=(vi ak w).1;have v:a1 c i.b≠bt:=(vi ak w).2▸r;have e:cK x f c i=bif c8 c i.a then[bz.copy (bE x.o f+i.a.toNat) (bE x.o f+i.b.toNat)]else[]:=by simp only[cK,ak]
  simp-implicitDefEqProofs(disch:=try exact al)only[aq,aO,aG,aM,G,bg aQ,t,Int.reduceBEq];refine cE (mg m r) ?_;rintro _ K ⟨rfl,p⟩;refine⟨p.1,?_⟩;have E:=eP (p.get aQ);cases h:c8 c i.a with
  |false=>
   simp-implicitDefEqProofs(disch:=try exact al)only[aq,aO,aG,aM,E,t,Int.reduceBEq];exact nil (by rw[e,h];rfl) (u.trans p)
  |true=>
   rw[h]at e;simp-implicitDefEqProofs(disch:=try exact al)only[aq,aO,aM,bg (p.get aQ)];refine bk (g5 s (m.aI p) aN r) ?_;rintro _ S ⟨rfl,k⟩;refine⟨k.1,?_⟩;have d:=p.trans k;simp-implicitDefEqProofs(disch:=try exact al)only[aq,aO,aM,bg (d.get aQ)];refine bk (g5 s (m.aI d) aN v) ?_;rintro _ T ⟨rfl,q⟩;refine⟨q.1,?_⟩;have g:=d.trans q;simp-implicitDefEqProofs(disch:=try exact al)only[aq];refine bk (jy (m.aI g) ai (.copy (bE x.o f+i.a.toNat) (bE x.o f+i.b.toNat)) (by first|rfl|rw[cT])) ?_;rintro _ U ⟨hle,rfl,A,B,z⟩;refine⟨hle,?_⟩;simp-implicitDefEqProofs(disch:=try exact al)only[aq,aO,bg (d.get aQ),bg (p.get aQ)]
   rw[e];exact aK.2 ⟨rfl,(er (u.trans g) ai).trans A,B,z⟩
 have ab:(i.op==3)=false:=beq_eq_false_iff_ne.2 ak;by_cases L:i.op=6
 ·have t:∀j:Int,(i.op==j)=(6==j):=λj=>by rw[L]
  have r:=(vj L w).1;have R:dW x (a1 c i.b) i.c≠bt:=(vj L w).2▸r;have v:=pV R;have rc:=(pU s R).1;have e:cK x f c i=bif c8 c i.a then[bz.load (bE x.o f+i.a.toNat) (bE x.o f+i.b.toNat) i.c.toNat]else[]:=by simp only[cK,L]
  simp-implicitDefEqProofs(disch:=try exact al)only[aq,aO,aG,aM,G,bg aQ,t,Int.reduceBEq];refine cE (mg m r) ?_;rintro _ K ⟨rfl,p⟩;refine⟨p.1,?_⟩;have E:=eP (p.get aQ);cases h:c8 c i.a with
  |false=>
   simp-implicitDefEqProofs(disch:=try exact al)only[aq,aO,aG,aM,E,t,Int.reduceBEq];exact nil (by rw[e,h];rfl) (u.trans p)
  |true=>
   rw[h]at e;simp-implicitDefEqProofs(disch:=try exact al)only[aq,aO,aM,bg (p.get aQ)];refine bk (g5 s (m.aI p) aN r) ?_;rintro _ S ⟨rfl,k⟩;refine⟨k.1,?_⟩;have d:=p.trans k;simp-implicitDefEqProofs(disch:=try exact al)only[aq,aO,aM,bg (d.get aQ)];refine bk (g5 s (m.aI d) aN v) ?_;rintro _ T ⟨rfl,q⟩;refine⟨q.1,?_⟩;have g:=d.trans q;simp-implicitDefEqProofs(disch:=try exact al)only[aq,aO,aM,bg (g.get aQ)];refine bk (jy (m.aI g) ai (.load (bE x.o f+i.a.toNat) (bE x.o f+i.b.toNat) i.c.toNat) (by first|rfl|rw[cT,l8 rc])) ?_;rintro _ U ⟨hle,rfl,A,B,z⟩;refine⟨hle,?_⟩;simp-implicitDefEqProofs(disch:=try exact al)only[aq,aO,bg (g.get aQ),bg (d.get aQ),bg (p.get aQ)]
   rw[e];exact aK.2 ⟨rfl,(er (u.trans g) ai).trans A,B,z⟩
 have ae:(i.op==6)=false:=beq_eq_false_iff_ne.2 L;by_cases O:i.op=8
 ·have t:∀j:Int,(i.op==j)=(8==j):=λj=>by rw[O]
  have r:=(vl O w).1;have v:=k3 (vl O w).2.1;have e:cK x f c i=bif c8 c i.a then[bz.load (bE x.o f+i.a.toNat) (bE x.o f+i.b.toNat) 0]else[]:=by simp only[cK,O]
  simp-implicitDefEqProofs(disch:=try exact al)only[aq,aO,aG,aM,G,bg aQ,t,Int.reduceBEq];refine cE (mg m r) ?_;rintro _ K ⟨rfl,p⟩;refine⟨p.1,?_⟩;have E:=eP (p.get aQ);cases h:c8 c i.a with
  |false=>
   simp-implicitDefEqProofs(disch:=try exact al)only[aq,aO,aG,aM,E,t,Int.reduceBEq];exact nil (by rw[e,h];rfl) (u.trans p)
  |true=>
   rw[h]at e;simp-implicitDefEqProofs(disch:=try exact al)only[aq,aO,aM,bg (p.get aQ)];refine bk (g5 s (m.aI p) aN r) ?_;rintro _ S ⟨rfl,k⟩;refine⟨k.1,?_⟩;have d:=p.trans k;simp-implicitDefEqProofs(disch:=try exact al)only[aq,aO,aM,bg (d.get aQ)];refine bk (g5 s (m.aI d) aN v) ?_;rintro _ T ⟨rfl,q⟩;refine⟨q.1,?_⟩;have g:=d.trans q;simp-implicitDefEqProofs(disch:=try exact al)only[aq];refine bk (jy (m.aI g) ai (.load (bE x.o f+i.a.toNat) (bE x.o f+i.b.toNat) 0) (by first|rfl|rw[cT])) ?_;rintro _ U ⟨hle,rfl,A,B,z⟩;refine⟨hle,?_⟩;simp-implicitDefEqProofs(disch:=try exact al)only[aq,aO,bg (d.get aQ),bg (p.get aQ)]
   rw[e];exact aK.2 ⟨rfl,(er (u.trans g) ai).trans A,B,z⟩
 have ag:(i.op==8)=false:=beq_eq_false_iff_ne.2 O;by_cases N:i.op=7
 ·have t:∀j:Int,(i.op==j)=(7==j):=λj=>by rw[N]
  have v:=(vk N w).1;have R:dW x (a1 c i.a) i.c≠bt:=(vk N w).2▸v;have r:=pV R;have rc:=(pU s R).1;have e:cK x f c i=bif c8 c i.b then[bz.store (bE x.o f+i.a.toNat) (bE x.o f+i.b.toNat) i.c.toNat]else[]:=by simp only[cK,N]
  simp-implicitDefEqProofs(disch:=try exact al)only[aq,aO,aG,aM,G,bg aQ,t,Int.reduceBEq];refine cE (mg m v) ?_;rintro _ K ⟨rfl,p⟩;refine⟨p.1,?_⟩;have E:=eP (p.get aQ);cases h:c8 c i.b with
  |false=>
   simp-implicitDefEqProofs(disch:=try exact al)only[aq,aO,aG,aM,E,t,Int.reduceBEq];exact nil (by rw[e,h];rfl) (u.trans p)
  |true=>
   rw[h]at e;simp-implicitDefEqProofs(disch:=try exact al)only[aq,aO,aM,bg (p.get aQ)];refine bk (g5 s (m.aI p) aN r) ?_;rintro _ S ⟨rfl,k⟩;refine⟨k.1,?_⟩;have d:=p.trans k;simp-implicitDefEqProofs(disch:=try exact al)only[aq,aO,aM,bg (d.get aQ)];refine bk (g5 s (m.aI d) aN v) ?_;rintro _ T ⟨rfl,q⟩;refine⟨q.1,?_⟩;have g:=d.trans q;simp-implicitDefEqProofs(disch:=try exact al)only[aq,aO,aM,bg (g.get aQ)];refine bk (jy (m.aI g) ai (.store (bE x.o f+i.a.toNat) (bE x.o f+i.b.toNat) i.c.toNat) (by first|rfl|rw[cT,l8 rc])) ?_;rintro _ U ⟨hle,rfl,A,B,z⟩;refine⟨hle,?_⟩;simp-implicitDefEqProofs(disch:=try exact al)only[aq,aO,bg (g.get aQ),bg (d.get aQ),bg (p.get aQ)]
   rw[e];exact aK.2 ⟨rfl,(er (u.trans g) ai).trans A,B,z⟩
 have af:(i.op==7)=false:=beq_eq_false_iff_ne.2 N;by_cases Q:i.op=9
 ·have t:∀j:Int,(i.op==j)=(9==j):=λj=>by rw[Q]
  have v:=(vm Q w).1;have r:=k3 (vm Q w).2.1;have e:cK x f c i=bif c8 c i.c then[bz.store (bE x.o f+i.a.toNat) (bE x.o f+i.c.toNat) 0]else[]:=by simp only[cK,Q]
  simp-implicitDefEqProofs(disch:=try exact al)only[aq,aO,aG,aM,G,bg aQ,t,Int.reduceBEq];refine cE (mg m v) ?_;rintro _ K ⟨rfl,p⟩;refine⟨p.1,?_⟩;have E:=eP (p.get aQ);cases h:c8 c i.c with
  |false=>
   simp-implicitDefEqProofs(disch:=try exact al)only[aq];exact nil (by rw[e,h];rfl) (u.trans p)
  |true=>
   rw[h]at e;simp-implicitDefEqProofs(disch:=try exact al)only[aq,aO,aM,bg (p.get aQ)];refine bk (g5 s (m.aI p) aN r) ?_;rintro _ S ⟨rfl,k⟩;refine⟨k.1,?_⟩;have d:=p.trans k;simp-implicitDefEqProofs(disch:=try exact al)only[aq,aO,aM,bg (d.get aQ)];refine bk (g5 s (m.aI d) aN v) ?_;rintro _ T ⟨rfl,q⟩;refine⟨q.1,?_⟩;have g:=d.trans q;simp-implicitDefEqProofs(disch:=try exact al)only[aq];refine bk (jy (m.aI g) ai (.store (bE x.o f+i.a.toNat) (bE x.o f+i.c.toNat) 0) (by first|rfl|rw[cT])) ?_;rintro _ U ⟨hle,rfl,A,B,z⟩;refine⟨hle,?_⟩;simp-implicitDefEqProofs(disch:=try exact al)only[aq,aO,bg (d.get aQ),bg (p.get aQ)]
   rw[e];exact aK.2 ⟨rfl,(er (u.trans g) ai).trans A,B,z⟩
 have ah:(i.op==9)=false:=beq_eq_false_iff_ne.2 Q;simp-implicitDefEqProofs(disch:=try exact al)only[aq,aO,aG,aM,G,ab,ae,af,ag,ah];refine nil ?_ u;have am:=Z9 w;unfold cK;simp only
 split<;>first|rfl|(exfalso;omega)
def Fh(h:dL x)(aN:x.o[f]? =D c){g:b3}(t:x.o[i.c.toNat]? =D g)(s:0<=i.c)(V:i.args.length<=6)(Y:i.args.length<=g.vars.length)(G:∀{j:Nat} {v:Int},i.args[j]? =D v->a1 c v≠bt){I:Nat}(A:I≠M){N:Nat}{Q:aa->ad->Prop}:
  ∀(j k n:Nat) (H:ad) (l:List bz) (rv:aa),k+j=i.args.length->j<n->l.length<=1000000+k->eZ x f c gv gw cn cc M l H rv->H.get I=D (.row Z 6 [[J X i.op,J X i.a,J X i.b,J X i.c,J X i.n,wi]])->yK I rv->aZ bu H (· <M) i.args wi->
  (∀H' d,dt M H H'->H'.get I=D (.row Z 6 [[J X i.op,J X i.a,J X i.b,J X i.c,J X i.n,wi]])->eZ x f c gv gw cn cc M (l++fW c (bE x.o f) (bE x.o i.c.toNat) (i.args.drop k) k) H' d->W (mI (aC P ax) N (.ptr M 0 0) (.ptr I 0 0) H') Q)->
  W (mJ (aC P ax) N n (.ptr M 0 0) (.ptr I 0 0) wi (J X i.args.length) (J X k) H) Q
 |_,_,0,_,_,_,_,hm,_,_,_,_,_,_=>ai
 |0,k,n+1,H,l,rv,U,_,_,m,aQ,_,hw,fin=>by
  have u:¬(k:Int)<(i.args.length:Int):=ai;have:=fin H rv (.refl _ _) aQ (by rw[List.drop_of_length_le ai,fW,List.append_nil];exact m);simp-implicitDefEqProofs(disch:=try exact al)only[mJ,ue,aq,aG,u,decide_false];exact this
 |j+1,k,n+1,H,l,rv,U,aw,az,m,aQ,B,hw,fin=>by
  have u:(k:Int)<(i.args.length:Int):=ai;have w:k<i.args.length:=ai;have on:=Fh (N:=N) (Q:=Q) h aN t s V Y G A j (k+1) n;have aD:=m.lt;have aA:=ad.b6 aQ;obtain⟨aF,am,an⟩:=hw.int (j:=(k:Int)) (a:=i.args[k]) ai (by simp[w]);have E:=G (j:=k) (v:=i.args[k]) (by simp[w]);rw[List.drop_eq_getElem_cons w,fW]at fin;have aE:=eP aQ;simp-implicitDefEqProofs(disch:=try exact al)only[mJ,ue,aq,aG,u,decide_true,am,an];refine bk (mg m E) ?_;rintro _ K ⟨rfl,p⟩;refine⟨p.1,?_⟩;have aY:=c3 (show k<=1000000000 by omega);cases L:c8 c i.args[k]with
  |false=>
   rw[L,jF,List.nil_append]at fin;simp-implicitDefEqProofs(disch:=try exact al)only[oL,aq,aG,aY];exact on K l rv ai ai ai (m.aI p) (p.get aQ) B (hw.aI p) λH' d ae ah ak=>fin H' d ((er p ai).trans ae) ah ak
  |true=>
   rw[L,gG,<-List.append_assoc]at fin;simp-implicitDefEqProofs(disch:=try exact al)only[aq];refine bk (g5 h (m.aI p) aN E) ?_;rintro _ R ⟨rfl,O⟩;refine⟨O.1,?_⟩;have e:=p.trans O;have r:=m.aI e;have ar:=h.o;have av:=(List.getElem?_eq_some_iff.1 t).1;have ay:=yB t (v:=k) ai;have ap:=kY h;obtain⟨ag,i1,i2⟩:=(m.aI p).aS.int (j:=i.c) (a:=(bE x.o i.c.toNat:Int)) s (sY x ai);have i4:aj P R 3 ag=D (J X (bE x.o i.c.toNat)):=by
    obtain⟨q,i3,i5⟩:=r.aS.int (j:=i.c) (a:=(bE x.o i.c.toNat:Int)) s (sY x ai);rw[i1]at i3;cases i3;exact i5
   have ao:IntKind.i64.wrap ((bE x.o i.c.toNat:Int)+(k:Int))=((bE x.o i.c.toNat+k:Nat):Int):=by rw[wrap_i64 ai ai];omega
   simp-implicitDefEqProofs(disch:=try exact al)only[aq,aO,aG,aM,kp r.g,bg (e.get aQ),i1,i4,ao];refine bk (B1 r ai (.copy (bE x.o i.c.toNat+k) (bE x.o f+i.args[k].toNat)) rfl) ?_;rintro _ z ⟨rfl,hle,af,d,ab,au⟩;refine⟨hle,?_⟩;obtain⟨S,T⟩:=au I (by have:=e.1;omega) A B;have pu:dt M H z:=(er e ai).trans af;simp-implicitDefEqProofs(disch:=try exact al)only[oL,aq,aO,aG,kp r.g,kp (m.aI p).g,bg (e.get aQ),bg (p.get aQ),i2,i4,eA m.aS,aY];exact on z _ d ai ai (by simp;omega) ab (by rw[T,e.get aQ]) S (hw.hP pu) λH' d ae ah ak=>fin H' d (pu.trans ae) ah ak
def P8(s:dL x)(w:eZ x f c gv gw cn cc M l H rv)(aN:x.o[f]? =D c)(hw:aZ bu H (· <M) i.args wi)(T:dw x f c i=C)(az:l.length<=1000000)(A:i.op=13):W (aC P ax 171 [.ptr M 0 0,.agg (cf i wi)] H) (lM x f c gv gw cn cc M (l++cK x f c i) H):=by
 obtain⟨g,d⟩:=pf A T;have Q:=iV (s.code d.at_.2);have hlen:=d.len;have an:=Q.params;refine bZ (λ_=>TV (i.args.length+1)) ?_;have z:=ay.push H (.row Z 6 [cf i wi]);have aQ:(H.push (.row Z 6 [cf i wi])).get H.next=D (.row Z 6 [[J X i.op,J X i.a,J X i.b,J X i.c,J X i.n,wi]]):=ad.bq _ _
 have ap:=w.lt;have Y:=eP aQ;simp-implicitDefEqProofs(disch:=try exact al)only[qC,bf,aq,aO,aM,db hw,Y,hw.len cU];refine Fh s aN d.at_.2 d.at_.1 ai ai (λh=>(d.arg h).1) ai i.args.length 0 (i.args.length+1) _ l rv ai ai ai (w.aI z) aQ (λL n cap q=>by have:=w.r.eG.lt (K:=c6) q;omega) (hw.aI z) ?_;intro H1 ae pu m j;have ao:=ad.b6 m;rw[List.drop_zero]at j;have N:dt M H H1:=(er z ai).trans pu;have ar:=eP m;have e:cK x f c i=fW c (bE x.o f) (bE x.o i.c.toNat) i.args 0++(bif decide (0<=i.a)&&c8 c i.a then[.copy (bE x.o f+i.a.toNat) (fS x i.c.toNat)]else[]):=by simp only[cK,A]
 have O:∀(at_ to:Nat) (t:List Int) (k:Nat),(fW c at_ to t k).length<=t.length:=by
  intro at_ to t
  induction t with
  |nil=>intro k;simp[fW]
  |cons v t U=>intro k;have:=U (k+1);rw[fW];cases c8 c v<;>simp<;>omega
 have am:=O (bE x.o f) (bE x.o i.c.toNat) i.args 0;have S:i.a<c.vars.length:=by
  rcases d.res with h|h
  ·omega
  ·exact(vo h.2.1).2.2
 simp-implicitDefEqProofs(disch:=try exact al)only[mI,aq,aO,aM,bg m];refine bk (Aq j i.a S) ?_;rintro _ K ⟨rfl,p⟩;refine⟨p.1,?_⟩;cases q:(decide (0<=i.a)&&c8 c i.a)with
 |false=>
  simp-implicitDefEqProofs(disch:=try exact al)only[aq];exact aK.2 ⟨rfl,N.trans (er p (by have:=j.lt;omega)),ae,by rw[e,q,jF,List.append_nil];exact j.aI p⟩
 |true=>
  have R:a1 c i.a≠bt:=by
   simp only[Bool.and_eq_true]at q;exact xb q.2
  simp-implicitDefEqProofs(disch:=try exact al)only[aq,aO,aM,bg (p.get m)];refine bk (g5 s (j.aI p) aN R) ?_;rintro _ af ⟨rfl,E⟩;refine⟨E.1,?_⟩;have u:=p.trans E;have aj:=s.o;have ak:=(List.getElem?_eq_some_iff.1 d.at_.2).1;simp-implicitDefEqProofs(disch:=try exact al)only[aq,aO,aM,bg (u.get m)];refine bk (Gz s (j.aI u) d.at_.1 ai) ?_;rintro _ ag ⟨rfl,G⟩;refine⟨G.1,?_⟩;have B:=u.trans G;simp-implicitDefEqProofs(disch:=try exact al)only[aq];refine bk (jy (j.aI B) (by simp;omega) (.copy (bE x.o f+i.a.toNat) (fS x i.c.toNat)) rfl) ?_;rintro _ ah ⟨hle,rfl,aa,ab,V⟩;refine⟨hle,?_⟩;simp-implicitDefEqProofs(disch:=try exact al)only[aq,aO,bg (u.get m),bg (p.get m)]
  exact aK.2 ⟨rfl,N.trans ((er B (by have:=j.lt;omega)).trans aa),ab,by rw[e,q,gG,<-List.append_assoc];exact V⟩
def Qd(q:dL x)(ab:eZ x f c gv gw cn cc M l H rv)(aN:x.o[f]? =D c)(aj:aZ bu H (· <M) i.args wi)(k:dw x f c i=C)(az:l.length<=1000000):W (aC P ax 129 [.ptr M 0 0,.agg (cf i wi)] H) (lM x f c gv gw cn cc M (l++cK x f c i) H):=by
 refine bZ (λ_=>TJ 0) ?_;have s:=ay.push H (.row Z 6 [cf i wi]);have aQ:(H.push (.row Z 6 [cf i wi])).get H.next=D (.row Z 6 [[J X i.op,J X i.a,J X i.b,J X i.c,J X i.n,wi]]):=ad.bq _ _
 have m:=ab.aI s;have hw:=aj.aI s;have aP:=ab.lt;have aF:=(List.getElem?_eq_some_iff.1 aN).1;have aE:=q.o;have aH:=q.globals;have aR:cK x f c i=cK x f c i:=rfl;have nil:∀{Q:ad},cK x f c i=[]->ay H Q->W (D (aa.tuple [],Q)) (lM x f c gv gw cn cc M (l++cK x f c i) H):=λe p=>aK.2 ⟨rfl,er p ai,rv,by rw[e,List.append_nil];exact ab.aI p⟩
 have an:∀{am:List bz} {r:aa} {Q:ad},lM x f c gv gw cn cc M am (H.push (.row Z 6 [cf i wi])) r Q->lM x f c gv gw cn cc M am H r Q:=λ⟨ae,ah,ak⟩=>⟨ae,(er s ai).trans ah,ak⟩
 simp-implicitDefEqProofs(disch:=try exact al)only[qq,aq,aO,aM,db aj];generalize H.push (.row Z 6 [cf i wi])=H0 at*;have aL:=ad.b6 aQ;generalize aD:H.next=I at*
 have L:=eP aQ;by_cases R:i.op=11
 ·have t:∀j:Int,(i.op==j)=(11==j):=λj=>by rw[R]
  have u:a1 c i.a≠bt:=(vg R k).1.1;have dq:=(pB (vg R k).2).1;have e:cK x f c i=[bz.base (bE x.o f+i.a.toNat) i.n.toNat]:=by simp only[cK,R]
  simp-implicitDefEqProofs(disch:=try exact al)only[jh,aq,aO,aG,aM,L,bg aQ,t,Int.reduceBEq];refine bk (g5 q m aN u) ?_;rintro _ K ⟨rfl,p⟩;refine⟨p.1,?_⟩;simp-implicitDefEqProofs(disch:=try exact al)only[aq,aO,aM,bg (p.get aQ)];refine bk (jy (m.aI p) ai (.base (bE x.o f+i.a.toNat) i.n.toNat) (by rw[cT,l8 dq])) ?_;rintro _ U ⟨hle,rfl,z,A,w⟩;refine⟨hle,?_⟩;simp-implicitDefEqProofs(disch:=try exact al)only[aq,aO,bg (p.get aQ),bg aQ];rw[e];exact aK.2 ⟨rfl,(er (s.trans p) ai).trans z,A,w⟩
 have ap:(i.op==11)=false:=beq_eq_false_iff_ne.2 R;by_cases S:i.op=12
 ·have t:∀j:Int,(i.op==j)=(12==j):=λj=>by rw[S]
  have u:a1 c i.a≠bt:=k3 (vh S k).1.1;have dq:=(pB (vh S k).2).1;have e:cK x f c i=[bz.base (bE x.o f+i.a.toNat) i.n.toNat]:=by simp only[cK,S]
  simp-implicitDefEqProofs(disch:=try exact al)only[jh,aq,aO,aG,aM,L,bg aQ,t,Int.reduceBEq];refine bk (g5 q m aN u) ?_;rintro _ K ⟨rfl,p⟩;refine⟨p.1,?_⟩;simp-implicitDefEqProofs(disch:=try exact al)only[aq,aO,aM,bg (p.get aQ)];refine bk (jy (m.aI p) ai (.base (bE x.o f+i.a.toNat) i.n.toNat) (by rw[cT,l8 dq])) ?_;rintro _ U ⟨hle,rfl,z,A,w⟩;refine⟨hle,?_⟩;simp-implicitDefEqProofs(disch:=try exact al)only[aq,aO,bg (p.get aQ),bg aQ];rw[e];exact aK.2 ⟨rfl,(er (s.trans p) ai).trans z,A,w⟩
 have ar:(i.op==12)=false:=beq_eq_false_iff_ne.2 S;by_cases Y:i.op=13
 ·have t:∀j:Int,(i.op==j)=(13==j):=λj=>by rw[Y]
  simp-implicitDefEqProofs(disch:=try exact al)only[jh,aq,aG,L,t,Int.reduceBEq,e3 (i:=i) (wi:=wi) aQ];refine bk (P8 q m aN hw k az Y) ?_;rintro r K T;refine⟨T.2.1.1,aK.2 (an ⟨rfl,T.2⟩)⟩
 have au:(i.op==13)=false:=beq_eq_false_iff_ne.2 Y;by_cases V:i.op=18
 ·have t:∀j:Int,(i.op==j)=(18==j):=λj=>by rw[V]
  have e:cK x f c i=bif decide (0<=i.a)&&c8 c i.a then[bz.copy (fS x f) (bE x.o f+i.a.toNat)]else[]:=by simp only[cK,V]
  have ao:i.a<c.vars.length:=by
   rcases ID V k with h|h
   ·exact(vo h.2.1).2.2
   ·omega
  simp-implicitDefEqProofs(disch:=try exact al)only[jh,aq,aO,aG,aM,L,bg aQ,t,Int.reduceBEq];refine bk (Aq m i.a ao) ?_;rintro _ K ⟨rfl,p⟩;refine⟨p.1,?_⟩;cases v:(decide (0<=i.a)&&c8 c i.a)with
  |false=>
   simp-implicitDefEqProofs(disch:=try exact al)only[aq];exact nil (by rw[e,v];rfl) (s.trans p)
  |true=>
   rw[v]at e;have u:a1 c i.a≠bt:=by
    simp only[Bool.and_eq_true]at v;exact xb v.2
   simp-implicitDefEqProofs(disch:=try exact al)only[aq,aO,aM,kp (m.aI p).g];refine bk (Gz q (m.aI p) (n:=(f:Int)) ai ai) ?_;rintro _ af ⟨rfl,E⟩;refine⟨E.1,?_⟩;have d:=p.trans E;simp-implicitDefEqProofs(disch:=try exact al)only[aq,aO,aM,bg (d.get aQ)];refine bk (g5 q (m.aI d) aN u) ?_;rintro _ ag ⟨rfl,G⟩;refine⟨G.1,?_⟩;have B:=d.trans G;simp-implicitDefEqProofs(disch:=try exact al)only[aq];refine bk (jy (m.aI B) ai (.copy (fS x f) (bE x.o f+i.a.toNat)) rfl) ?_;rintro _ U ⟨hle,rfl,z,A,w⟩;refine⟨hle,?_⟩;simp-implicitDefEqProofs(disch:=try exact al)only[aq,aO,bg (d.get aQ),bg (p.get aQ)];rw[e];exact aK.2 ⟨rfl,(er (s.trans B) ai).trans z,A,w⟩
 have av:(i.op==18)=false:=beq_eq_false_iff_ne.2 V;by_cases N:i.op=19
 ·have t:∀j:Int,(i.op==j)=(19==j):=λj=>by rw[N]
  have e:cK x f c i=bif c8 c i.a then[bz.copy (bE x.o f+i.a.toNat) (gr x i.n.toNat)]else[]:=by simp only[cK,N]
  have u:=(r5 N k).1;have dq:=(iR (r5 N k).2).1;have cP:=(iR (r5 N k).2).2.1;simp-implicitDefEqProofs(disch:=try exact al)only[jh,aq,aO,aG,aM,L,bg aQ,t,Int.reduceBEq];refine bk (mg m u) ?_;rintro _ K ⟨rfl,p⟩;refine⟨p.1,?_⟩;cases v:c8 c i.a with
  |false=>
   simp-implicitDefEqProofs(disch:=try exact al)only[aq];exact nil (by rw[e,v];rfl) (s.trans p)
  |true=>
   rw[v]at e;simp-implicitDefEqProofs(disch:=try exact al)only[aq,aO,aM,bg (p.get aQ)];refine bk (g5 q (m.aI p) aN u) ?_;rintro _ af ⟨rfl,E⟩;refine⟨E.1,?_⟩;have d:=p.trans E;simp-implicitDefEqProofs(disch:=try exact al)only[aq,aO,aM,bg (d.get aQ)];refine bk (Eb q (m.aI d) dq ai) ?_;rintro _ ag ⟨rfl,G⟩;refine⟨G.1,?_⟩;have B:=d.trans G;simp-implicitDefEqProofs(disch:=try exact al)only[aq];refine bk (jy (m.aI B) ai (.copy (bE x.o f+i.a.toNat) (gr x i.n.toNat)) rfl) ?_;rintro _ U ⟨hle,rfl,z,A,w⟩;refine⟨hle,?_⟩;simp-implicitDefEqProofs(disch:=try exact al)only[aq,aO,bg (d.get aQ),bg (p.get aQ)];rw[e]
   exact aK.2 ⟨rfl,(er (s.trans B) ai).trans z,A,w⟩
 have aw:(i.op==19)=false:=beq_eq_false_iff_ne.2 N;by_cases O:i.op=20
 ·have t:∀j:Int,(i.op==j)=(20==j):=λj=>by rw[O]
  have e:cK x f c i=bif c8 c i.a then[bz.copy (gr x i.n.toNat) (bE x.o f+i.a.toNat)]else[]:=by simp only[cK,O]
  have u:=(r6 O k).1;have dq:=(iR (r6 O k).2).1;have cP:=(iR (r6 O k).2).2.1;simp-implicitDefEqProofs(disch:=try exact al)only[jh,aq,aO,aG,aM,L,bg aQ,t,Int.reduceBEq];refine bk (mg m u) ?_;rintro _ K ⟨rfl,p⟩;refine⟨p.1,?_⟩;cases v:c8 c i.a with
  |false=>
   simp-implicitDefEqProofs(disch:=try exact al)only[aq];exact nil (by rw[e,v];rfl) (s.trans p)
  |true=>
   rw[v]at e;simp-implicitDefEqProofs(disch:=try exact al)only[aq,aO,aM,bg (p.get aQ)];refine bk (Eb q (m.aI p) dq ai) ?_;rintro _ af ⟨rfl,E⟩;refine⟨E.1,?_⟩;have d:=p.trans E;simp-implicitDefEqProofs(disch:=try exact al)only[aq,aO,aM,bg (d.get aQ)];refine bk (g5 q (m.aI d) aN u) ?_;rintro _ ag ⟨rfl,G⟩;refine⟨G.1,?_⟩;have B:=d.trans G;simp-implicitDefEqProofs(disch:=try exact al)only[aq];refine bk (jy (m.aI B) ai (.copy (gr x i.n.toNat) (bE x.o f+i.a.toNat)) rfl) ?_;rintro _ U ⟨hle,rfl,z,A,w⟩;refine⟨hle,?_⟩;simp-implicitDefEqProofs(disch:=try exact al)only[aq,aO,bg (d.get aQ),bg (p.get aQ)];rw[e]
   exact aK.2 ⟨rfl,(er (s.trans B) ai).trans z,A,w⟩
 have aA:(i.op==20)=false:=beq_eq_false_iff_ne.2 O;simp-implicitDefEqProofs(disch:=try exact al)only[jh,aq,aG,L,ap,ar,au,av,aw,aA,e3 (i:=i) (wi:=wi) aQ];refine bk (Qo q m aN hw k az ai) ?_;rintro r K T;exact⟨T.2.1.1,aK.2 (an ⟨rfl,T.2⟩)⟩
