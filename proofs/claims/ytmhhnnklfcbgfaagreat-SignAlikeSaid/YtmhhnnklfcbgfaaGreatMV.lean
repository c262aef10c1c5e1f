/-
  Texts of one proof, laid together: ShI Ta Tb Tc SgM Td Te Tf Tg Th Ti Tj ShJ Tk Tl Tm Tn To Tp Tq SgN Tr Ts Tt ShK Tu Tv Sd Se Sf Sj Sk Sm Sn Sq Tw SgO SgP Tx Ty Tz Va Vb Vc.
-/
import Derived.Test.YtmhhnnklfcbgfaaGreatMU
set_option linter.unusedVariables false
set_option linter.unusedSimpArgs false
set_option linter.defProp false
open Option renaming some→D,none→I
open Bool renaming true→C,false→Z
open Go.bo.aa renaming int→J,bool→y
open Go.IntKind renaming i64→X
namespace Go.Proofs.YtmhhnnklfcbgfaaGreat
open Go.bo
section
set_option maxRecDepth 100000
noncomputable section
def xL(G:an)(h:aa)(H:ad):O:=bx H (b0 (H).next h) λx1 ae=>af (aj P ae 27 x1) λi=>aU ae (G 24 [i] ae) λx4 ah=>af (dg .not x4) λx5=>aP (D x5) (D ((J X 0),ah)) (af (aj P ah 27 x1) λx6=>af (av P 27 x1 2) λx7=>af (aj P ah 24 x7) λx8=>cx (a2 P .empty .len [24] [x8]) (a2 P ah .len [24] [x8]) λb=>aU (b.heap ah) (G 52 [x6,b.val] (b.heap ah)) λx10 ak=>af (av P 27 x1 2) λx11=>af (aj P ak 24 x11) λx12=>cx (a2 P .empty .len [24] [x12]) (a2 P ak .len [24] [x12]) λa=>af (ar P .add 3 Z x10 a.val) λg=>af (av P 27 x1 1) λe=>af (aj P (a.heap ak) 23 e) λc=>cx (a2 P .empty .len [23] [c]) (a2 P (a.heap ak) .len [23] [c]) λd=>af (ar P .add 3 Z g d.val) λf=>bif eH [0,0,2,6,15,0,32,96,255,0,512,1536,4095,8191] [0,1,2,3,4,8,12,13] [⟨0,.read x6,λH=>aj P H 27 x1⟩,⟨1,.pure x7,λH=>I⟩,⟨2,.read x8,λH=>aj P H 24 x7⟩,⟨3,b,λH=>a2 P H .len [24] [x8]⟩,⟨4,.cF x10 ak,λH=>I⟩,⟨5,.pure x11,λH=>I⟩,⟨6,.read x12,λH=>aj P H 24 x11⟩,⟨7,a,λH=>a2 P H .len [24] [x12]⟩,⟨8,.pure g,λH=>I⟩,⟨9,.pure e,λH=>I⟩,⟨10,.read c,λH=>aj P H 23 e⟩,⟨11,d,λH=>a2 P H .len [23] [c]⟩,⟨12,.pure f,λH=>I⟩,⟨13,.pure f,λH=>I⟩] ah then(D (f,(d.heap (a.heap ak))))else I)
def UC(N:Nat){a:aa}{H:ad}{r:aa×ad}(h:xL (aC P ax) a H=D r):aC P ax 25 [a] H=D r:=fT N (S:=λG=>xL G a H) Tryz.func25 (λ_=>by delta xL;kernel_rfl) h
def xM(G:an)(a:aa)(H:ad):O:=bx H (b0 (H).next a) λx1 ae=>af (aj P ae 27 x1) λb=>aU ae (G 24 [b] ae) λx4 ah=>af (dg .not x4) λx5=>aP (D x5) (D (aa.aB,ah)) (af (aj P ah 27 x1) λx6=>aU ah (G 57 [x6] ah) λx7 ak=>D (x7,ak))
def UP(N:Nat){a:aa}{H:ad}{r:aa×ad}(h:xM (aC P ax) a H=D r):aC P ax 32 [a] H=D r:=fT N (S:=λG=>xM G a H) Tryz.func32 (λ_=>by delta xM;kernel_rfl) h
def rH(G:an)(N:Nat)(x5:aa)(H:ad):O:=some (x5,H)
def YL(G:an)(N:Nat):∀R H,aX P G N (j (j (j (bb Tryz.f52)))) (aR Tryz.f52) [] (aR Tryz.f52) R H=rH G N (R 5) H:=by
 refine bj (aw _) λR H=> ?_
 delta rH;kernel_rfl
def uZ(G:an)(N:Nat)(L1:aa->aa->aa->aa->ad->O)(x1 x2:aa)(x5 x6:aa)(H:ad):O:=af (ar P .lss 3 Z x6 x1) λh=>aP (D h) (af (av P 27 x2 2) λa=>af (aj P H 24 a) λb=>af (a6 P 24 b x6) λc=>af (av P 49 c 1) λd=>af (aj P H 23 d) λe=>bf P .len [23] [e] H λf=>af (ar P .add 3 Z x5 f) λg=>af (ar P .add 3 C x6 (J X 1)) λx11=>L1 x1 x2 g x11 H) (rH G N x5 H)
def nk(G:an)(N:Nat):Nat->aa->aa->aa->aa->ad->O
 |0,_,_,_,_,_=>I
 |n+1,x1,x2,x5,x6,H=>uZ G N (nk G N n) x1 x2 x5 x6 H
def YK(G:an)(N:Nat)(L1:aa->aa->aa->aa->ad->O):∀R H,aX P G N (aE (aE (j (aE (j (j (bb Tryz.f52))))))) (λR H=>L1 (R 1) (R 2) (R 5) (R 6) H) [(0,(λR H=>rH G N (R 5) H))] (aR Tryz.f52) R H=uZ G N L1 (R 1) (R 2) (R 5) (R 6) H:=by
 refine bj (aw _) λR H=> ?_
 delta uZ;generalize rH G N=a;revert a;refine id ?_;intro a;kernel_rfl
def x3(G:an)(N:Nat)(a x1:aa)(H:ad):O:=bx H (b0 (H).next a) λx2 ae=>nk G N N x1 x2 (J X 0) (J X 0) ae
def UX(N:Nat){a x1:aa}{H:ad}{r:aa×ad}(h:x3 (aC P ax) N a x1 H=D r):aC P ax 52 [a,x1] H=D r:=fT N (S:=λG=>x3 G N a x1 H) Tryz.func52 (λG=>bR ((aF ag ((aF ag ((aF ag (YL G N) ((aF ag ((bX ag ((cj (k:=λm R H=>nk G N m (R 1) (R 2) (R 5) (R 6) H) ag (λR H=>ag) (λm=>YK G N (nk G N m)))))) (aw _))))) (aw _))) (aw _))) (by delta x3;generalize nk G N N=b;revert b;refine id ?_;intro b;kernel_rfl)) h
def nm(G:an)(N:Nat)(a:aa)(H:ad):O:=some (a,H)
def YO(G:an)(N:Nat):∀R H,aX P G N (j (j (j (bb Tryz.f57)))) (aR Tryz.f57) [] (aR Tryz.f57) R H=nm G N (R 3) H:=by
 refine bj (aw _) λR H=> ?_
 delta nm;kernel_rfl
def np(G:an)(N:Nat)(L1:aa->aa->aa->ad->O)(x1 b x4:aa)(H:ad):O:=af (ar P .add 3 C x4 (J X 1)) λa=>L1 x1 b a H
def YP(G:an)(N:Nat)(L1:aa->aa->aa->ad->O):∀R H,aX P G N (j (j (aE (aE (j (aE (j (j (bb Tryz.f57))))))))) (λR H=>L1 (R 1) (R 3) (R 4) H) [(0,(λR H=>nm G N (R 3) H))] (aR Tryz.f57) R H=np G N L1 (R 1) (R 3) (R 4) H:=by
 refine bj (aw _) λR H=> ?_
 delta np;kernel_rfl
def u1(G:an)(N:Nat)(L1:aa->aa->aa->ad->O)(b:aa->aa->aa->aa->aa->aa->ad->O)(x1 a:aa)(x4 x5:aa)(x6 x7:aa)(H:ad):O:=af (av P 49 x5 4) λc=>af (aj P H 47 c) λd=>bf P .len [47] [d] H λe=>af (ar P .lss 3 Z x7 e) λf=>aP (D f) (af (aj P H 27 x1) λh=>af (av P 49 x5 4) λi=>af (aj P H 47 i) λj=>af (a6 P 47 j x7) λk=>af (aj P H 89 k) λl=>aU H (G 111 [h,x4,x6,l] H) λm ae=>aU ae (cS P ae [53,53] a m) λn ah=>af (ar P .add 3 C x7 (J X 1)) λg=>b x1 n x4 x5 x6 g ah) (np G N L1 x1 a x4 H)
def nr(G:an)(N:Nat)(L1:aa->aa->aa->ad->O):Nat->aa->aa->aa->aa->aa->aa->ad->O
 |0,_,_,_,_,_,_,_=>I
 |n+1,x1,a,x4,x5,x6,x7,H=>u1 G N L1 (nr G N L1 n) x1 a x4 x5 x6 x7 H
def YN(G:an)(N:Nat)(L1:aa->aa->aa->ad->O)(b:aa->aa->aa->aa->aa->aa->ad->O):∀R H,aX P G N (aE (aE (j (j (j (aE (aE (j (aE (aE (j (aE (j (j (bb Tryz.f57))))))))))))))) (λR H=>b (R 1) (R 3) (R 4) (R 5) (R 6) (R 7) H) [(2,(λR H=>np G N L1 (R 1) (R 3) (R 4) H)),(1,(λR H=>np G N L1 (R 1) (R 3) (R 4) H)),(0,(λR H=>nm G N (R 3) H))] (aR Tryz.f57) R H=u1 G N L1 b (R 1) (R 3) (R 4) (R 5) (R 6) (R 7) H:=by
 refine bj (aw _) λR H=> ?_
 delta u1;generalize np G N L1=a;revert a;refine id ?_;intro a;kernel_rfl
def u0(G:an)(N:Nat)(L1:aa->aa->aa->ad->O)(x1 a x4:aa)(H:ad):O:=af (av P 27 x1 2) λh=>af (aj P H 24 h) λx10=>bf P .len [24] [x10] H λx11=>af (ar P .lss 3 Z x4 x11) λx12=>aP (D x12) (af (av P 27 x1 2) λb=>af (aj P H 24 b) λc=>af (a6 P 24 c x4) λd=>af (aj P H 49 d) λe=>cA H [J X 0,aa.aB,y Z,J X 0,J X 0,J X 0,aa.aB] λx5 ae=>bY ae (bA P ae 49 x5 e) λah=>af (aj P ah 27 x1) λf=>aU ah (G 52 [f,x4] ah) λg ak=>nr G N L1 N x1 a x4 x5 g (J X 0) ak) (nm G N a H)
def nq(G:an)(N:Nat):Nat->aa->aa->aa->ad->O
 |0,_,_,_,_=>I
 |n+1,x1,a,x4,H=>u0 G N (nq G N n) x1 a x4 H
def YM(G:an)(N:Nat)(L1:aa->aa->aa->ad->O):∀R H,aX P G N (aE (aE (j (aE (j (j (bb Tryz.f57))))))) (λR H=>L1 (R 1) (R 3) (R 4) H) [(0,(λR H=>nm G N (R 3) H))] (aR Tryz.f57) R H=u0 G N L1 (R 1) (R 3) (R 4) H:=by
 refine bj ((aF ag ((aF ag (YP G N L1) ((bX ag ((aF ag ((aF ag ((aF ag ((bX ag ((cj (k:=λm R H=>nr G N L1 m (R 1) (R 3) (R 4) (R 5) (R 6) (R 7) H) ag (λR H=>ag) (λm=>YN G N L1 (nr G N L1 m)))))) (aw _))) (aw _))) (aw _))))))) (aw _))) λR H=> ?_
 delta u0;generalize nm G N=a;generalize nr G N L1 N=b;revert a b;refine id ?_;intro a b;kernel_rfl
def x9(G:an)(N:Nat)(a:aa)(H:ad):O:=bx H (b0 (H).next a) λx1 ae=>nq G N N x1 aa.aB (J X 0) ae
def UY(N:Nat){a:aa}{H:ad}{r:aa×ad}(h:x9 (aC P ax) N a H=D r):aC P ax 57 [a] H=D r:=fT N (S:=λG=>x9 G N a H) Tryz.func57 (λG=>bR ((aF ag ((aF ag ((aF ag (YO G N) ((aF ag ((bX ag ((cj (k:=λm R H=>nq G N m (R 1) (R 3) (R 4) H) ag (λR H=>ag) (λm=>YM G N (nq G N m)))))) (aw _))))) (aw _))) (aw _))) (by delta x9;generalize nq G N N=b;revert b;refine id ?_;intro b;kernel_rfl)) h
def ye(G:an)(f x1:aa)(H:ad):O:=bx H (b0 (H).next f) λx2 ae=>af (aj P ae 27 x2) λx5=>af (av P 27 x2 2) λx6=>af (aj P ae 24 x6) λx7=>cx (a2 P .empty .len [24] [x7]) (a2 P ae .len [24] [x7]) λa=>aU (a.heap ae) (G 52 [x5,a.val] (a.heap ae)) λe ah=>af (av P 27 x2 2) λx10=>af (aj P ah 24 x10) λx11=>cx (a2 P .empty .len [24] [x11]) (a2 P ah .len [24] [x11]) λb=>af (ar P .add 3 Z e b.val) λd=>af (ar P .add 3 Z d x1) λc=>bif eH [0,0,2,6,15,0,32,96,255,0,1023,2047] [0,1,2,3,4,8,10,11] [⟨0,.read x5,λH=>aj P H 27 x2⟩,⟨1,.pure x6,λH=>I⟩,⟨2,.read x7,λH=>aj P H 24 x6⟩,⟨3,a,λH=>a2 P H .len [24] [x7]⟩,⟨4,.cF e ah,λH=>I⟩,⟨5,.pure x10,λH=>I⟩,⟨6,.read x11,λH=>aj P H 24 x10⟩,⟨7,b,λH=>a2 P H .len [24] [x11]⟩,⟨8,.pure d,λH=>I⟩,⟨9,.pure x1,λH=>I⟩,⟨10,.pure c,λH=>I⟩,⟨11,.pure c,λH=>I⟩] ae then(D (c,(b.heap ah)))else I
def U8(N:Nat){a x1:aa}{H:ad}{r:aa×ad}(h:ye (aC P ax) a x1 H=D r):aC P ax 86 [a,x1] H=D r:=fT N (S:=λG=>ye G a x1 H) Tryz.func86 (λ_=>by delta ye;kernel_rfl) h
def yf(G:an)(a x1:aa)(H:ad):O:=bx H (b0 (H).next a) λx2 ae=>af (aj P ae 27 x2) λx5=>af (av P 27 x2 2) λx6=>af (aj P ae 24 x6) λx7=>bf P .len [24] [x7] ae λx8=>aU ae (G 52 [x5,x8] ae) λb ah=>af (ar P .add 3 Z b x1) λx11=>D (x11,ah)
def U9(N:Nat){a x1:aa}{H:ad}{r:aa×ad}(h:yf (aC P ax) a x1 H=D r):aC P ax 88 [a,x1] H=D r:=fT N (S:=λG=>yf G a x1 H) Tryz.func88 (λ_=>by delta yf;kernel_rfl) h
def dC(G:an)(N:Nat)(x10:aa)(H:ad):O:=some (x10,H)
def Vw(G:an)(N:Nat):∀R H,aX P G N (j (j (j (j (bb Tryz.f111))))) (aR Tryz.f111) [] (aR Tryz.f111) R H=dC G N (R 10) H:=by
 refine bj (aw _) λR H=> ?_
 delta dC;kernel_rfl
def lh(G:an)(N:Nat)(x2 x4:aa)(x7 w x10:aa)(H:ad):O:=af (av P 89 x7 1) λg=>af (aj P H 3 g) λh=>af (ar P .geq 3 C h (J X 0)) λa=>ao a C H (qr (aj P H 49 w)) λi ae=>ao a C ae (aH (av P 89 x7 1)) λj ah=>ao a C ah (qr (aj P ah 3 j)) λk ak=>ao a C ak (λq=>b9 ak (G 148 [i,k] ak) q) λl au=>af (ba a (D l) (D (y Z))) λm=>aP (D m) (af (aj P au 27 x4) λo=>af (av P 89 x7 3) λp=>af (aj P au 3 p) λr=>aU au (G 88 [o,r] au) λs b=>af (av P 89 x7 1) λc=>af (aj P b 3 c) λd=>af (ar P .add 3 Z x2 d) λn=>af (c7 P 56 [(0,(J X 2)),(1,n),(2,s)]) λt=>bx b (cv P (b).next 53 1 [(0,t)]) λu e=>aU e (cS P e [53,53] x10 u) λv f=>bif ((aV (aj P au 3 c) d&&(aV (aj P b 3 c) d&&C))&&C)then(dC G N v f)else I) (dC G N x10 au)
def Vy(G:an)(N:Nat):∀R H,aX P G N (j (j (aE (j (j (j (j (j (j (j (j (j (j (j (j (j (aE (j (aE (j (j (j (bb Tryz.f111))))))))))))))))))))))) (λR H=>dC G N (R 10) H) [(0,(λR H=>dC G N (R 10) H))] (aR Tryz.f111) R H=lh G N (R 2) (R 4) (R 7) (R 9) (R 10) H:=by
 refine bj (aw _) λR H=> ?_
 delta lh;generalize dC G N=a;revert a;refine id ?_;intro a;kernel_rfl
def oz(G:an)(N:Nat)(a:aa->aa->aa->aa->aa->aa->aa->ad->O)(x2 x4:aa)(x7 c:aa)(x10 x11 x12:aa)(H:ad):O:=af (ar P .add 3 C x12 (J X 1)) λb=>a x2 x4 x7 c x10 x11 b H
def Vz(G:an)(N:Nat)(a:aa->aa->aa->aa->aa->aa->aa->ad->O):∀R H,aX P G N (j (j (aE (aE (j (aE (j (aE (j (j (j (j (j (j (j (j (j (j (j (j (j (aE (j (aE (j (j (j (bb Tryz.f111)))))))))))))))))))))))))))) (λR H=>a (R 2) (R 4) (R 7) (R 9) (R 10) (R 11) (R 12) H) [(1,(λR H=>lh G N (R 2) (R 4) (R 7) (R 9) (R 10) H)),(0,(λR H=>dC G N (R 10) H))] (aR Tryz.f111) R H=oz G N a (R 2) (R 4) (R 7) (R 9) (R 10) (R 11) (R 12) H:=by
 refine bj (aw _) λR H=> ?_
 delta oz;kernel_rfl
def tt(G:an)(N:Nat)(b:aa->aa->aa->aa->aa->aa->aa->ad->O)(x2 x4:aa)(x7 a:aa)(x10 x11 x12:aa)(H:ad):O:=af (av P 89 x7 5) λc=>af (aj P H 30 c) λd=>bf P .len [30] [d] H λe=>af (ar P .lss 3 Z x12 e) λf=>aP (D f) (af (aj P H 49 a) λg=>af (av P 89 x7 5) λh=>af (aj P H 30 h) λi=>af (a6 P 30 i x12) λj=>af (aj P H 3 j) λk=>aU H (G 148 [g,k] H) λl ae=>aP (D l) (af (ar P .add 3 Z x11 x12) λm=>af (av P 89 x7 5) λn=>af (aj P ae 30 n) λo=>af (a6 P 30 o x12) λp=>af (aj P ae 3 p) λq=>af (ar P .add 3 Z x2 q) λr=>af (c7 P 56 [(0,(J X 2)),(1,m),(2,r)]) λs=>bx ae (cv P (ae).next 53 1 [(0,s)]) λt ah=>aU ah (cS P ah [53,53] x10 t) λu ak=>oz G N b x2 x4 x7 a u x11 x12 ak) (oz G N b x2 x4 x7 a x10 x11 x12 ae)) (lh G N x2 x4 x7 a x10 H)
def mo(G:an)(N:Nat):Nat->aa->aa->aa->aa->aa->aa->aa->ad->O
 |0,_,_,_,_,_,_,_,_=>I
 |n+1,x2,x4,x7,a,x10,x11,x12,H=>tt G N (mo G N n) x2 x4 x7 a x10 x11 x12 H
def Vv(G:an)(N:Nat)(a:aa->aa->aa->aa->aa->aa->aa->ad->O):∀R H,aX P G N (aE (aE (j (aE (j (aE (j (j (j (j (j (j (j (j (j (j (j (j (j (aE (j (aE (j (j (j (bb Tryz.f111)))))))))))))))))))))))))) (λR H=>a (R 2) (R 4) (R 7) (R 9) (R 10) (R 11) (R 12) H) [(1,(λR H=>lh G N (R 2) (R 4) (R 7) (R 9) (R 10) H)),(0,(λR H=>dC G N (R 10) H))] (aR Tryz.f111) R H=tt G N a (R 2) (R 4) (R 7) (R 9) (R 10) (R 11) (R 12) H:=by
 refine bj ((aF ag ((aF ag (Vz G N a) (aw _))) (aw _))) λR H=> ?_
 delta tt;generalize lh G N=b;generalize oz G N a=c;revert b c;refine id ?_;intro b c;kernel_rfl
def iE(G:an)(N:Nat)(x1 x2:aa)(x4 x7:aa)(d x10:aa)(c m:aa)(H:ad):O:=aP (D m) (af (av P 89 x7 1) λn=>af (aj P H 3 n) λo=>af (ar P .add 3 Z x2 o) λp=>af (av P 89 x7 4) λr=>af (aj P H 3 r) λs=>af (c7 P 56 [(0,(J X 1)),(1,p),(2,s)]) λt=>bx H (cv P (H).next 53 1 [(0,t)]) λu ae=>aU ae (cS P ae [53,53] x10 u) λv ah=>dC G N v ah) (af (ar P .eql 3 C c (J X 13)) λw=>aP (D w) (af (aj P H 27 x4) λx=>af (av P 89 x7 3) λz=>af (aj P H 3 z) λA=>aU H (G 52 [x,A] H) λB ae=>mo G N N x2 x4 x7 d x10 B (J X 0) ae) (af (ar P .eql 3 C c (J X 18)) λE=>aP (D E) (af (av P 89 x7 1) λK=>af (aj P H 3 K) λL=>af (ar P .geq 3 C L (J X 0)) λa=>ao a C H (qr (aj P H 49 d)) λM ae=>ao a C ae (aH (av P 89 x7 1)) λQ ah=>ao a C ah (qr (aj P ah 3 Q)) λR ak=>ao a C ak (λq=>b9 ak (G 148 [M,R] ak) q) λS au=>af (ba a (D S) (D (y Z))) λT=>aP (D T) (af (aj P au 27 x4) λU=>aU au (G 88 [U,x1] au) λV b=>af (av P 89 x7 1) λe=>af (aj P b 3 e) λf=>af (ar P .add 3 Z x2 f) λW=>af (c7 P 56 [(0,(J X 2)),(1,V),(2,W)]) λY=>bx b (cv P (b).next 53 1 [(0,Y)]) λab k=>aU k (cS P k [53,53] x10 ab) λag l=>bif ((aV (aj P au 3 e) f&&(aV (aj P b 3 e) f&&C))&&C)then(dC G N ag l)else I) (dC G N x10 au)) (af (ar P .eql 3 C c (J X 19)) λai=>aP (D ai) (af (aj P H 49 d) λal=>af (av P 89 x7 1) λam=>af (aj P H 3 am) λap=>aU H (G 148 [al,ap] H) λaq ae=>aP (D aq) (af (aj P ae 27 x4) λax=>af (av P 89 x7 4) λay=>af (aj P ae 3 ay) λaz=>aU ae (G 86 [ax,az] ae) λaA ah=>af (av P 89 x7 1) λg=>af (aj P ah 3 g) λh=>af (ar P .add 3 Z x2 h) λaw=>af (c7 P 56 [(0,(J X 2)),(1,aw),(2,aA)]) λaC=>bx ah (cv P (ah).next 53 1 [(0,aC)]) λaD ak=>aU ak (cS P ak [53,53] x10 aD) λaE au=>bif ((aV (aj P ae 3 g) h&&(aV (aj P ah 3 g) h&&C))&&C)then(dC G N aE au)else I) (dC G N x10 ae)) (af (ar P .eql 3 C c (J X 20)) λaF=>aP (D aF) (af (aj P H 49 d) λaG=>af (av P 89 x7 1) λaI=>af (aj P H 3 aI) λaK=>aU H (G 148 [aG,aK] H) λaL ae=>aP (D aL) (af (aj P ae 27 x4) λaM=>af (av P 89 x7 4) λaN=>af (aj P ae 3 aN) λaO=>aU ae (G 86 [aM,aO] ae) λaQ ah=>af (av P 89 x7 1) λi=>af (aj P ah 3 i) λj=>af (ar P .add 3 Z x2 j) λaR=>af (c7 P 56 [(0,(J X 2)),(1,aQ),(2,aR)]) λaS=>bx ah (cv P (ah).next 53 1 [(0,aS)]) λaT ak=>aU ak (cS P ak [53,53] x10 aT) λaW au=>bif ((aV (aj P ae 3 i) j&&(aV (aj P ah 3 i) j&&C))&&C)then(dC G N aW au)else I) (dC G N x10 ae)) (dC G N x10 H)))))
def Vx(G:an)(N:Nat):∀R H,aX P G N (j (j (j (j (j (j (j (j (j (j (j (aE (j (aE (j (j (j (bb Tryz.f111)))))))))))))))))) (λR H=>dC G N (R 10) H) [(0,(λR H=>dC G N (R 10) H))] (aR Tryz.f111) R H=iE G N (R 1) (R 2) (R 4) (R 7) (R 9) (R 10) (R 19) (R 114) H:=by
 refine bj ((dx ag (aw _) ((aF ag ((dx ag ((aF ag ((aF ag (Vy G N) ((aF ag ((bX ag ((cj (k:=λm R H=>mo G N m (R 2) (R 4) (R 7) (R 9) (R 10) (R 11) (R 12) H) ag (λR H=>ag) (λm=>Vv G N (mo G N m)))))) (aw _))))) (aw _))) (aw _))) (aw _))))) λR H=> ?_
 delta iE;generalize mo G N N=a;generalize dC G N=b;revert a b;refine id ?_;intro a b;kernel_rfl
def xo(G:an)(N:Nat)(g x1:aa)(x2 M:aa)(H:ad):O:=bx H (b0 (H).next g) λx4 ae=>bx ae (b0 (ae).next M) λx7 ah=>af (av P 27 x4 2) λs=>af (aj P ah 24 s) λt=>af (a6 P 24 t x1) λu=>af (aj P ah 49 u) λv=>cA ah [J X 0,aa.aB,y Z,J X 0,J X 0,J X 0,aa.aB] λe ak=>bY ak (bA P ak 49 e v) λau=>af (av P 89 x7 0) λw=>af (aj P au 3 w) λd=>af (ar P .eql 3 C d (J X 3)) λx=>aP (D x) (af (aj P au 49 e) λz=>af (av P 89 x7 1) λA=>af (aj P au 3 A) λB=>aU au (G 148 [z,B] au) λE a=>aP (D E) (af (av P 89 x7 1) λK=>af (aj P a 3 K) λL=>af (ar P .add 3 Z x2 L) λQ=>af (av P 89 x7 2) λR=>af (aj P a 3 R) λS=>af (ar P .add 3 Z x2 S) λT=>af (c7 P 56 [(0,(J X 2)),(1,Q),(2,T)]) λU=>bx a (cv P (a).next 53 1 [(0,U)]) λV b=>aU b (cS P b [53,53] aa.aB V) λW c=>dC G N W c) (dC G N aa.aB a)) (af (ar P .eql 3 C d (J X 6)) λY=>aP (D Y) (af (aj P au 49 e) λab=>af (av P 89 x7 1) λag=>af (aj P au 3 ag) λai=>aU au (G 148 [ab,ai] au) λal a=>aP (D al) (af (av P 89 x7 1) λam=>af (aj P a 3 am) λao=>af (ar P .add 3 Z x2 ao) λap=>af (av P 89 x7 2) λx50=>af (aj P a 3 x50) λx51=>af (ar P .add 3 Z x2 x51) λx52=>af (av P 89 x7 3) λaq=>af (aj P a 3 aq) λaw=>af (c7 P 56 [(0,(J X 3)),(1,ap),(2,x52),(3,aw)]) λax=>bx a (cv P (a).next 53 1 [(0,ax)]) λay b=>aU b (cS P b [53,53] aa.aB ay) λaz c=>dC G N az c) (dC G N aa.aB a)) (af (ar P .eql 3 C d (J X 8)) λaA=>aP (D aA) (af (aj P au 49 e) λaC=>af (av P 89 x7 1) λaD=>af (aj P au 3 aD) λaE=>aU au (G 148 [aC,aE] au) λaF a=>aP (D aF) (af (av P 89 x7 1) λaG=>af (aj P a 3 aG) λaH=>af (ar P .add 3 Z x2 aH) λaI=>af (av P 89 x7 2) λaK=>af (aj P a 3 aK) λaL=>af (ar P .add 3 Z x2 aL) λaM=>af (c7 P 56 [(0,(J X 3)),(1,aI),(2,aM)]) λaN=>bx a (cv P (a).next 53 1 [(0,aN)]) λaO b=>aU b (cS P b [53,53] aa.aB aO) λaQ c=>dC G N aQ c) (dC G N aa.aB a)) (af (ar P .eql 3 C d (J X 7)) λaR=>aP (D aR) (af (aj P au 49 e) λaS=>af (av P 89 x7 2) λaT=>af (aj P au 3 aT) λaV=>aU au (G 148 [aS,aV] au) λaW a=>aP (D aW) (af (av P 89 x7 1) λaX=>af (aj P a 3 aX) λaY=>af (ar P .add 3 Z x2 aY) λaZ=>af (av P 89 x7 2) λx88=>af (aj P a 3 x88) λx89=>af (ar P .add 3 Z x2 x89) λa0=>af (av P 89 x7 3) λa1=>af (aj P a 3 a1) λa2=>af (c7 P 56 [(0,(J X 4)),(1,aZ),(2,a0),(3,a2)]) λa3=>bx a (cv P (a).next 53 1 [(0,a3)]) λa4 b=>aU b (cS P b [53,53] aa.aB a4) λa5 c=>dC G N a5 c) (dC G N aa.aB a)) (af (ar P .eql 3 C d (J X 9)) λa7=>aP (D a7) (af (aj P au 49 e) λa8=>af (av P 89 x7 3) λa9=>af (aj P au 3 a9) λh=>aU au (G 148 [a8,h] au) λi a=>aP (D i) (af (av P 89 x7 1) λx104=>af (aj P a 3 x104) λj=>af (ar P .add 3 Z x2 j) λk=>af (av P 89 x7 3) λl=>af (aj P a 3 l) λm=>af (ar P .add 3 Z x2 m) λn=>af (c7 P 56 [(0,(J X 4)),(1,k),(2,n)]) λo=>bx a (cv P (a).next 53 1 [(0,o)]) λp b=>aU b (cS P b [53,53] aa.aB p) λq c=>dC G N q c) (dC G N aa.aB a)) (af (ar P .eql 3 C d (J X 11)) λf=>aP (D f) (iE G N x1 x2 x4 x7 e aa.aB d f au) (af (ar P .eql 3 C d (J X 12)) λr=>iE G N x1 x2 x4 x7 e aa.aB d r au))))))
def TD(N:Nat){a x1 x2 b:aa}{H:ad}{r:aa×ad}(h:xo (aC P ax) N a x1 x2 b H=D r):aC P ax 111 [a,x1,x2,b] H=D r:=fT N (S:=λG=>xo G N a x1 x2 b H) Tryz.func111 (λG=>bR ((aF ag ((aF ag ((aF ag ((aF ag (Vw G N) ((aF ag ((bX ag ((aF ag ((dx ag (aw _) ((aF ag ((dx ag (aw _) ((aF ag ((dx ag (aw _) ((aF ag ((dx ag (aw _) ((aF ag ((dx ag (aw _) ((aF ag (Vx G N) (aw _))))) (aw _))))) (aw _))))) (aw _))))) (aw _))))) (aw _))))) (aw _))))) (aw _))) (aw _))) (aw _))) (by delta xo;generalize iE G N=c;generalize dC G N=d;revert c d;refine id ?_;intro c d;kernel_rfl)) h
def xx(G:an)(a x1:aa)(H:ad):O:=bx H (b0 (H).next a) λx2 ae=>af (av P 49 x2 1) λx5=>af (aj P ae 23 x5) λx6=>af (a6 P 23 x6 x1) λx8=>af (aj P ae 46 x8) λb=>aU ae (G 50 [b] ae) λx10 ah=>D (x10,ah)
def TP(N:Nat){a x1:aa}{H:ad}{r:aa×ad}(h:xx (aC P ax) a x1 H=D r):aC P ax 148 [a,x1] H=D r:=fT N (S:=λG=>xx G a x1 H) Tryz.func148 (λ_=>by delta xx;kernel_rfl) h
end
end
section
open Go.bp
section
variable {x:bQ}{H:ad}{ok:Nat->Prop}
def GO(e:dL x){a b cc d:aa}{zX f:Nat}(aN:f<=x.o.length)(aD:aZ fr H ok x.o cc)(aT:H.get zX=D (.row Z 5 [[a,b,cc,d,J X x.main]])){N:Nat}:∀(j k m:Nat),k+j=f->j<m->
  W (nk (aC P ax) N m (J X (f:Nat)) (.ptr zX 0 0) (J X (bE x.o k:Nat)) (J X (k:Nat)) H) λr H'=>r= J X (bE x.o f:Nat)/\H'=H
 |_,_,0,_,hm=>ai
 |0,k,m+1,l,_=>by
  have h:¬(k:Int)<(f:Int):=ai;simp-implicitDefEqProofs(disch:=try exact al)only[rH,uZ,nk,aq,aG,h,decide_false];obtain rfl:k=f:=ai;exact aK.2 ⟨rfl,rfl⟩
 |j+1,k,m+1,l,v=>by
  have h:(k:Int)<(f:Int):=ai;have i:k<x.o.length:=ai;have u:=e.o;obtain⟨L,n,gv,gw,q,s,b8,cg⟩:=aD.Dd (j:=(k:Int)) (g:=x.o[k]) ai (by simp[i]);have p:bE x.o (k+1)=bE x.o k+x.o[k].vars.length:=BE (by simp[i]);have z:=xg e (List.getElem_mem i);have w:=sb e k;have on:=GO e aN aD aT (N:=N) j (k+1) m ai ai;rw[p]at on;generalize x.o[k]=c at*;have t:IntKind.i64.wrap ((bE x.o k:Int)+(c.vars.length:Int))=((bE x.o k+c.vars.length:Nat):Int):=by rw[wrap_i64 ai ai];omega
  simp-implicitDefEqProofs(disch:=try exact al)only[uZ,nk,bf,aq,aO,aG,aM,h,decide_true,dy aT,q,s _ (ay.refl _),b8.len dh,t,c3 (show k<=1000000000 by omega)];exact on
def tl(h:dL x){V:aa}(aD:c2 H ok x V){f:Nat}(aN:f<=x.o.length):W (aC P ax 52 [V,J X (f:Nat)] H) λr H'=>r= J X (bE x.o f:Nat)/\ay H H':=by
 obtain⟨_,rfl,a,b,cc,d,rfl,ae,ah,ak,au⟩:=aD;refine bZ (λ_=>UX (f+1)) ?_;have c:=ay.push H (.row Z 5 [[a,b,cc,d,J X x.main]]);have g:=ad.bq H (.row Z 5 [[a,b,cc,d,J X x.main]]);simp-implicitDefEqProofs(disch:=try exact al)only[x3,aq,dZ ae ah ak au];refine(GO h aN (ak.aI c) g f 0 (f+1) ai ai).mono ?_;rintro r H' ⟨e,rfl⟩;exact⟨e,c⟩
def Ts(g:dL x){V:aa}(aD:c2 H ok x V){f:Nat}(aN:f<=1000000):W (aC P ax 88 [V,J X (f:Nat)] H) λr H'=>r= J X (fS x f:Nat)/\ay H H':=by
 have i:=aD;have e:=kY g;obtain⟨_,rfl,a,b,cc,d,rfl,ae,ah,ak,au⟩:=aD;refine bZ (λ_=>U9 0) ?_;have h:=ay.push H (.row Z 5 [[a,b,cc,d,J X x.main]]);have c:=ad.bq H (.row Z 5 [[a,b,cc,d,J X x.main]]);simp-implicitDefEqProofs(disch:=try exact al)only[yf,bf,aq,aO,aM,dZ ae ah ak au,ch c,dy c,ak.len c0];refine bk (tl g (i.aI h) (b4 _)) ?_;rintro _ K ⟨rfl,p⟩;refine⟨p.1,?_⟩;have j:IntKind.i64.wrap ((bE x.o x.o.length:Int)+(f:Int))=((fS x f:Nat):Int):=by rw[wrap_i64 (by unfold ey at e;omega) (by unfold ey at e;omega),fS,ey];omega
 simp-implicitDefEqProofs(disch:=try exact al)only[aq,aG,j];exact aK.2 ⟨rfl,h.trans p⟩
def Tk(f:dL x){V:aa}(aD:c2 H ok x V){g:Nat}(q:g<=1000000):W (aC P ax 86 [V,J X (g:Nat)] H) λr H'=>r= J X (gr x g:Nat)/\ay H H':=by
 have k:=aD;have i:=kY f;have n:=f.o;obtain⟨_,rfl,a,b,cc,d,rfl,ae,ah,ak,au⟩:=aD;refine bZ (λ_=>U8 0) ?_;have j:=ay.push H (.row Z 5 [[a,b,cc,d,J X x.main]]);have c:=ad.bq H (.row Z 5 [[a,b,cc,d,J X x.main]]);have s:aV (D (.agg [a,b,cc,d,J X x.main])) (.agg [a,b,cc,d,J X x.main])=true:=by simp[aV,aa.beq,eE.beq,ae.rd,ah.rd,ak.rd,au.rd]
 simp-implicitDefEqProofs(disch:=try exact al)only[ye,aq,aO,aM,dZ ae ah ak au,ch c,dy c,ak.len c0];refine bk (tl f (k.aI j) (b4 _)) ?_;rintro _ K ⟨rfl,p⟩;refine⟨p.1,?_⟩;have l:IntKind.i64.wrap ((bE x.o x.o.length:Int)+(x.o.length:Int))=((ey x.o+x.o.length:Nat):Int):=by rw[wrap_i64 (by unfold ey at i;omega) (by unfold ey at i;omega),ey];omega
 have m:IntKind.i64.wrap (((ey x.o+x.o.length:Nat):Int)+(g:Int))=((gr x g:Nat):Int):=by rw[wrap_i64 ai ai,gr];omega
 simp-implicitDefEqProofs(disch:=try exact al)only[aq,aO,aG,aM,dy (p.get c),ak.len c0,l,m];refine cI (cJ ag ?_) (aK.2 ⟨rfl,j.trans p⟩);refine sd ?_ ?_
 ·simp only[cw,bo.K.heap,List.forall_mem_cons]
  repeat' first|exact ay.refl _|exact p|(intro _ h;cases h;done)|refine aL ?_ ?_
 ·simp only[List.forall_mem_cons]
  repeat' first|(intro v e;cases e;done)|(intro v e;exact .inl rfl)|(intro v e;cases e;refine .inr λH' p=> ?_;simp only[dy (p.get c),eA ak];done)|(intro _ h;cases h;done)|refine aL ?_ ?_
def S9(g:right x=C){V:aa}(aD:c2 H ok x V):W (aC P ax 25 [V] H) λr H'=>r= J X (cL x:Nat)/\ay H H':=by
 have l:=aD;have e:=je g;have k:=kY e;have t:=e.o;have u:=e.globals;obtain⟨_,rfl,a,b,cc,d,rfl,ae,ah,ak,au⟩:=aD;refine bZ (λ_=>UC 0) ?_;have j:=ay.push H (.row Z 5 [[a,b,cc,d,J X x.main]]);have c:=ad.bq H (.row Z 5 [[a,b,cc,d,J X x.main]]);have w:aV (D (.agg [a,b,cc,d,J X x.main])) (.agg [a,b,cc,d,J X x.main])=true:=by simp[aV,aa.beq,eE.beq,ae.rd,ah.rd,ak.rd,au.rd]
 simp-implicitDefEqProofs(disch:=try exact al)only[xL,aq,dZ ae ah ak au,ch c];refine bk (AR (l.aI j) (ti e) (tj g)) ?_;rintro _ K ⟨rfl,p⟩;refine⟨p.1,?_⟩;rw[g];simp-implicitDefEqProofs(disch:=try exact al)only[aq,aO,aM,Bool.not_true,ch (p.get c),dy (p.get c),ak.len c0];refine bk (tl e ((l.aI j).aI p) (b4 _)) ?_;rintro _ s ⟨rfl,i⟩;refine⟨i.1,?_⟩;have m:=p.trans i;have n:IntKind.i64.wrap ((bE x.o x.o.length:Int)+(x.o.length:Int))=((ey x.o+x.o.length:Nat):Int):=by rw[wrap_i64 (by unfold ey at k;omega) (by unfold ey at k;omega),ey];omega
 have q:IntKind.i64.wrap (((ey x.o+x.o.length:Nat):Int)+(x.globals.length:Int))=((cL x:Nat):Int):=by rw[wrap_i64 ai ai,cL];omega
 simp-implicitDefEqProofs(disch:=try exact al)only[aq,aO,aG,aM,dy (m.get c),ak.len c0,ah.len dh,n,q];refine cI (cJ ag ?_) (aK.2 ⟨rfl,j.trans m⟩);refine sd ?_ ?_
 ·simp only[cw,bo.K.heap,List.forall_mem_cons]
  repeat' first|exact ay.refl _|exact i|(intro _ h;cases h;done)|refine aL ?_ ?_
 ·simp only[List.forall_mem_cons]
  repeat' first|(intro v f;cases f;done)|(intro v f;exact .inl rfl)|(intro v f;cases f;refine .inr λH' p=> ?_;simp only[dy (p.get (ay.get ‹_› c)),eA ak,eA ah];done)|(intro _ h;cases h;done)|refine aL ?_ ?_
end
end
section
open Go.bp
def jj(l:Nat){k a b e:Int}:cv P l 53 1 [(0,.agg [J X k,J X a,J X b,J X e])]=D (.aJ l 0 1 4 (D 1),.row Z 4 [[J X k,J X a,J X b,J X e]]):=nI g4 l rfl rfl rfl
def bG.iU{H:ad}{B:Nat}{l:List bz}{v:aa}{k a b e:Int}(d:bz)(aA:cT d=[J X k,J X a,J X b,J X e])(h:bG c6 B bH H l v)(m:B<=H.next)(az:l.length<=999999998):
  ∃c H',cS P (H.push (.row Z 4 [[J X k,J X a,J X b,J X e]])) [53,53] v (.aJ H.next 0 1 4 (D 1))=D (c,H')/\bG c6 B bH H' (l++[d]) c/\dt B H H'/\H.next<H'.next:=by
 obtain⟨c,H',f,g,i,j,_⟩:=h.vB g4 m (ay.refl _) (a:=d) (cs:=[J X k,J X a,J X b,J X e]) aA.symm (λ_ _=>trivial) ai;exact⟨c,H',f,g,i,j⟩
section
variable {H:ad}{ok:Nat->Prop}{x:bQ}{f:Nat}{c:b3}{i:In}{gv gw wi:aa}
def kr(ae:aZ ei H ok c.vars gv)(ah:aZ e7 H ok c.ins gw){n:Int}(aS:a1 c n≠bt):W (aC P ax 148 [.agg (ct c gv gw),J X n] H) λr H'=>r= y (c8 c n)/\ay H H':=by
 obtain⟨dq,cP,b⟩:=Ax aS;refine bZ (λ_=>TP 0) ?_;have pp:=ay.push H (.row Z 7 [ct c gv gw]);have bP:=ad.bq H (.row Z 7 [ct c gv gw]);obtain⟨q,d,e⟩:=ae.yA dq b;have a:b0 H.next (.agg (ct c gv gw))=D (.ptr H.next 0 0,.row Z 7 [ct c gv gw]):=za ae ah _ _ _ _ _ _
 simp-implicitDefEqProofs(disch:=try exact al)only[xx,aq,aO,aM,a,gj bP,d,e _ pp];refine bk (AN (a1 c n)) ?_;rintro _ K ⟨rfl,p⟩;exact⟨p.1,aK.2 ⟨rfl,pp.trans p⟩⟩
def GB(a:dL x){V:aa}(aD:c2 H ok x V){n:Int}(b:0<=n)(aS:n<=1000):W (aC P ax 86 [V,J X n] H) λr H'=>r= J X (gr x n.toNat:Nat)/\ay H H':=by
 obtain⟨k,rfl⟩:∃k:Nat,n=k:=⟨n.toNat,ai⟩;exact Tk a aD ai
def GJ(a:dL x){V:aa}(aD:c2 H ok x V){n:Int}(b:0<=n)(aS:n<=1000):W (aC P ax 88 [V,J X n] H) λr H'=>r= J X (fS x n.toNat:Nat)/\ay H H':=by
 obtain⟨k,rfl⟩:∃k:Nat,n=k:=⟨n.toNat,ai⟩;exact Ts a aD ai
def Vb(a:dL x){V:aa}(aD:c2 H ok x V){n:Int}(b:0<=n)(aS:n.toNat<=x.o.length):W (aC P ax 52 [V,J X n] H) λr H'=>r= J X (bE x.o n.toNat:Nat)/\ay H H':=by
 obtain⟨k,rfl⟩:∃k:Nat,n=k:=⟨n.toNat,ai⟩;exact tl a aD (by simpa using aS)
def BN(a:dL x)(aN:f<=x.o.length){n:Int}(aS:a1 c n≠bt)(d:c.vars.length<=4000):IntKind.i64.wrap ((bE x.o f:Int)+n)=((bE x.o f+n.toNat:Nat):Int):=by
 obtain⟨b,ae,_⟩:=vo aS;have:=sb a f;have:=a.o;rw[wrap_i64 ai ai];omega
structure ie(x:bQ)(f:Nat)(c:b3)(i:In)(a b cc d gv gw wi:aa)(A:Nat)(H:ad):Prop where
 aT:H.get A=some (.row false 5 [[a,b,cc,d,.int .i64 x.main]])
 aQ:H.get (A+1)=some (.row false 6 [[.int .i64 i.op,.int .i64 i.a,.int .i64 i.b,.int .i64 i.c,.int .i64 i.n,wi]])
 bP:H.get (A+2)=some (.row false 7 [ct c gv gw])
 aD:c2 H (· <A) x (.agg [a,b,cc,d,.int .i64 x.main])
 ae:aZ ei H (· <A) c.vars gv
 ah:aZ e7 H (· <A) c.ins gw
 hw:aZ bu H (· <A) i.args wi
def ie.hP{a b cc d:aa}{A:Nat}{H H':ad}(s:ie x f c i a b cc d gv gw wi A H)(p:dt (A+3) H H'):ie x f c i a b cc d gv gw wi A H':=by
 have k:eB H (· <A) H' (· <A):=λl b (az:l<A) g=>⟨az,by rw[p.2 l ai];exact g⟩
 exact⟨(p.2 _ ai).trans s.aT,(p.2 _ ai).trans s.aQ,(p.2 _ ai).trans s.bP,s.aD.keep k,s.ae.keep k,s.ah.keep k,s.hw.keep k⟩
def ie.lt{a b cc d:aa}{A:Nat}{H:ad}(s:ie x f c i a b cc d gv gw wi A H):A+3<=H.next:=by have:=ad.b6 s.bP;omega
def ie.aI{a b cc d:aa}{A:Nat}{H H':ad}(s:ie x f c i a b cc d gv gw wi A H)(p:ay H H'):ie x f c i a b cc d gv gw wi A H':=s.hP (er p s.lt)
def QE(m:dL x)(aN:x.o[f]? =D c){a b cc d:aa}{A:Nat}(G:i.op=13)(M:dw x f c i=C){H:ad}{l:List bz}{v:aa}(s:ie x f c i a b cc d gv gw wi A H)(az:bG c6 (A+3) bH H l v)(S:l.length<=1000){N:Nat}:
  W (lh (aC P ax) N (J X (bE x.o f:Nat)) (.ptr A 0 0) (.ptr (A+1) 0 0) (.ptr (A+2) 0 0) v H) λr H'=>bG c6 (A+3) bH H' (l++(bif decide (0<=i.a)&&c8 c i.a then[.copy (bE x.o f+i.a.toNat) (fS x i.c.toNat)]else[])) r/\dt (A+3) H H':=by
 obtain⟨g,q⟩:=pf G M;have U:=s.lt;by_cases u:0<=i.a
 ·have w:a1 c i.a≠bt:=by
   rcases q.res with h|h
   ·omega
   exact h.2.1
  have L:i.c<=1000:=by have:=m.o;have:=(List.getElem?_eq_some_iff.1 q.at_.2).1;omega
  have O:=BN m (f:=f) (by have:=(List.getElem?_eq_some_iff.1 aN).1;omega) w (iV (m.code aN)).vars;simp-implicitDefEqProofs(disch:=try exact al)only[lh,aq,aO,aG,aM,bg s.aQ,u,decide_true,iy s.bP];refine cE (kr s.ae s.ah w) ?_;rintro _ K ⟨rfl,p⟩;refine⟨p.1,?_⟩;have j:=s.aI p;cases T:c8 c i.a with
  |false=>
   simp-implicitDefEqProofs(disch:=try exact al)only[dC,aq,Bool.and_false];exact aK.2 ⟨by simpa using az.aI p,er p ai⟩
  |true=>
   simp-implicitDefEqProofs(disch:=try exact al)only[aq,aO,aM,bg j.aQ,ch j.aT];refine bk (GJ m j.aD q.at_.1 L) ?_;rintro _ Q ⟨rfl,n⟩;refine⟨n.1,?_⟩;have z:=j.aI n;have V:=z.lt;obtain⟨Y,H',B,E,t,R⟩:=((az.aI p).aI n).iU (.copy (bE x.o f+i.a.toNat) (fS x i.c.toNat)) (k:=2) (e:=0) rfl ai ai;simp-implicitDefEqProofs(disch:=try exact al)only[dC,aq,aO,aG,h1,aM,bg z.aQ,bg j.aQ,O,jj,B];have:=t.1;exact aK.2 ⟨E,(er (p.trans n) ai).trans t⟩
 ·simp-implicitDefEqProofs(disch:=try exact al)only[lh,dC,aq,aO,aG,aM,bg s.aQ,u,decide_false,Bool.false_and];exact aK.2 ⟨by simpa using az,.refl _ _⟩
def FJ(h:dL x)(aN:x.o[f]? =D c){a b cc d:aa}{A:Nat}(B:i.op=13)(G:dw x f c i=C){N:Nat}:∀(j k m:Nat) (H:ad) (l:List bz) (v:aa),k+j=i.args.length->j<m->ie x f c i a b cc d gv gw wi A H->bG c6 (A+3) bH H l v->l.length<=k->
  W (mo (aC P ax) N m (J X (bE x.o f:Nat)) (.ptr A 0 0) (.ptr (A+1) 0 0) (.ptr (A+2) 0 0) v (J X (bE x.o i.c.toNat:Nat)) (J X (k:Nat)) H)
   λr H'=>bG c6 (A+3) bH H' (l++(fW c (bE x.o f) (bE x.o i.c.toNat) (i.args.drop k) k++(bif decide (0<=i.a)&&c8 c i.a then[.copy (bE x.o f+i.a.toNat) (fS x i.c.toNat)]else[]))) r/\dt (A+3) H H'
 |_,_,0,_,_,_,_,hm,_,_,_=>ai
 |0,k,m+1,H,l,v,Y,_,s,az,ab=>by
  obtain⟨g,t⟩:=pf B G;have V:=(iV (h.code t.at_.2)).params;have af:=t.len;have O:¬(k:Int)<(i.args.length:Int):=ai;simp-implicitDefEqProofs(disch:=try exact al)only[mo,tt,bf,aq,aO,aG,aM,eP s.aQ,s.hw.len cU,O,decide_false];rw[List.drop_of_length_le ai,fW,List.nil_append];exact QE h aN B G s az ai
 |j+1,k,m+1,H,l,v,Y,aw,s,az,ab=>by
  obtain⟨g,t⟩:=pf B G;have V:=(iV (h.code t.at_.2)).params;have af:=t.len;have O:(k:Int)<(i.args.length:Int):=ai;have E:k<i.args.length:=ai;have aD:=s.lt;have av:=(List.getElem?_eq_some_iff.1 t.at_.2).1;have au:=h.o;have aA:=sb h i.c.toNat;obtain⟨R,_⟩:=t.arg (j:=k) (v:=i.args[k]) (by simp[E]);have ap:=BN h (f:=f) (by have:=(List.getElem?_eq_some_iff.1 aN).1;omega) R (iV (h.code aN)).vars;obtain⟨q,Q,ag⟩:=s.hw.int (j:=(k:Int)) (a:=i.args[k]) ai (by simp[E]);have on:=FJ h aN (a:=a) (b:=b) (cc:=cc) (d:=d) (A:=A) B G (N:=N) j (k+1) m;have ak:∀{L:ad},ie x f c i a b cc d gv gw wi A L->aj P L 3 q=D (J X i.args[k]):=λs2=>by
   obtain⟨aF,u,z⟩:=s2.hw.int (j:=(k:Int)) (a:=i.args[k]) ai (by simp[E]);rw[Q]at u;cases u;exact z
  have U:i.args.drop k=i.args[k]::i.args.drop (k+1):=List.drop_eq_getElem_cons E;rw[U,fW];generalize i.args[k]=n at*;have ao:IntKind.i64.wrap ((bE x.o i.c.toNat:Int)+(k:Int))=((bE x.o i.c.toNat+k:Nat):Int):=by rw[wrap_i64 ai ai];omega
  simp-implicitDefEqProofs(disch:=try exact al)only[mo,tt,bf,aq,aO,aG,aM,eP s.aQ,s.hw.len cU,O,decide_true,iy s.bP,Q,ag];refine bk (kr s.ae s.ah R) ?_;rintro _ K ⟨rfl,p⟩;refine⟨p.1,?_⟩;have w:=s.aI p;have aE:=w.lt;cases ay:c8 c n with
  |false=>
   simp-implicitDefEqProofs(disch:=try exact al)only[oz,aq,aO,aG,c3 (show k<=1000000000 by omega)];refine(on K l v ai ai w (az.aI p) ai).mono ?_;rintro r H' ⟨u,z⟩;exact⟨u,(er p ai).trans z⟩
  |true=>
   obtain⟨an,H',S,T,M,ar⟩:=(az.aI p).iU (.copy (bE x.o i.c.toNat+k) (bE x.o f+n.toNat)) (k:=2) (e:=0) rfl ai ai;have hle:=M.1;simp-implicitDefEqProofs(disch:=try exact al)only[oz,aq,aO,aG,h1,aM,eP w.aQ,Q,ak w,ao,ap,jj,S,c3 (show k<=1000000000 by omega)];have am:ie x f c i a b cc d gv gw wi A H':=w.hP M;refine(on H' _ an ai ai am T (by simp;omega)).mono ?_;rintro r L ⟨u,z⟩;refine⟨?_,((er p ai).trans M).trans z⟩;simpa using u
def Tr(Q:dL x)(aN:x.o[f]? =D c){V:aa}(aD:c2 H ok x V){ok':Nat->Prop}(hw:aZ bu H ok' i.args wi)(E:dw x f c i=C):W (aC P ax 111 [V,J X (f:Nat),J X (bE x.o f:Nat),.agg (cf i wi)] H) λr H'=>bG c6 H.next bH H' (cK x f c i) r/\ay H H':=by
 have bb:=aD;obtain⟨_,rfl,a,b,cc,d,rfl,ae,ah,ak,au⟩:=aD;refine bZ (λ_=>TD 10) ?_;obtain⟨A,U⟩:∃A,A=H.next:=⟨_,rfl⟩
 have bw:=(List.getElem?_eq_some_iff.1 aN).1;have bv:=Q.o;have a_:=iV (Q.code aN);obtain⟨L,n,gv,gw,bc,bd,b8,cg⟩:∃L n v w,a6 P 24 cc (J X f)=D (.ptr L n 0)/\(∀H',ay H H'->aj P H' 49 (.ptr L n 0)=D (.agg (ct c v w)))/\aZ ei H ok c.vars v/\aZ e7 H ok c.ins w:=by
  obtain⟨L,n,ro,els,cs,ae,_,ah,ak,v,w,rfl,b8,cg⟩:=ak.at_ (K:=fr) c0 (j:=(f:Int)) (a:=c) ai (by simpa using aN);exact⟨L,n,v,w,ae,λH' p=>fY (n:=7) (c:=0) ag ag (p.get ah) ak (by exact b4 7),b8,cg⟩
 have a3:=ay.push H (.row Z 5 [[a,b,cc,d,J X x.main]]);have aT:=ad.bq H (.row Z 5 [[a,b,cc,d,J X x.main]]);have aU:=ay.push (H.push (.row Z 5 [[a,b,cc,d,J X x.main]])) (.row Z 6 [cf i wi]);have aQ:=ad.bq (H.push (.row Z 5 [[a,b,cc,d,J X x.main]])) (.row Z 6 [cf i wi]);have a2:=ay.push ((H.push (.row Z 5 [[a,b,cc,d,J X x.main]])).push (.row Z 6 [cf i wi])) (.row Z 7 [ct c gv gw]);have bP:=ad.bq ((H.push (.row Z 5 [[a,b,cc,d,J X x.main]])).push (.row Z 6 [cf i wi])) (.row Z 7 [ct c gv gw]);have st:=nK (c:=c) (v:=gv) (w:=gw) (ad.bq ((H.push (.row Z 5 [[a,b,cc,d,J X x.main]])).push (.row Z 6 [cf i wi])) (.row Z 7 [[J X 0,.aB,y Z,J X 0,J X 0,J X 0,.aB]])) b8.one cg.one
 simp only[ad.ds]at st;have a8:aj P ((H.push (.row Z 5 [[a,b,cc,d,J X x.main]])).push (.row Z 6 [cf i wi])) 24 (.ptr H.next 0 2)=D cc:=(dy (aU.get aT)).2.2.1;simp-implicitDefEqProofs(disch:=try exact al)only[xo,Nat.reduceAdd,aq,aO,aM,ad.ds,dZ ae ah ak au,db hw,a8,bc,bd _ (a3.trans aU),st,ad.fE];have ao:=(a3.trans aU).trans a2;have ba:aZ bu (((H.push (.row Z 5 [[a,b,cc,d,J X x.main]])).push (.row Z 6 [cf i wi])).push (.row Z 7 [ct c gv gw])) (· <A) i.args wi:=U▸hw.below.aI ao;have m:ie x f c i a b cc d gv gw wi A (((H.push (.row Z 5 [[a,b,cc,d,J X x.main]])).push (.row Z 6 [cf i wi])).push (.row Z 7 [ct c gv gw])):=by
  refine⟨?_,?_,?_,?_,U▸b8.below.aI ao,U▸cg.below.aI ao,ba⟩
  ·rw[U];exact a2.get (aU.get aT)
  ·have z:=a2.get aQ;rw[ad.ds,<-U]at z;exact z
  ·rw[U];simpa using bP
  ·rw[U];exact bb.keep λl b _ g=>⟨ad.b6 g,ao.get g⟩
 have bB:(((H.push (.row Z 5 [[a,b,cc,d,J X x.main]])).push (.row Z 6 [cf i wi])).push (.row Z 7 [ct c gv gw])).next=A+3:=by rw[U];simp
 generalize (((H.push (.row Z 5 [[a,b,cc,d,J X x.main]])).push (.row Z 6 [cf i wi])).push (.row Z 7 [ct c gv gw]))=H0 at*;rw[<-U];clear aT aQ bP st a8 a3 aU a2;have fin:∀{ap aW:ad} {r:aa} {l:List bz},bG c6 (A+3) bH aW l r->ay H0 ap->dt (A+3) ap aW->bG c6 A bH aW l r/\ay H aW:=λg p q=>
  ⟨⟨g.eG,λL n c e=>by have:=g.low L n c e;omega⟩,by have:=ao.1;have:=p.1;have:=q.1;omega,λl az=>by rw[q.2 l ai,p.2 l ai,ao.2 l az]⟩
 have nil:∀{ap:ad},cK x f c i=[]->ay H0 ap->W (dC (aC P ax) 10 aa.aB ap) λr H'=>bG c6 A bH H' (cK x f c i) r/\ay H H':=λe p=>by
  rw[dC];exact aK.2 (by rw[e];exact fin (bG.nil _ _ _ _) p (.refl _ _))
 have R:=eP m.aQ;have O:∀{n:Int},a1 c n≠bt->IntKind.i64.wrap ((bE x.o f:Int)+n)=((bE x.o f+n.toNat:Nat):Int):=λh=>BN Q ai h a_.vars
 by_cases ak:i.op=3
 ·have t:∀j:Int,(i.op==j)=(3==j):=λj=>by rw[ak]
  have u:=(vi ak E).1;have Y:a1 c i.b≠bt:=(vi ak E).2▸u;have e:cK x f c i=bif c8 c i.a then[bz.copy (bE x.o f+i.a.toNat) (bE x.o f+i.b.toNat)]else[]:=by simp only[cK,ak]
  simp-implicitDefEqProofs(disch:=try exact al)only[aq,aO,aG,aM,R,bg m.aQ,t,Int.reduceBEq,iy m.bP];refine bk (kr m.ae m.ah u) ?_;rintro _ K ⟨rfl,p⟩;refine⟨p.1,?_⟩;have s:=m.aI p;have an:=s.lt;cases B:c8 c i.a with
  |false=>
   simp-implicitDefEqProofs(disch:=try exact al)only[aq];exact nil (by rw[e,B];rfl) p
  |true=>
   rw[B]at e;obtain⟨ab,H',G,M,N,T⟩:=(bG.nil c6 (A+3) bH K).iU (.copy (bE x.o f+i.a.toNat) (bE x.o f+i.b.toNat)) (k:=2) (a:=((bE x.o f+i.a.toNat:Nat):Int)) (b:=((bE x.o f+i.b.toNat:Nat):Int)) (e:=0) rfl ai (by simp);simp-implicitDefEqProofs(disch:=try exact al)only[dC,aq,aO,aG,h1,aM,bg s.aQ,O u,O Y,jj,G];exact aK.2 (by rw[e];exact fin M p N)
 have bm:(i.op==3)=false:=beq_eq_false_iff_ne.2 ak;by_cases aH:i.op=6
 ·have t:∀j:Int,(i.op==j)=(6==j):=λj=>by rw[aH]
  have u:=(vj aH E).1;have aV:dW x (a1 c i.b) i.c≠bt:=(vj aH E).2▸u;have Y:=pV aV;have am:=(pU Q aV).1;have e:cK x f c i=bif c8 c i.a then[bz.load (bE x.o f+i.a.toNat) (bE x.o f+i.b.toNat) i.c.toNat]else[]:=by simp only[cK,aH]
  simp-implicitDefEqProofs(disch:=try exact al)only[aq,aO,aG,aM,R,bg m.aQ,t,Int.reduceBEq,iy m.bP];refine bk (kr m.ae m.ah u) ?_;rintro _ K ⟨rfl,p⟩;refine⟨p.1,?_⟩;have s:=m.aI p;have an:=s.lt;cases B:c8 c i.a with
  |false=>
   simp-implicitDefEqProofs(disch:=try exact al)only[aq];exact nil (by rw[e,B];rfl) p
  |true=>
   rw[B]at e;obtain⟨ab,H',G,M,N,T⟩:=(bG.nil c6 (A+3) bH K).iU (.load (bE x.o f+i.a.toNat) (bE x.o f+i.b.toNat) i.c.toNat) (k:=3) (a:=((bE x.o f+i.a.toNat:Nat):Int)) (b:=((bE x.o f+i.b.toNat:Nat):Int)) (e:=i.c) (by rw[cT,l8 am]) ai (by simp);simp-implicitDefEqProofs(disch:=try exact al)only[dC,aq,aO,aG,h1,aM,bg s.aQ,O u,O Y,jj,G];exact aK.2 (by rw[e];exact fin M p N)
 have bn:(i.op==6)=false:=beq_eq_false_iff_ne.2 aH;by_cases aP:i.op=8
 ·have t:∀j:Int,(i.op==j)=(8==j):=λj=>by rw[aP]
  have u:=(vl aP E).1;have Y:=k3 (vl aP E).2.1;have e:cK x f c i=bif c8 c i.a then[bz.load (bE x.o f+i.a.toNat) (bE x.o f+i.b.toNat) 0]else[]:=by simp only[cK,aP]
  simp-implicitDefEqProofs(disch:=try exact al)only[aq,aO,aG,aM,R,bg m.aQ,t,Int.reduceBEq,iy m.bP];refine bk (kr m.ae m.ah u) ?_;rintro _ K ⟨rfl,p⟩;refine⟨p.1,?_⟩;have s:=m.aI p;have an:=s.lt;cases B:c8 c i.a with
  |false=>
   simp-implicitDefEqProofs(disch:=try exact al)only[aq];exact nil (by rw[e,B];rfl) p
  |true=>
   rw[B]at e;obtain⟨ab,H',G,M,N,T⟩:=(bG.nil c6 (A+3) bH K).iU (.load (bE x.o f+i.a.toNat) (bE x.o f+i.b.toNat) 0) (k:=3) (a:=((bE x.o f+i.a.toNat:Nat):Int)) (b:=((bE x.o f+i.b.toNat:Nat):Int)) (e:=0) rfl ai (by simp);simp-implicitDefEqProofs(disch:=try exact al)only[dC,aq,aO,aG,h1,aM,bg s.aQ,O u,O Y,jj,G];exact aK.2 (by rw[e];exact fin M p N)
 have bp:(i.op==8)=false:=beq_eq_false_iff_ne.2 aP;by_cases aL:i.op=7
 ·have t:∀j:Int,(i.op==j)=(7==j):=λj=>by rw[aL]
  have Y:=(vk aL E).1;have aV:dW x (a1 c i.a) i.c≠bt:=(vk aL E).2▸Y;have u:=pV aV;have am:=(pU Q aV).1;have e:cK x f c i=bif c8 c i.b then[bz.store (bE x.o f+i.a.toNat) (bE x.o f+i.b.toNat) i.c.toNat]else[]:=by simp only[cK,aL]
  simp-implicitDefEqProofs(disch:=try exact al)only[aq,aO,aG,aM,R,bg m.aQ,t,Int.reduceBEq,iy m.bP];refine bk (kr m.ae m.ah Y) ?_;rintro _ K ⟨rfl,p⟩;refine⟨p.1,?_⟩;have s:=m.aI p;have an:=s.lt;cases B:c8 c i.b with
  |false=>
   simp-implicitDefEqProofs(disch:=try exact al)only[aq];exact nil (by rw[e,B];rfl) p
  |true=>
   rw[B]at e;obtain⟨ab,H',G,M,N,T⟩:=(bG.nil c6 (A+3) bH K).iU (.store (bE x.o f+i.a.toNat) (bE x.o f+i.b.toNat) i.c.toNat) (k:=4) (a:=((bE x.o f+i.a.toNat:Nat):Int)) (b:=((bE x.o f+i.b.toNat:Nat):Int)) (e:=i.c) (by rw[cT,l8 am]) ai (by simp);simp-implicitDefEqProofs(disch:=try exact al)only[dC,aq,aO,aG,h1,aM,bg s.aQ,O u,O Y,jj,G];exact aK.2 (by rw[e];exact fin M p N)
 have bo:(i.op==7)=false:=beq_eq_false_iff_ne.2 aL;by_cases aS:i.op=9
 ·have t:∀j:Int,(i.op==j)=(9==j):=λj=>by rw[aS]
  have aR:=(vm aS E).1;have u:=k3 (vm aS E).2.1;have e:cK x f c i=bif c8 c i.c then[bz.store (bE x.o f+i.a.toNat) (bE x.o f+i.c.toNat) 0]else[]:=by simp only[cK,aS]
  simp-implicitDefEqProofs(disch:=try exact al)only[aq,aO,aG,aM,R,bg m.aQ,t,Int.reduceBEq,iy m.bP];refine bk (kr m.ae m.ah aR) ?_;rintro _ K ⟨rfl,p⟩;refine⟨p.1,?_⟩;have s:=m.aI p;have an:=s.lt;cases B:c8 c i.c with
  |false=>
   simp-implicitDefEqProofs(disch:=try exact al)only[aq];exact nil (by rw[e,B];rfl) p
  |true=>
   rw[B]at e;obtain⟨ab,H',G,M,N,T⟩:=(bG.nil c6 (A+3) bH K).iU (.store (bE x.o f+i.a.toNat) (bE x.o f+i.c.toNat) 0) (k:=4) (a:=((bE x.o f+i.a.toNat:Nat):Int)) (b:=((bE x.o f+i.c.toNat:Nat):Int)) (e:=0) rfl ai (by simp);simp-implicitDefEqProofs(disch:=try exact al)only[dC,aq,aO,aG,h1,aM,bg s.aQ,O u,O aR,jj,G];exact aK.2 (by rw[e];exact fin M p N)
 have br:(i.op==9)=false:=beq_eq_false_iff_ne.2 aS;by_cases av:i.op=11
 ·have t:∀j:Int,(i.op==j)=(11==j):=λj=>by rw[av]
  have u:=(vg av E).1.1;have am:=(pB (vg av E).2).1;have e:cK x f c i=[bz.base (bE x.o f+i.a.toNat) i.n.toNat]:=by simp only[cK,av]
  have an:=m.lt;obtain⟨ab,H',G,M,N,T⟩:=(bG.nil c6 (A+3) bH H0).iU (.base (bE x.o f+i.a.toNat) i.n.toNat) (k:=1) (a:=((bE x.o f+i.a.toNat:Nat):Int)) (b:=i.n) (e:=0) (by rw[cT,l8 am]) ai (by simp);simp-implicitDefEqProofs(disch:=try exact al)only[iE,dC,aq,aO,aG,h1,aM,R,bg m.aQ,t,Int.reduceBEq,O u,jj,G];exact aK.2 (by rw[e];exact fin M (ay.refl _) N)
 have be:(i.op==11)=false:=beq_eq_false_iff_ne.2 av;by_cases aw:i.op=12
 ·have t:∀j:Int,(i.op==j)=(12==j):=λj=>by rw[aw]
  have u:=k3 (vh aw E).1.1;have am:=(pB (vh aw E).2).1;have e:cK x f c i=[bz.base (bE x.o f+i.a.toNat) i.n.toNat]:=by simp only[cK,aw]
  have an:=m.lt;obtain⟨ab,H',G,M,N,T⟩:=(bG.nil c6 (A+3) bH H0).iU (.base (bE x.o f+i.a.toNat) i.n.toNat) (k:=1) (a:=((bE x.o f+i.a.toNat:Nat):Int)) (b:=i.n) (e:=0) (by rw[cT,l8 am]) ai (by simp);simp-implicitDefEqProofs(disch:=try exact al)only[iE,dC,aq,aO,aG,h1,aM,R,bg m.aQ,t,Int.reduceBEq,O u,jj,G];exact aK.2 (by rw[e];exact fin M (ay.refl _) N)
 have bf:(i.op==12)=false:=beq_eq_false_iff_ne.2 aw;by_cases aA:i.op=13
 ·have t:∀j:Int,(i.op==j)=(13==j):=λj=>by rw[aA]
  obtain⟨g,a0⟩:=pf aA E;have a5:=(List.getElem?_eq_some_iff.1 a0.at_.2).1;have bx:=(iV (Q.code a0.at_.2)).params;have bA:=a0.len;have e:cK x f c i=fW c (bE x.o f) (bE x.o i.c.toNat) i.args 0++(bif decide (0<=i.a)&&c8 c i.a then[.copy (bE x.o f+i.a.toNat) (fS x i.c.toNat)]else[]):=by simp only[cK,aA]
  simp-implicitDefEqProofs(disch:=try exact al)only[iE,aq,aO,aG,aM,R,bg m.aQ,t,Int.reduceBEq,ch m.aT];refine bk (Vb Q m.aD a0.at_.1 ai) ?_;rintro _ K ⟨rfl,p⟩;refine⟨p.1,?_⟩;have s:=m.aI p;refine(FJ Q aN aA E i.args.length 0 10 K [] .aB ai ai s (bG.nil _ _ _ _) (by simp)).mono ?_;rintro r H' ⟨a9,bs⟩;rw[List.drop_zero,List.nil_append]at a9;rw[e];exact fin a9 p bs
 have bh:(i.op==13)=false:=beq_eq_false_iff_ne.2 aA;by_cases aY:i.op=18
 ·have t:∀j:Int,(i.op==j)=(18==j):=λj=>by rw[aY]
  have e:cK x f c i=bif decide (0<=i.a)&&c8 c i.a then[bz.copy (fS x f) (bE x.o f+i.a.toNat)]else[]:=by simp only[cK,aY]
  by_cases aX:0<=i.a
  ·have u:a1 c i.a≠bt:=by
    rcases ID aY E with h|h
    ·exact h.2.1
    ·omega
   simp-implicitDefEqProofs(disch:=try exact al)only[iE,aq,aO,aG,aM,R,bg m.aQ,t,Int.reduceBEq,aX,decide_true,iy m.bP];refine cE (kr m.ae m.ah u) ?_;rintro _ K ⟨rfl,p⟩;refine⟨p.1,?_⟩;have s:=m.aI p;cases B:c8 c i.a with
   |false=>
    simp-implicitDefEqProofs(disch:=try exact al)only[aq];exact nil (by rw[e,B];simp) p
   |true=>
    rw[B,decide_eq_true aX]at e;simp-implicitDefEqProofs(disch:=try exact al)only[aq,ch s.aT];refine bk (GJ Q s.aD (n:=(f:Int)) ai ai) ?_;rintro _ ar ⟨rfl,S⟩;refine⟨S.1,?_⟩;have af:=s.aI S;have a7:=af.lt;obtain⟨ab,H',G,M,N,T⟩:=(bG.nil c6 (A+3) bH ar).iU (.copy (fS x f) (bE x.o f+i.a.toNat)) (k:=2) (e:=0) rfl ai (by simp);simp-implicitDefEqProofs(disch:=try exact al)only[dC,aq,aO,aG,h1,aM,bg af.aQ,bg s.aQ,O u,jj,Int.toNat_natCast,G];exact aK.2 (by rw[e];exact fin M (p.trans S) N)
  ·simp-implicitDefEqProofs(disch:=try exact al)only[iE,aq,aO,aG,aM,R,bg m.aQ,t,Int.reduceBEq,aX,decide_false];exact nil (by rw[e,decide_eq_false aX];rfl) (ay.refl _)
 have bi:(i.op==18)=false:=beq_eq_false_iff_ne.2 aY;by_cases aE:i.op=19
 ·have t:∀j:Int,(i.op==j)=(19==j):=λj=>by rw[aE]
  have u:=(r5 aE E).1;have a4:=iR (r5 aE E).2;have a5:=Q.globals;have e:cK x f c i=bif c8 c i.a then[bz.copy (bE x.o f+i.a.toNat) (gr x i.n.toNat)]else[]:=by simp only[cK,aE]
  simp-implicitDefEqProofs(disch:=try exact al)only[iE,aq,aO,aG,aM,R,bg m.aQ,t,Int.reduceBEq,iy m.bP];refine bk (kr m.ae m.ah u) ?_;rintro _ K ⟨rfl,p⟩;refine⟨p.1,?_⟩;have s:=m.aI p;cases B:c8 c i.a with
  |false=>
   simp-implicitDefEqProofs(disch:=try exact al)only[aq];exact nil (by rw[e,B];rfl) p
  |true=>
   rw[B]at e;simp-implicitDefEqProofs(disch:=try exact al)only[aq,aO,aM,bg s.aQ,ch s.aT];refine bk (GB Q s.aD a4.1 ai) ?_;rintro _ ar ⟨rfl,S⟩;refine⟨S.1,?_⟩;have af:=s.aI S;have a7:=af.lt;obtain⟨ab,H',G,M,N,T⟩:=(bG.nil c6 (A+3) bH ar).iU (.copy (bE x.o f+i.a.toNat) (gr x i.n.toNat)) (k:=2) (e:=0) rfl ai (by simp);simp-implicitDefEqProofs(disch:=try exact al)only[dC,aq,aO,aG,h1,aM,bg af.aQ,bg s.aQ,O u,jj,G];exact aK.2 (by rw[e];exact fin M (p.trans S) N)
 have bj:(i.op==19)=false:=beq_eq_false_iff_ne.2 aE;by_cases aF:i.op=20
 ·have t:∀j:Int,(i.op==j)=(20==j):=λj=>by rw[aF]
  have u:=(r6 aF E).1;have a4:=iR (r6 aF E).2;have a5:=Q.globals;have e:cK x f c i=bif c8 c i.a then[bz.copy (gr x i.n.toNat) (bE x.o f+i.a.toNat)]else[]:=by simp only[cK,aF]
  simp-implicitDefEqProofs(disch:=try exact al)only[iE,aq,aO,aG,aM,R,bg m.aQ,t,Int.reduceBEq,iy m.bP];refine bk (kr m.ae m.ah u) ?_;rintro _ K ⟨rfl,p⟩;refine⟨p.1,?_⟩;have s:=m.aI p;cases B:c8 c i.a with
  |false=>
   simp-implicitDefEqProofs(disch:=try exact al)only[aq];exact nil (by rw[e,B];rfl) p
  |true=>
   rw[B]at e;simp-implicitDefEqProofs(disch:=try exact al)only[aq,aO,aM,bg s.aQ,ch s.aT];refine bk (GB Q s.aD a4.1 ai) ?_;rintro _ ar ⟨rfl,S⟩;refine⟨S.1,?_⟩;have af:=s.aI S;have a7:=af.lt;obtain⟨ab,H',G,M,N,T⟩:=(bG.nil c6 (A+3) bH ar).iU (.copy (gr x i.n.toNat) (bE x.o f+i.a.toNat)) (k:=2) (e:=0) rfl ai (by simp);simp-implicitDefEqProofs(disch:=try exact al)only[dC,aq,aO,aG,h1,aM,bg af.aQ,bg s.aQ,O u,jj,G];exact aK.2 (by rw[e];exact fin M (p.trans S) N)
 have bl:(i.op==20)=false:=beq_eq_false_iff_ne.2 aF;have e:cK x f c i=[]:=by
  unfold cK;split<;>first|(exfalso;omega)|rfl
 simp-implicitDefEqProofs(disch:=try exact al)only[iE,aq,aG,R,bm,bn,bp,bo,br,be,bf,bh,bi,bj,bl];exact nil e (ay.refl _)
end
end
section
open Go.bp
def bG.LF{ok:Nat->Prop}{B:Nat}{H1:ad}{l m:List bz}{v w:aa}(h:bG c6 B bH H1 l v)(b:B<=H1.next)(hm:aZ c6 H1 ok m w)(az:l.length+m.length<=1000000000):
  ∃a H',cS P H1 [53,53] v w=D (a,H')/\bG c6 B bH H' (l++m) a/\dt B H1 H'/\(∀k,k<H1.next->(∀L n c,v= .aJ L 0 n 4 c->k≠L)->H'.get k=H1.get k)/\(a=v\/∃n,a= .aJ H1.next 0 n 4 I):=
 h.app g4 b ((hm.zm g4).plain (okE':=λ_=>False) BX) (λ_ _ h=>h.elim) (λ_ _ _ _=>trivial) (ok':=bH) trivial az
section
variable {H:ad}{ok:Nat->Prop}{x:bQ}
def Fp(q:dL x){f:Nat}{c:b3}(aN:x.o[f]? =D c){a b cc d gv gw:aa}{A zC R:Nat}(aj:A<zC){L1:aa->aa->aa->ad->O}{Q:aa->ad->Prop}{N:Nat}:∀(j k n:Nat) (H:ad) (l:List bz) (v:aa),k+j=c.ins.length->j<n->c.ins.length<=1000000->l.length+7*j+R<=1000000->
  H.get A=D (.row Z 5 [[a,b,cc,d,J X x.main]])->c2 H (· <A) x (.agg [a,b,cc,d,J X x.main])->H.get zC=D (.row Z 7 [ct c gv gw])->aZ e7 H (· <A) c.ins gw->bG c6 (A+1) bH H l v->(∀L n V,v= .aJ L 0 n 4 V->zC≠L)->
  (∀H' r B,dt (A+1) H H'->B=l++(c.ins.drop k).flatMap (cK x f c)->B.length+R<=1000000->bG c6 (A+1) bH H' B r->W (np (aC P ax) N L1 (.ptr A 0 0) r (J X f) H') Q)->
  W (nr (aC P ax) N L1 n (.ptr A 0 0) v (J X f) (.ptr zC 0 0) (J X (bE x.o f:Nat)) (J X k) H) Q
 |_,_,0,_,_,_,_,hm,_,_,_,_,_,_,_,_,_=>ai
 |0,k,n+1,H,l,v,am,_,_,az,bF,aD,bP,h,m,u,fin=>by
  have s:¬(k:Int)<(c.ins.length:Int):=ai;have:=fin H v l (.refl _ _) (by rw[List.drop_of_length_le ai];simp) ai m;simp-implicitDefEqProofs(disch:=try exact al)only[nr,u1,bf,aq,aO,aG,aM,gj bP,h.len eb,s,decide_false];exact this
 |j+1,k,n+1,H,l,v,am,aH,an,az,bF,aD,bP,h,m,u,fin=>by
  have s:(k:Int)<(c.ins.length:Int):=ai;have t:k<c.ins.length:=ai;obtain⟨L,nn,wi,av,aw,aA⟩:=h.wg (j:=(k:Int)) (i:=c.ins[k]) ai (by simp[t]);have G:dw x f c c.ins[k]=true:=(iV (q.code aN)).ins (List.getElem_mem t);have on:=Fp q aN (a:=a) (b:=b) (cc:=cc) (d:=d) (gv:=gv) (gw:=gw) aj (R:=R) (L1:=L1) (Q:=Q) (N:=N) j (k+1) n;rw[List.drop_eq_getElem_cons t,List.flatMap_cons]at fin;generalize c.ins[k]=i at*;have aF:=zG G q;have aK:=ad.b6 bP;simp-implicitDefEqProofs(disch:=try exact al)only[nr,u1,bf,aq,aO,aG,aM,gj bP,h.len eb,s,decide_true,ch bF,av,aw _ (ay.refl _)];refine bk (Tr q aN aD aA G) ?_;rintro w K ⟨aE,p⟩
  refine⟨p.1,?_⟩;obtain⟨r,H',Y,ab,E,af,e⟩:=(m.aI p).LF (m:=cK x f c i) (w:=w) (by have:=p.1;omega) aE.aJ ai;have hle:=E.1;have ag:H'.get zC=D (.row Z 7 [ct c gv gw]):=by
   rw[af zC (by have:=p.1;omega) u];exact p.get bP
  simp-implicitDefEqProofs(disch:=try exact al)only[aq,aG,Y,c3 (show k<=1000000000 by omega)];have pu:dt (A+1) H H':=(er p ai).trans E;have M:eB H (· <A) H' (· <A):=λz b (ao:z<A) g=>⟨ao,by rw[pu.2 z ai];exact g⟩
  refine on H' (l++cK x f c i) r ai ai an (by rw[List.length_append];omega) ((pu.2 A ai).trans bF) (aD.keep M) ag (h.keep M) ab ?_ λS v2 ap ae ah ak au=>fin S v2 ap (pu.trans ae) (by rw[ah,List.append_assoc]) ak au
  rintro T ar U rfl;rcases e with e|⟨aL,e⟩
  ·exact u T ar U e.symm
  ·cases e;have:=p.1;omega
def Fq(i:dL x)(hlen:∀c∈x.o,c.ins.length<=2500){a b cc d:aa}{A N:Nat}(S:2501<=N):∀(j k n:Nat) (H:ad) (l:List bz) (v:aa),k+j=x.o.length->j<n->l.length+7*eR (x.o.drop k)<=1000000->
  H.get A=D (.row Z 5 [[a,b,cc,d,J X x.main]])->c2 H (· <A) x (.agg [a,b,cc,d,J X x.main])->aZ fr H (· <A) x.o cc->bG c6 (A+1) bH H l v->
  W (nq (aC P ax) N n (.ptr A 0 0) v (J X k) H) λr H'=>dt (A+1) H H'/\bG c6 (A+1) bH H' (l++h2 x (x.o.drop k) k) r
 |_,_,0,_,_,_,_,hm,_,_,_,_,_=>ai
 |0,k,n+1,H,l,v,U,_,_,bF,aD,aA,m=>by
  have t:¬(k:Int)<(x.o.length:Int):=ai;simp-implicitDefEqProofs(disch:=try exact al)only[nq,u0,nm,bf,aq,aO,aG,aM,dy bF,aA.len c0,t,decide_false];refine aK.2 ⟨.refl _ _,?_⟩;rw[List.drop_of_length_le ai,h2,List.append_nil];exact m
 |j+1,k,n+1,H,l,v,U,aE,az,bF,aD,aA,m=>by
  have t:(k:Int)<(x.o.length:Int):=ai;have f:k<x.o.length:=ai;have av:=i.o;have aF:=ad.b6 bF;obtain⟨L,nn,gv,gw,am,an,b8,cg⟩:∃L n v w,a6 P 24 cc (J X k)=D (.ptr L n 0)/\(∀H',ay H H'->aj P H' 49 (.ptr L n 0)=D (.agg (ct x.o[k] v w)))/\aZ ei H (· <A) x.o[k].vars v/\aZ e7 H (· <A) x.o[k].ins w:=by
   obtain⟨L,n,ro,els,cs,ae,_,ah,ak,v,w,rfl,b8,cg⟩:=aA.at_ (K:=fr) c0 (j:=(k:Int)) (a:=x.o[k]) ai (by simp[f]);exact⟨L,n,v,w,ae,λH' p=>fY (n:=7) (c:=0) ag ag (p.get ah) ak (by exact b4 7),b8,cg⟩
  have aw:=hlen _ (List.getElem_mem f);have T:x.o[k]? =D x.o[k]:=by simp[f]
  have on:=Fq i hlen (a:=a) (b:=b) (cc:=cc) (d:=d) (A:=A) S j (k+1) n;rw[List.drop_eq_getElem_cons f,eR]at az;rw[List.drop_eq_getElem_cons f,h2,sB];generalize x.o[k]=g at*;have st:=nK (c:=g) (v:=gv) (w:=gw) (ad.bq H (.row Z 7 [[J X 0,.aB,y Z,J X 0,J X 0,J X 0,.aB]])) b8.one cg.one;have u:=ay.push H (.row Z 7 [ct g gv gw]);have bP:=ad.bq H (.row Z 7 [ct g gv gw]);have Q:=u.get bF;have Y:eB H (· <A) (H.push (.row Z 7 [ct g gv gw])) (· <A):=λz b (h:z<A) q=>⟨h,u.get q⟩
  simp-implicitDefEqProofs(disch:=try exact al)only[nq,u0,bf,Nat.reduceAdd,aq,aO,aG,aM,dy bF,aA.len c0,t,decide_true,am,an _ (ay.refl _),st,ad.fE,ch Q];refine bk (tl i (aD.keep Y) (Nat.le_of_lt f)) ?_;rintro _ K ⟨rfl,p⟩;refine⟨p.1,?_⟩;have s:=u.trans p;have E:eB H (· <A) K (· <A):=λz b (h:z<A) q=>⟨h,s.get q⟩
  refine Fp i T (R:=7*eR (x.o.drop (k+1))) (show A<H.next by omega) g.ins.length 0 N _ l v ai ai ai ai (s.get bF) (aD.keep E) (p.get bP) (cg.keep E) (m.aI s) (λar aH au e=>by have:=m.eG.lt e;omega) ?_;intro H' ao ab pu e V af;rw[List.drop_zero]at e;have B:dt (A+1) H H':=(er s ai).trans pu;have G:eB H (· <A) H' (· <A):=λz b (h:z<A) q=>⟨h,by rw[B.2 z ai];exact q⟩
  simp-implicitDefEqProofs(disch:=try exact al)only[np,aq,aG,c3 (show k<=1000000000 by omega)];refine(on H' ab ao ai ai V ((B.2 A ai).trans bF) (aD.keep G) (aA.keep G) af).mono ?_;rintro r ap ⟨M,O⟩;exact⟨B.trans M,by rw[<-List.append_assoc,<-e];exact O⟩
def Tp(j:right x=C){V:aa}(aD:c2 H ok x V):W (aC P ax 57 [V] H) λr H'=>bG c6 H.next bH H' (cons x) r/\ay H H':=by
 have q:=aD;have i:=je j;obtain⟨_,rfl,a,b,cc,d,rfl,ae,ah,ak,au⟩:=aD;refine bZ (λ_=>UY 2501) ?_;have h:=ay.push H (.row Z 5 [[a,b,cc,d,J X x.main]]);have p:=ad.bq H (.row Z 5 [[a,b,cc,d,J X x.main]]);simp-implicitDefEqProofs(disch:=try exact al)only[x9,aq,dZ ae ah ak au];have t:=tk j;have k:eB H ok (H.push (.row Z 5 [[a,b,cc,d,J X x.main]])) (· <H.next):=λz b _ g=>⟨ad.b6 g,h.get g⟩
 have s:=i.o;refine(Fq i (λc aA=>by have:=wh aA;omega) (N:=2501) (b4 _) x.o.length 0 2501 _ [] .aB ai ai (by simp;omega) p (q.keep k) (ak.keep k) (bG.nil _ _ _ _)).mono ?_;rintro r H' ⟨m,f⟩;rw[List.drop_zero,List.nil_append]at f;exact⟨⟨f.eG,λL n c e=>by have:=f.low L n c e;omega⟩,by have:=h.1;have:=m.1;omega,λl az=>by rw[m.2 l ai,h.2 l az]⟩
end
end
end Go.Proofs.YtmhhnnklfcbgfaaGreat
namespace Go.bp
open Go.bo
section
open Go.bo
open Go.bo
open Go.bo
open Classical
end
end Go.bp
namespace Go.Proofs.YtmhhnnklfcbgfaaGreat
open Go.bo
section
open Go.bp
section
variable {n m M:Nat}{E7:List Nat}{D1:List (List Nat)}{nv fv:aa}{B:Nat->List Bool}{t:Bool}{H:ad}{l:List bz}
end
end
section
open Go.bp
section
variable {n m M:Nat}{E7:List Nat}{D1:List (List Nat)}{nv fv:aa}{l:List bz}
end
end
section
open Go.bp
section
variable {H:ad}
end
end
section
open Go.bp
section
variable {H:ad}{ok:Nat->Prop}{n m:Nat}{l:List bz}
end
end
section
open Go.bp
section
variable {n m:Nat}{l:List bz}
end
end
section
open Go.bp
section
variable {n m:Nat}{l:List bz}
end
end
section
open Go.bp
section
variable {n m:Nat}{l:List bz}{M:Nat}{E7:List Nat}{D1:List (List Nat)}{nv fv:aa}{B:Nat->List Bool}{H0:ad}
end
section
variable {n m:Nat}{l:List bz}{H:ad}{ok:Nat->Prop}
end
end
section
set_option maxRecDepth 100000
noncomputable section
def tN(G:an)(N:Nat)(H:ad):O:=some ((y C),H)
def Wh(G:an)(N:Nat):∀R H,aX P G N (j (j (j (bb Tryz.f13)))) (aR Tryz.f13) [] (aR Tryz.f13) R H=tN G N H:=by
 refine bj (aw _) λR H=> ?_
 delta tN;kernel_rfl
def A2(G:an)(N:Nat)(L1:aa->aa->aa->ad->O)(a x1 x5:aa)(H:ad):O:=bf P .len [30] [a] H λb=>af (ar P .lss 3 Z x5 b) λc=>aP (D c) (af (a6 P 30 a x5) λe=>af (aj P H 3 e) λf=>af (a6 P 30 x1 x5) λg=>af (aj P H 3 g) λh=>af (ar P .neq 3 Z f h) λi=>aP (D i) (D ((y Z),H)) (af (ar P .add 3 C x5 (J X 1)) λd=>L1 a x1 d H)) (tN G N H)
def tO(G:an)(N:Nat):Nat->aa->aa->aa->ad->O
 |0,_,_,_,_=>I
 |n+1,a,x1,x5,H=>A2 G N (tO G N n) a x1 x5 H
def Wf(G:an)(N:Nat)(L1:aa->aa->aa->ad->O):∀R H,aX P G N (aE (aE (j (aE (j (j (bb Tryz.f13))))))) (λR H=>L1 (R 0) (R 1) (R 5) H) [(0,(λR H=>tN G N H))] (aR Tryz.f13) R H=A2 G N L1 (R 0) (R 1) (R 5) H:=by
 refine bj (aw _) λR H=> ?_
 delta A2;generalize tN G N=a;revert a;refine id ?_;intro a;kernel_rfl
def tA(G:an)(N:Nat)(a x1:aa)(H:ad):O:=bf P .len [30] [a] H λx7=>bf P .len [30] [x1] H λb=>af (ar P .neq 3 Z x7 b) λx10=>aP (D x10) (D ((y Z),H)) (tO G N N a x1 (J X 0) H)
def Wg(G:an)(N:Nat)(b:aa)(x1:aa)(H:ad):bd Tryz.f13 G N (bO [b,x1]) H=tA G N b x1 H:=by
 refine bR (A:=bd Tryz.f13 G N) ((aF ag ((aF ag ((aF ag (Wh G N) ((aF ag ((bX ag ((cj (k:=λm R H=>tO G N m (R 0) (R 1) (R 5) H) ag (λR H=>ag) (λm=>Wf G N (tO G N m)))))) (aw _))))) (aw _))) (aw _))) ?_;delta tA;generalize tO G N N=a;revert a;refine id ?_;intro a;kernel_rfl
def uf(G:an)(N:Nat)(H:ad):O:=some ((y C),H)
def WQ(G:an)(N:Nat):∀R H,aX P G N (j (j (j (bb Tryz.f17)))) (aR Tryz.f17) [] (aR Tryz.f17) R H=uf G N H:=by
 refine bj (aw _) λR H=> ?_
 delta uf;kernel_rfl
def A_(G:an)(N:Nat)(L1:aa->aa->aa->ad->O)(a x1 x5:aa)(H:ad):O:=bf P .len [31] [a] H λb=>af (ar P .lss 3 Z x5 b) λc=>aP (D c) (af (a6 P 31 a x5) λe=>af (aj P H 30 e) λf=>af (a6 P 31 x1 x5) λg=>af (aj P H 30 g) λh=>aU H (G 13 [f,h] H) λi ae=>af (dg .not i) λj=>aP (D j) (D ((y Z),ae)) (af (ar P .add 3 C x5 (J X 1)) λd=>L1 a x1 d ae)) (uf G N H)
def ug(G:an)(N:Nat):Nat->aa->aa->aa->ad->O
 |0,_,_,_,_=>I
 |n+1,a,x1,x5,H=>A_ G N (ug G N n) a x1 x5 H
def WN(G:an)(N:Nat)(L1:aa->aa->aa->ad->O):∀R H,aX P G N (aE (aE (j (aE (j (j (bb Tryz.f17))))))) (λR H=>L1 (R 0) (R 1) (R 5) H) [(0,(λR H=>uf G N H))] (aR Tryz.f17) R H=A_ G N L1 (R 0) (R 1) (R 5) H:=by
 refine bj (aw _) λR H=> ?_
 delta A_;generalize uf G N=a;revert a;refine id ?_;intro a;kernel_rfl
def ud(G:an)(N:Nat)(a x1:aa)(H:ad):O:=bf P .len [31] [a] H λx7=>bf P .len [31] [x1] H λb=>af (ar P .neq 3 Z x7 b) λx10=>aP (D x10) (D ((y Z),H)) (ug G N N a x1 (J X 0) H)
def WO(G:an)(N:Nat)(b:aa)(x1:aa)(H:ad):bd Tryz.f17 G N (bO [b,x1]) H=ud G N b x1 H:=by
 refine bR (A:=bd Tryz.f17 G N) ((aF ag ((aF ag ((aF ag (WQ G N) ((aF ag ((bX ag ((cj (k:=λm R H=>ug G N m (R 0) (R 1) (R 5) H) ag (λR H=>ag) (λm=>WN G N (ug G N m)))))) (aw _))))) (aw _))) (aw _))) ?_;delta ud;generalize ug G N N=a;revert a;refine id ?_;intro a;kernel_rfl
end
end
section
open Go.bp
section
variable {bS zD:Nat}{lv:aa}{L:List Nat}{H:ad}
end
end
section
open Go.bp
section
variable {H:ad}{ok:Nat->Prop}
section
variable {m:Nat}{p:dn}{nv fv:aa}{zX:Nat}
end
end
end
section
open Go.bp
section
variable {bS zD m:Nat}{lv:aa}{p:dn}
end
end
section
open Go.bp
section
variable {bS zD zX m:Nat}{lv:aa}{p:dn}{nv fv:aa}{ok:Nat->Prop}
end
end
section
open Go.bp
section
variable {bS zD zX m:Nat}{lv:aa}{p:dn}{nv fv:aa}{ok:Nat->Prop}{L:List Nat}
end
end
section
open Go.bp
section
variable {bS zD zX m:Nat}{lv:aa}{p:dn}{nv fv:aa}{ok:Nat->Prop}{L:List Nat}
end
end
section
open Go.bp
section
variable {bS zD zX m:Nat}{lv:aa}{p:dn}{nv fv:aa}{ok:Nat->Prop}{L:List Nat}
end
end
end Go.Proofs.YtmhhnnklfcbgfaaGreat
namespace Go.bp
open Go.bo
section
open Go.bo
open Go.bo
open Go.bo
open Classical
end
end Go.bp
namespace Go.Proofs.YtmhhnnklfcbgfaaGreat
open Go.bo
section
open Go.bp
section
variable {H:ad}{ok ok':Nat->Prop}
end
end
section
open Go.bp
section
variable {H:ad}{ok:Nat->Prop}
end
end
section
open Go.bp
section
variable {H:ad}{ok ok':Nat->Prop}
section
variable {fs:List (List Int)}{roots:List Int}{fv rv:aa}{L:Nat}
end
end
end
section
set_option maxRecDepth 100000
noncomputable section
end
end
section
open Go.bp
section
variable {x:bQ}{H:ad}{ok:Nat->Prop}{R:Nat->Nat->Prop}{m:Nat}
end
end
section
open Go.bp
section
variable {x:bQ}{H:ad}{ok:Nat->Prop}
end
end
section
open Go.bp
section
variable {x:bQ}{k:bp.eg}
def Qw{m:Nat}(a:po (cL x) m k){v:Nat}(b:v<cL x):k.nodes[v]? =D (k.node v):=by
 have:v<k.nodes.length:=by rw[a.nl];exact b
 unfold eg.node;rw[List.getElem?_eq_getElem this];rfl
end
end
section
open Go.bp
section
variable {x:bQ}{k:bp.eg}
end
end
section
open Go.bp
section
variable {H:ad}{ok:Nat->Prop}
end
end
section
open Go.bp
section
variable {x:bQ}{k:bp.eg}{zX ep E i:Nat}{a b cc d:aa}{n:Nat}{ov nv fv gv sa:aa}{H:ad}
end
end
section
open Go.bp
section
variable {x:bQ}{k:bp.eg}{zX ep E:Nat}{a b cc d:aa}{n:Nat}{ov nv fv gv:aa}
end
end
section
open Go.bp
section
variable {x:bQ}{H:ad}{ok:Nat->Prop}
end
end
section
open Go.bp
section
variable {x:bQ}{H:ad}{ok:Nat->Prop}
end
end
section
open Go.bp
section
variable {x:bQ}{H:ad}{ok:Nat->Prop}
def ZB(h:right x=C){V:aa}(aD:c2 H ok x V):W (aC P ax 11 [V] H) λr H'=>nO H' bH (bp.hk x) r/\ay H H':=by
 have w:=aD;have S:=je h;obtain⟨_,rfl,a,b,cc,d,rfl,ae,ah,ak,au⟩:=aD;refine bZ (λ_=>TB 0) ?_;obtain⟨zX,f⟩:∃zX,zX=H.next:=⟨_,rfl⟩
 have U:=ay.push H (.row Z 5 [[a,b,cc,d,J X x.main]]);have N:=ad.bq H (.row Z 5 [[a,b,cc,d,J X x.main]]);have B:=ay.push (H.push (.row Z 5 [[a,b,cc,d,J X x.main]])) (.row Z 4 [bW 0 .aB .aB .aB]);have u:=ad.bq (H.push (.row Z 5 [[a,b,cc,d,J X x.main]])) (.row Z 4 [bW 0 .aB .aB .aB]);have i:=B.get N;have E:(H.push (.row Z 5 [[a,b,cc,d,J X x.main]])).next=zX+1:=by rw[f];simp
 have Y:∀(k:aa->ad->O),cA (H.push (.row Z 5 [[a,b,cc,d,J X x.main]])) [J X 0,.aB,.aB,.aB] k=k (.ptr (zX+1) 0 0) ((H.push (.row Z 5 [[a,b,cc,d,J X x.main]])).push (.row Z 4 [bW 0 .aB .aB .aB])):=λk=>by rw[kQ,kR,E];rfl
 rw[E]at u;rw[<-f]at i;simp only[qj,dZ ae ah ak au,lK,Y,<-f];have l:=U.trans B;generalize R:(H.push (.row Z 5 [[a,b,cc,d,J X x.main]])).push (.row Z 4 [bW 0 .aB .aB .aB])=G at*;have af:G.next=zX+2:=by rw[<-R];simp[f]
 simp-implicitDefEqProofs(disch:=try exact al)only[aq,ch i];refine bk (zI (w.aI l) (ti S) (tj h)) ?_;rintro _ o ⟨rfl,c⟩;refine⟨c.1,?_⟩;rw[h];have Q:=c.get i;simp-implicitDefEqProofs(disch:=try exact al)only[aq,Bool.not_true,ch Q];refine bk (Lu h (w.aI (l.trans c))) ?_;rintro _ e ⟨⟨ov,nv,fv,rfl,p,s,t,K⟩,m⟩;refine⟨m.1,?_⟩;have v:=(c.trans m).get u;generalize bp.hk x=k at*;have st:=kO (n:=k.count) v rfl p.one s.one t.one;have T:=ad.b6 v;have M:(e.set (zX+1) (.row Z 4 [bW k.count ov nv fv])).get (zX+1)=D (.row Z 4 [bW k.count ov nv fv]):=ad.dA T;have z:∀q,q≠zX+1->(e.set (zX+1) (.row Z 4 [bW k.count ov nv fv])).get q=e.get q:=λq a8=>ad.cW (Ne.symm a8)
 simp-implicitDefEqProofs(disch:=try exact al)only[aq,st,ko M];have ab:=c.1;have j:eB e (λL=>o.next<=L) (e.set (zX+1) (.row Z 4 [bW k.count ov nv fv])) bH:=λq b (a8:o.next<=q) g=>⟨trivial,by rw[z q ai];exact g⟩
 have A:=l.trans (c.trans m);exact aK.2 ⟨⟨_,_,_,rfl,p.keep j,s.keep j,t.keep j,K⟩,by have:=A.1;simpa using this,λq a8=>by rw[z q ai,A.2 q a8]⟩
end
end
section
open Go.bp
section
variable {x:bQ}{k:bp.eg}{zX ep:Nat}{a b cc d ov nv fv gv sa I1 ee:aa}{sX:Int}{n:Nat}{H:ad}
end
end
end Go.Proofs.YtmhhnnklfcbgfaaGreat
namespace Go.bp
open Go.bo
section
open Go.bo
open Go.bo
open Go.bo
open Classical
section
variable {n m:Nat}{l:List bz}{R:Nat->Nat->Prop}
def wT{v s:Nat}(f:e0 n m l)(a:v<n)(h:df n l v s):(merge (da n m l) m).node v=((et (cH (da n m l)) s:Nat):Int):=by
 have hm:=h.site f;have e:(merge (da n m l) m).nodes[v]? =D (k2 (cH (da n m l)) (c_ m (df n l v))):=by
  simp[merge,jW,da,gl,a]
 unfold eg.node;rw[e,Option.getD_some];refine C_ (cH.g0 _).eqv (gI.2 ⟨hm,h⟩) λb d c aA=> .node (L:=c_ m (df n l v)) ?_ d aA
 simp only[da,gl,List.mem_map,List.mem_range];exact⟨v,a,rfl⟩
def wU{v:Nat}(d:e0 n m l)(c:v<n)(h:(merge (da n m l) m).node v≠ -1):∃s,df n l v s/\(merge (da n m l) m).node v=((et (cH (da n m l)) s:Nat):Int):=by
 have e:(merge (da n m l) m).nodes[v]? =D (k2 (cH (da n m l)) (c_ m (df n l v))):=by
  simp[merge,jW,da,gl,c]
 cases a:c_ m (df n l v)with
 |nil=>
  exfalso;apply h;unfold eg.node;rw[e,a];rfl
 |cons s f=>
  have b:df n l v s:=(gI.1 (show s∈c_ m (df n l v) by rw[a];simp)).2;exact⟨s,b,wT d c b⟩
def eg.ea(k:eg)(c:Int)(f:Nat):Int:=((k.fields[c.toNat]?).bind λfs=>fs[f]?).getD (-1)
def pW{t f:Nat}(a:t<m)(aN:f<8):(merge (da n m l) m).ea ((et (cH (da n m l)) t:Nat):Int) f=k2 (cH (da n m l)) (kj (da n m l) (cH (da n m l)) m (dr (cH (da n m l)) t) f):=by
 unfold eg.ea;have h:=vN (cH.g0 (da n m l)).eqv a;simp[merge,jW,h,aN]
def DX{t f s:Nat}(b:e0 n m l)(a:t<m)(aN:f<8)(h:df n l (n+t*8+f) s):(merge (da n m l) m).ea ((et (cH (da n m l)) t:Nat):Int) f=((et (cH (da n m l)) s:Nat):Int):=by
 have hm:=h.site b;rw[pW a aN];refine C_ (cH.g0 _).eqv (sW.2 ⟨t,a,.symm (g3 (cH.g0 _).eqv t).1,?_⟩) NP;exact vW.2 ⟨a,aN,hm,h⟩
end
def C7(x:bQ)(o:dL x):∃l,hk x=merge (da (cL x) x.sites.length l) x.sites.length/\e0 (cL x) x.sites.length l/\(∀c∈cons x,c∈l)/\
  ∀t a f s,t<x.sites.length->a<x.sites.length->f<8->cH (da (cL x) x.sites.length l) t a->df (cL x) l (cL x+t*8+f) s->df (cL x) l (cL x+a*8+f) s:=by
 obtain⟨k,_,b,_,e⟩:=Bw (cL x) x.sites.length (cons x);have hw:=vO o;have i:hk x=dR (cL x) x.sites.length (cons x) (k+1):=e;rw[i];generalize cL x=n at*;generalize hm:x.sites.length=m at*;have he:=ox n m (cons x) k;refine⟨cons x++gn (gT n m (cons x) k) m,?_,Jk hw (Jj he n m),λc aA=>List.mem_append.2 (.inl aA),?_⟩
 ·rfl
 ·intro t a f s d g aN dp j;rw[pO,pO]at b;have aA:∀u,u<m->et (gT n m (cons x) (k+1)) u=et (gT n m (cons x) k) u:=by
   intro u hu;have:=congrArg (λz:List Nat=>z[u]?) b;simpa [hu]using this
  have ae:gT n m (cons x) (k+1) t a:=dp;rw[<-sA (ox n m (cons x) (k+1)),aA t d,aA a g,sA he,<-oh he]at ae;have p:bz.same t (dr (gT n m (cons x) k) t)∈cons x++gn (gT n m (cons x) k) m:=List.mem_append.2 (.inr (k9.2 ⟨t,d,rfl⟩));have h:bz.same a (dr (gT n m (cons x) k) a)∈cons x++gn (gT n m (cons x) k) m:=List.mem_append.2 (.inr (k9.2 ⟨a,g,rfl⟩));rw[<-ae]at h;exact .kM h aN (.same p aN j)
def BP(k:eg):bz->Prop
 | .base a b=>k.site b=k.node a
 | .copy a b=>k.node b= -1\/k.node b=k.node a
 | .load a b f=>k.node b<0\/k.ea (k.node b) f= -1\/k.ea (k.node b) f=k.node a
 | .store a b f=>k.node b= -1\/k.node a<0\/k.node b=k.ea (k.node a) f
 | .same _ _=>True
def Kf{x:bQ}(A:dL x):∀c∈cons x,BP (hk x) c:=by
 obtain⟨l,e,hw,r,w⟩:=C7 x A;rw[e];intro c aA;have d:=hw c (r c aA);have o:=r c aA;generalize cL x=n at*;generalize x.sites.length=m at*;have he:=(cH.g0 (da n m l)).eqv;have neg:∀{v:Nat},v<n->¬(merge (da n m l) m).node v<0->∃s,df n l v s/\(merge (da n m l) m).node v=((et (cH (da n m l)) s:Nat):Int):=λE h=>wU hw E (by omega)
 cases c with
 |base a b=>
  show(merge (da n m l) m).site b=_;rw[wT hw d.1 (.base o)];unfold eg.site;simp[merge,jW,d.2]
 |copy a b=>
  by_cases h:(merge (da n m l) m).node b= -1
  ·exact .inl h
  ·obtain⟨s,i,g⟩:=wU hw d.2 h;exact .inr (by rw[g,wT hw d.1 (.copy o i)])
 |load a b f=>
  by_cases h:(merge (da n m l) m).node b<0
  ·exact .inl h
  ·obtain⟨t,j,g⟩:=neg d.2.1 h;have k:=j.site hw;refine .inr ?_;rw[g];by_cases ah:(merge (da n m l) m).ea ((et (cH (da n m l)) t:Nat):Int) f= -1
   ·exact .inl ah
   ·refine .inr ?_;rw[pW k d.2.2]at ah;cases p:kj (da n m l) (cH (da n m l)) m (dr (cH (da n m l)) t) f with
    |nil=>rw[p]at ah;exact absurd rfl ah
    |cons s K=>
     obtain⟨G,B,dp,i⟩:=sW.1 (show s∈kj (da n m l) (cH (da n m l)) m (dr (cH (da n m l)) t) f by rw[p];simp);obtain⟨_,_,H,z⟩:=vW.1 i;have q:=w G t f s B k d.2.2 (.symm (.trans (g3 he t).1 dp)) z;rw[DX hw k d.2.2 q,wT hw d.1 (.load o j q)]
 |store a b f=>
  by_cases h:(merge (da n m l) m).node b= -1
  ·exact .inl h
  ·obtain⟨s,i,g⟩:=wU hw d.2.1 h;refine .inr ?_;by_cases ah:(merge (da n m l) m).node a<0
   ·exact .inl ah
   ·obtain⟨t,j,u⟩:=neg d.1 ah;have k:=j.site hw;exact .inr (by rw[g,u,DX hw k d.2.2 (.store o j i)])
 |same a b=>trivial
end
section
open Go.bo
open Go.bo
open Go.bo
open Classical
end
end Go.bp
namespace Go.Proofs.YtmhhnnklfcbgfaaGreat
open Go.bo
section
open Go.bp
section
variable {x:bQ}{k:bp.eg}{zX ep T E:Nat}{a b cc d ov nv fv gv sa ee:aa}
def ZP(a:po (cL x) x.sites.length k){n:Int}(b:0<=n)(ae:n.toNat<x.sites.length):(bC k.of)[n.toNat]? =D (k.site n):=by
 have az:n.toNat<k.of.length:=by rw[a.FM];exact ae
 unfold eg.site bC;rw[List.getElem?_map,List.getElem?_eq_getElem az];rfl
end
end
section
open Go.bp
section
variable {x:bQ}{k:bp.eg}{zX ep T E:Nat}{a b cc d ov nv fv gv sa ee:aa}
end
end
section
open Go.bp
section
variable {x:bQ}{k:bp.eg}{zX ep:Nat}{a b cc d ov nv fv gv sa I1 ee:aa}
end
end
section
open Go.bp
section
variable {x:bQ}{k:bp.eg}{zX ep:Nat}{a b cc d ov nv fv gv sa I1 ee:aa}
end
end
section
open Go.bp
section
variable {x:bQ}{H:ad}{ok:Nat->Prop}
end
end
section
open Go.bp
def JA(x:bQ):Prop:=(∀g∈x.o,g.vars.length<=1000000000)/\∀c∈x.o,c.ins.length<=1000000000
section
variable {x:bQ}{H:ad}{ok:Nat->Prop}
