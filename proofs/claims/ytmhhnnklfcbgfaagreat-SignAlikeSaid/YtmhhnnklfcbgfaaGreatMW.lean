/-
  Texts of one proof, laid together: ShL Vd SgQ Yc Yd Hk2 Hk3 ShP.
-/
import Derived.Test.YtmhhnnklfcbgfaaGreatMV
set_option linter.unusedVariables false
set_option linter.unusedSimpArgs false
set_option linter.defProp false
open Option renaming some→D,none→I
open Bool renaming true→C,false→Z
open Go.bo.aa renaming int→J,str→F,bool→y
open Go.IntKind renaming i64→X
namespace Go.Proofs.YtmhhnnklfcbgfaaGreat
open Go.bo
section
set_option maxRecDepth 100000
noncomputable section
def ns(G:an)(N:Nat)(H:ad):O:=aU H (G 16 [] H) λa ae=>D (a,ae)
def YX(G:an)(N:Nat):∀R H,aX P G N (j (j (j (j (j (j (j (bb Tryz.f6)))))))) (aR Tryz.f6) [] (aR Tryz.f6) R H=ns G N H:=by
 refine bj (aw _) λR H=> ?_
 delta ns;kernel_rfl
def nt(G:an)(N:Nat)(a:aa->aa->aa->ad->O)(b x4 x6:aa)(H:ad):O:=af (ar P .add 3 C x6 (J X 1)) λc=>a b x4 c H
def YY(G:an)(N:Nat)(a:aa->aa->aa->ad->O):∀R H,aX P G N (j (j (aE (aE (j (aE (j (j (j (j (j (j (bb Tryz.f6))))))))))))) (λR H=>a (R 3) (R 4) (R 6) H) [(2,(λR H=>ns G N H))] (aR Tryz.f6) R H=nt G N a (R 3) (R 4) (R 6) H:=by
 refine bj (aw _) λR H=> ?_
 delta nt;kernel_rfl
def h9(G:an)(N:Nat)(b:aa->aa->aa->ad->O)(g x4:aa)(x6 h x10:aa)(H:ad):O:=af (ar P .neq 3 C x10 (J X (-1))) λa=>ao a C H (bw x10) λc ae=>ao a C ae (bw h) λd ah=>ao a C ah (aH (ar P .neq 3 Z c d)) λe ak=>af (ba a (D e) (D (y Z))) λf=>aP (D f) (D ((y Z),ak)) (nt G N b g x4 x6 ak)
def Y0(G:an)(N:Nat)(a:aa->aa->aa->ad->O):∀R H,aX P G N (j (j (j (j (aE (aE (j (aE (aE (j (aE (j (j (j (j (j (j (bb Tryz.f6)))))))))))))))))) (λR H=>nt G N a (R 3) (R 4) (R 6) H) [(3,(λR H=>nt G N a (R 3) (R 4) (R 6) H)),(2,(λR H=>ns G N H))] (aR Tryz.f6) R H=h9 G N a (R 3) (R 4) (R 6) (R 9) (R 10) H:=by
 refine bj (aw _) λR H=> ?_
 delta h9;generalize nt G N a=b;revert b;refine id ?_;intro b;kernel_rfl
def kK(G:an)(N:Nat)(b:aa->aa->aa->ad->O)(a x4 x6:aa)(H:ad):O:=bf P .len [53] [x4] H λV=>af (ar P .lss 3 Z x6 V) λW=>aP (D W) (af (a6 P 53 x4 x6) λY=>af (aj P H 56 Y) λab=>cA H [J X 0,J X 0,J X 0,J X 0] λx7 ae=>bY ae (bA P ae 56 x7 ab) λah=>af (av P 33 a 2) λag=>af (aj P ah 30 ag) λai=>af (av P 56 x7 1) λak=>af (aj P ah 3 ak) λal=>af (a6 P 30 ai al) λam=>af (aj P ah 3 am) λc=>af (av P 56 x7 0) λao=>af (aj P ah 3 ao) λd=>af (ar P .eql 3 C d (J X 1)) λap=>aP (D ap) (af (av P 33 a 1) λaq=>af (aj P ah 30 aq) λau=>af (av P 56 x7 2) λaw=>af (aj P ah 3 aw) λax=>af (a6 P 30 au ax) λay=>af (aj P ah 3 ay) λaz=>h9 G N b a x4 x6 c az ah) (af (ar P .eql 3 C d (J X 2)) λx87=>aP (D x87) (af (av P 33 a 2) λx88=>af (aj P ah 30 x88) λx89=>af (av P 56 x7 2) λaA=>af (aj P ah 3 aA) λaC=>af (a6 P 30 x89 aC) λaD=>af (aj P ah 3 aD) λaE=>h9 G N b a x4 x6 c aE ah) (af (ar P .eql 3 C d (J X 3)) λaF=>aP (D aF) (af (av P 33 a 2) λaG=>af (aj P ah 30 aG) λaH=>af (av P 56 x7 2) λaI=>af (aj P ah 3 aI) λaK=>af (a6 P 30 aH aK) λf=>af (aj P ah 3 f) λg=>af (ar P .geq 3 C g (J X 0)) λh=>aP (D h) (af (av P 33 a 3) λi=>af (aj P ah 31 i) λx104=>af (av P 33 a 2) λj=>af (aj P ah 30 j) λk=>af (av P 56 x7 2) λl=>af (aj P ah 3 l) λm=>af (a6 P 30 k m) λn=>af (aj P ah 3 n) λo=>af (a6 P 31 x104 o) λp=>af (aj P ah 30 p) λq=>af (av P 56 x7 3) λr=>af (aj P ah 3 r) λs=>af (a6 P 30 q s) λt=>af (aj P ah 3 t) λu=>h9 G N b a x4 x6 c u ah) (h9 G N b a x4 x6 c (J X (-1)) ah)) (af (ar P .eql 3 C d (J X 4)) λv=>aP (D v) (af (av P 33 a 2) λw=>af (aj P ah 30 w) λx=>af (av P 56 x7 2) λz=>af (aj P ah 3 z) λA=>af (a6 P 30 x A) λB=>af (aj P ah 3 B) λe=>af (ar P .geq 3 C c (J X 0)) λE=>aP (D E) (af (av P 33 a 3) λK=>af (aj P ah 31 K) λL=>af (a6 P 31 L c) λM=>af (aj P ah 30 M) λQ=>af (av P 56 x7 3) λR=>af (aj P ah 3 R) λS=>af (a6 P 30 Q S) λT=>af (aj P ah 3 T) λU=>h9 G N b a x4 x6 U e ah) (h9 G N b a x4 x6 e e ah)) (h9 G N b a x4 x6 c (J X 0) ah))))) (ns G N H)
def h_(G:an)(N:Nat):Nat->aa->aa->aa->ad->O
 |0,_,_,_,_=>I
 |n+1,a,x4,x6,H=>kK G N (h_ G N n) a x4 x6 H
def YT(G:an)(N:Nat)(a:aa->aa->aa->ad->O):∀R H,aX P G N (aE (aE (j (aE (j (j (j (j (j (j (bb Tryz.f6))))))))))) (λR H=>a (R 3) (R 4) (R 6) H) [(2,(λR H=>ns G N H))] (aR Tryz.f6) R H=kK G N a (R 3) (R 4) (R 6) H:=by
 refine bj ((aF ag ((aF ag (YY G N a) ((bX ag ((aF ag ((aF ag ((aF ag ((aF ag (Y0 G N a) (aw _))) (aw _))) (aw _))) (aw _))))))) (aw _))) λR H=> ?_
 delta kK;generalize ns G N=b;generalize h9 G N a=c;revert b c;refine id ?_;intro b c;kernel_rfl
def o8(G:an)(N:Nat)(a x4:aa)(H:ad):O:=h_ G N N a x4 (J X 0) H
def YW(G:an)(N:Nat):∀R H,aX P G N (j (j (j (j (j (j (bb Tryz.f6))))))) (aR Tryz.f6) [] (aR Tryz.f6) R H=o8 G N (R 3) (R 4) H:=by
 refine bj ((aF ag (YX G N) ((aF ag ((bX ag ((cj (k:=λm R H=>h_ G N m (R 3) (R 4) (R 6) H) ag (λR H=>ag) (λm=>YT G N (h_ G N m)))))) (aw _))))) λR H=> ?_
 delta o8;generalize h_ G N N=a;revert a;refine id ?_;intro a;kernel_rfl
def u4(G:an)(N:Nat)(L5:aa->aa->aa->ad->O)(a x4 x5:aa)(H:ad):O:=af (av P 33 a 3) λb=>af (aj P H 31 b) λc=>bf P .len [31] [c] H λd=>af (ar P .lss 3 Z x5 d) λe=>aP (D e) (af (av P 33 a 3) λx52=>af (aj P H 31 x52) λf=>af (a6 P 31 f x5) λg=>af (aj P H 30 g) λh=>bf P .len [30] [h] H λi=>af (ar P .neq 3 C i (J X 8)) λj=>aP (D j) (D ((y Z),H)) (af (ar P .add 3 C x5 (J X 1)) λx51=>L5 a x4 x51 H)) (o8 G N a x4 H)
def nu(G:an)(N:Nat):Nat->aa->aa->aa->ad->O
 |0,_,_,_,_=>I
 |n+1,a,x4,x5,H=>u4 G N (nu G N n) a x4 x5 H
def YU(G:an)(N:Nat)(L5:aa->aa->aa->ad->O):∀R H,aX P G N (aE (aE (j (aE (j (j (j (j (j (bb Tryz.f6)))))))))) (λR H=>L5 (R 3) (R 4) (R 5) H) [(0,(λR H=>o8 G N (R 3) (R 4) H))] (aR Tryz.f6) R H=u4 G N L5 (R 3) (R 4) (R 5) H:=by
 refine bj (aw _) λR H=> ?_
 delta u4;generalize o8 G N=a;revert a;refine id ?_;intro a;kernel_rfl
def kJ(G:an)(N:Nat)(L:aa)(H:ad):O:=bx H (b0 (H).next L) λx1 ae=>af (aj P ae 27 x1) λx11=>aU ae (G 9 [x11] ae) λx12 ah=>ao x12 Z ah (qr (aj P ah 27 x1)) λM ak=>ao x12 Z ak (λq=>b9 ak (G 24 [M] ak) q) λQ au=>ao x12 Z au (aH (dg .not Q)) λR r=>af (ba x12 (D (y C)) (D R)) λS=>aP (D S) (D ((y C),r)) (af (aj P r 27 x1) λT=>aU r (G 11 [T] r) λU K=>cA K [J X 0,aa.aB,aa.aB,aa.aB] λo z=>bY z (bA P z 33 o U) λw=>af (aj P w 27 x1) λV=>aU w (G 32 [V] w) λW s=>af (aj P s 27 x1) λA=>aU s (G 25 [A] s) λB a=>af (av P 33 o 2) λx=>af (aj P a 30 x) λv=>cx (a2 P .empty .len [30] [v]) (a2 P a .len [30] [v]) λd=>af (ar P .neq 3 Z d.val B) λg=>bh g Z (aH (av P 33 o 1)) λb=>bh g Z (qr (aj P (b.heap (d.heap a)) 30 b.val)) λc=>bh g Z (λq=>cx (a2 P .empty .len [30] [c.val]) (a2 P (c.heap (b.heap (d.heap a))) .len [30] [c.val]) q) λh=>bh g Z (aH (av P 27 x1 3)) λe=>bh g Z (qr (aj P (e.heap (h.heap (c.heap (b.heap (d.heap a))))) 25 e.val)) λf=>bh g Z (λq=>cx (a2 P .empty .len [25] [f.val]) (a2 P (f.heap (e.heap (h.heap (c.heap (b.heap (d.heap a)))))) .len [25] [f.val]) q) λl=>bh g Z (aH (ar P .neq 3 Z h.val l.val)) λm=>af (ba g (D (y C)) (D m.val)) λi=>bh i Z (aH (av P 33 o 3)) λj=>bh i Z (qr (aj P (j.heap (m.heap (l.heap (f.heap (e.heap (h.heap (c.heap (b.heap (d.heap a))))))))) 31 j.val)) λk=>bh i Z (λq=>cx (a2 P .empty .len [31] [k.val]) (a2 P (k.heap (j.heap (m.heap (l.heap (f.heap (e.heap (h.heap (c.heap (b.heap (d.heap a)))))))))) .len [31] [k.val]) q) λp=>bh i Z (aH (av P 33 o 0)) λn=>bh i Z (qr (aj P (n.heap (p.heap (k.heap (j.heap (m.heap (l.heap (f.heap (e.heap (h.heap (c.heap (b.heap (d.heap a)))))))))))) 3 n.val)) λt=>bh i Z (aH (ar P .neq 3 Z p.val t.val)) λu=>af (ba i (D (y C)) (D u.val)) λE=>bif eH [0,1,3,0,8,31,63,127,255,511,127,1151,3199,8191,16383,32767,65535,131071,262143,65535,589823,2097151,4194303] [3,4,5,6,7,8,9,10,11,12,13,14,15,16,17,18,19,20,21,22] [⟨3,.read A,λH=>aj P H 27 x1⟩,⟨4,.cF B a,λH=>I⟩,⟨0,.pure x,λH=>I⟩,⟨1,.read v,λH=>aj P H 30 x⟩,⟨2,d,λH=>a2 P H .len [30] [v]⟩,⟨5,.pure g,λH=>I⟩,⟨6,.pure g,λH=>I⟩,⟨7,b,λH=>I⟩,⟨8,c,λH=>aj P H 30 b.val⟩,⟨9,h,λH=>a2 P H .len [30] [c.val]⟩,⟨10,e,λH=>I⟩,⟨11,f,λH=>aj P H 25 e.val⟩,⟨12,l,λH=>a2 P H .len [25] [f.val]⟩,⟨13,m,λH=>I⟩,⟨14,.pure i,λH=>I⟩,⟨15,.pure i,λH=>I⟩,⟨16,j,λH=>I⟩,⟨17,k,λH=>aj P H 31 j.val⟩,⟨18,p,λH=>a2 P H .len [31] [k.val]⟩,⟨19,n,λH=>I⟩,⟨20,t,λH=>aj P H 3 n.val⟩,⟨21,u,λH=>I⟩,⟨22,.pure E,λH=>I⟩] s then(aP (D E) (D ((y Z),(u.heap (t.heap (n.heap (p.heap (k.heap (j.heap (m.heap (l.heap (f.heap (e.heap (h.heap (c.heap (b.heap (d.heap a)))))))))))))))) (nu G N N o W (J X 0) (u.heap (t.heap (n.heap (p.heap (k.heap (j.heap (m.heap (l.heap (f.heap (e.heap (h.heap (c.heap (b.heap (d.heap a))))))))))))))))else I)
def YV(G:an)(N:Nat)(b:aa)(H:ad):bd Tryz.f6 G N (bO [b]) H=kJ G N b H:=by
 refine bR (A:=bd Tryz.f6 G N) ((aF ag ((aF ag ((aF ag ((aF ag ((aF ag ((aF ag (YW G N) ((aF ag ((bX ag ((cj (k:=λm R H=>nu G N m (R 3) (R 4) (R 5) H) ag (λR H=>ag) (λm=>YU G N (nu G N m)))))) (aw _))))) (aw _))) (aw _))) (aw _))) (aw _))) (aw _))) ?_;delta kJ;generalize nu G N N=a;revert a;refine id ?_;intro a;kernel_rfl
def r2(G:an)(N:Nat)(H:ad):O:=some ((y Z),H)
def Zy(G:an)(N:Nat):∀R H,aX P G N (j (j (j (bb Tryz.f9)))) (aR Tryz.f9) [] (aR Tryz.f9) R H=r2 G N H:=by
 refine bj (aw _) λR H=> ?_
 delta r2;kernel_rfl
def pb(G:an)(N:Nat)(L1:aa->aa->ad->O)(x1 b:aa)(H:ad):O:=af (av P 27 x1 2) λh=>af (aj P H 24 h) λi=>bf P .len [24] [i] H λj=>af (ar P .lss 3 Z b j) λk=>aP (D k) (af (av P 27 x1 2) λm=>af (aj P H 24 m) λn=>af (a6 P 24 n b) λo=>af (av P 49 o 1) λp=>af (aj P H 23 p) λr=>bf P .len [23] [r] H λs=>af (ar P .gtr 3 C s (J X 150)) λa=>ao a Z H (aH (av P 27 x1 2)) λt ae=>ao a Z ae (qr (aj P ae 24 t)) λu ah=>ao a Z ah (bw b) λv ak=>ao a Z ak (aH (a6 P 24 u v)) λw au=>ao a Z au (aH (av P 49 w 4)) λx c=>ao a Z c (qr (aj P c 47 x)) λf d=>ao a Z d (λq=>cx (a2 P .empty .len [47] [f]) (a2 P d .len [47] [f]) q) λz g=>ao a Z g (aH (ar P .gtr 3 C z (J X 150))) λA e=>af (ba a (D (y C)) (D A)) λx50=>aP (D x50) (D ((y C),e)) (af (ar P .add 3 C b (J X 1)) λl=>L1 x1 l e)) (r2 G N H)
def kL(G:an)(N:Nat):Nat->aa->aa->ad->O
 |0,_,_,_=>I
 |n+1,x1,a,H=>pb G N (kL G N n) x1 a H
def Zx(G:an)(N:Nat)(L1:aa->aa->ad->O):∀R H,aX P G N (aE (aE (j (aE (j (j (bb Tryz.f9))))))) (λR H=>L1 (R 1) (R 3) H) [(0,(λR H=>r2 G N H))] (aR Tryz.f9) R H=pb G N L1 (R 1) (R 3) H:=by
 refine bj (aw _) λR H=> ?_
 delta pb;generalize r2 G N=a;revert a;refine id ?_;intro a;kernel_rfl
def nG(G:an)(N:Nat)(n:aa)(H:ad):O:=bx H (b0 (H).next n) λx1 ae=>af (av P 27 x1 0) λx4=>af (aj P ae 22 x4) λx5=>bf P .len [22] [x5] ae λx6=>af (ar P .gtr 3 C x6 (J X 20)) λx7=>ao x7 Z ae (aH (av P 27 x1 1)) λw ah=>ao x7 Z ah (qr (aj P ah 23 w)) λx10 ak=>ao x7 Z ak (λq=>cx (a2 P .empty .len [23] [x10]) (a2 P ak .len [23] [x10]) q) λx11 au=>ao x7 Z au (aH (ar P .gtr 3 C x11 (J X 20))) λx12 k=>af (ba x7 (D (y C)) (D x12)) λa=>ao a Z k (aH (av P 27 x1 2)) λo f=>ao a Z f (qr (aj P f 24 o)) λh g=>ao a Z g (λq=>cx (a2 P .empty .len [24] [h]) (a2 P g .len [24] [h]) q) λp l=>ao a Z l (aH (ar P .gtr 3 C p (J X 20))) λr m=>af (ba a (D (y C)) (D r)) λb=>ao b Z m (aH (av P 27 x1 3)) λs c=>ao b Z c (qr (aj P c 25 s)) λi d=>ao b Z d (λq=>cx (a2 P .empty .len [25] [i]) (a2 P d .len [25] [i]) q) λt j=>ao b Z j (aH (ar P .gtr 3 C t (J X 80))) λu e=>af (ba b (D (y C)) (D u)) λv=>aP (D v) (D ((y C),e)) (kL G N N x1 (J X 0) e)
def U_(N:Nat){a:aa}{H:ad}{r:aa×ad}(h:nG (aC P ax) N a H=D r):aC P ax 9 [a] H=D r:=fT N (S:=λG=>nG G N a H) Tryz.func9 (λG=>bR ((aF ag ((aF ag ((aF ag (Zy G N) ((aF ag ((bX ag ((cj (k:=λm R H=>kL G N m (R 1) (R 3) H) ag (λR H=>ag) (λm=>Zx G N (kL G N m)))))) (aw _))))) (aw _))) (aw _))) (by delta nG;generalize kL G N N=b;revert b;refine id ?_;intro b;kernel_rfl)) h
def uc(G:an)(H:ad):O:=aU H (G 33 [F [114,101,99,111,114,100,32,82,32,123,32,110,58,32,82,59,32,125,32,102,117,110,99,32,102,40,114,58,32,82,41,58,32,82,32,123,32,114,101,116,117,114,110,32,114,46,110,59,32,125,32,102,117,110,99,32,109,97,105,110,40,41,32,123,32,108,101,116,32,97,58,32,82,32,61,32,110,101,119,32,82,59,32,97,46,110,32,61,32,110,101,119,32,82,59,32,108,101,116,32,98,58,32,82,32,61,32,102,40,97,41,59,32,105,102,32,98,32,61,61,32,110,117,108,108,32,82,32,123,32,112,114,105,110,116,32,49,59,32,125,32,112,114,105,110,116,32,50,59,32,125]] H) λx7 ae=>af (gC x7 0) λx8=>af (gC x7 1) λaO=>cA ae [aa.aB,aa.aB,aa.aB] λx1 ah=>cA ah [J X 0,J X 0] λx2 ak=>bY ak (bA P ak 62 x1 x8) λau=>bY au (bA P au 65 x2 aO) λo=>af (aj P o 62 x1) λx11=>aU o (G 34 [x11] o) λx12 S=>af (gC x12 0) λU=>af (gC x12 1) λV=>cA S [aa.aB,aa.aB,aa.aB,aa.aB,J X 0] λc T=>cA T [J X 0,J X 0] λx4 K=>bY K (bA P K 27 c U) λL=>bY L (bA P L 65 x4 V) λf=>af (aj P f 27 c) λW=>aU f (G 11 [W] f) λY N=>cA N [J X 0,aa.aB,aa.aB,aa.aB] λx5 p=>bY p (bA P p 33 x5 Y) λg=>af (av P 33 x5 0) λab=>af (aj P g 3 ab) λag=>af (ar P .eql 3 C ag (J X 2)) λd=>ao d C g (qr (aj P g 27 c)) λai h=>ao d C h (λq=>b9 h (G 22 [ai,J X 0] h) q) λal r=>ao d C r (λq=>fG (D (.aJ (r).next 0 2 1 (D 2),.row Z 1 [[J X 0],[J X 1]])) q) λam i=>ao d C i (λq=>b9 i (G 13 [al,am] i) q) λap s=>af (ba d (D ap) (D (y Z))) λa=>ao a C s (qr (aj P s 27 c)) λaq j=>ao a C j (λq=>b9 j (G 20 [aq] j) q) λaw t=>ao a C t (λq=>fG (D (.aJ (t).next 0 0 1 (D 0),.row Z 1 [])) q) λax u=>ao a C u (λq=>fG (D (.aJ (u).next 0 2 1 (D 2),.row Z 1 [[J X 0],[J X 1]])) q) λay v=>ao a C v (λq=>fG (cv P (v).next 31 2 [(0,ax),(1,ay)]) q) λaz k=>ao a C k (λq=>b9 k (G 17 [aw,az] k) q) λaA w=>af (ba a (D aA) (D (y Z))) λb=>ao b C w (qr (aj P w 27 c)) λaC l=>ao b C l (λq=>b9 l (G 18 [aC] l) q) λaD x=>ao b C x (λq=>fG (D (.aJ (x).next 0 0 1 (D 0),.row Z 1 [])) q) λaE z=>ao b C z (λq=>fG (D (.aJ (z).next 0 0 1 (D 0),.row Z 1 [])) q) λaF A=>ao b C A (λq=>fG (cv P (A).next 31 2 [(0,aE),(1,aF)]) q) λaG m=>ao b C m (λq=>b9 m (G 17 [aD,aG] m) q) λaI B=>af (ba b (D aI) (D (y Z))) λe=>ao e C B (qr (aj P B 27 c)) λaK n=>ao e C n (λq=>b9 n (G 14 [aK] n) q) λM E=>ao e C E (λq=>cx (a2 P .empty .len [30] [M]) (a2 P E .len [30] [M]) q) λaL Q=>ao e C Q (aH (ar P .eql 3 C aL (J X 0))) λaM R=>af (ba e (D aM) (D (y Z))) λaN=>D (aN,R)
def WH(G:an)(N:Nat)(H:ad):bd Tryz.f16 G N (bO []) H=uc G H:=by
 refine bR (A:=bd Tryz.f16 G N) (aw _) ?_;delta uc;kernel_rfl
end
end
section
open Go.bp
structure Small(x:bQ):Prop where
 b1:x.b1.length<=20
 globals:x.globals.length<=20
 o:x.o.length<=20
 sites:x.sites.length<=80
 code:∀c∈x.o,c.vars.length<=150/\c.ins.length<=150
def Small.DL{x:bQ}(h:Small x):JA x:=⟨λc aA=>by have:=(h.code c aA).1;omega,λc aA=>by have:=(h.code c aA).2;omega⟩
section
variable {x:bQ}{H:ad}{ok:Nat->Prop}
def Ef{a b cc d:aa}{zX:Nat}(u:x.o.length<=20)(aD:aZ fr H ok x.o cc)(aT:H.get zX=D (.row Z 5 [[a,b,cc,d,J X x.main]])){N:Nat}:∀(j k m:Nat),k+j=x.o.length->j<m->(∀c∈x.o.take k,c.vars.length<=150/\c.ins.length<=150)->
  W (kL (aC P ax) N m (.ptr zX 0 0) (J X (k:Nat)) H) λr H'=>(∃q,r= y q/\(q=Z->∀c∈x.o,c.vars.length<=150/\c.ins.length<=150))/\H'=H
 |_,_,0,_,hm,_=>ai
 |0,k,m+1,v,_,f=>by
  have e:¬(k:Int)<(x.o.length:Int):=ai;have lc:∀H0,a2 P H0 .len [24] [cc]=D (J X x.o.length):=λH0=>aD.len c0
  simp-implicitDefEqProofs(disch:=try exact al)only[r2,pb,kL,bf,aq,aO,aG,aM,dy aT,lc,e,decide_false];refine aK.2 ⟨⟨Z,rfl,λ_=> ?_⟩,rfl⟩;rw[List.take_of_length_le ai]at f;exact f
 |j+1,k,m+1,v,w,f=>by
  have e:(k:Int)<(x.o.length:Int):=ai;have t:k<x.o.length:=ai;have lc:∀H0,a2 P H0 .len [24] [cc]=D (J X x.o.length):=λH0=>aD.len c0
  obtain⟨L,n,gv,gw,l,p,b8,cg⟩:=aD.Dd (j:=(k:Int)) (g:=x.o[k]) ai (by simp[t]);have lv:∀H0,a2 P H0 .len [23] [gv]=D (J X x.o[k].vars.length):=λH0=>b8.len dh
  have li:∀H0,a2 P H0 .len [47] [gw]=D (J X x.o[k].ins.length):=λH0=>cg.len eb
  have on:=Ef u aD aT (N:=N) j (k+1) m ai ai;by_cases i:(150:Int)<(x.o[k].vars.length:Int)
  ·simp-implicitDefEqProofs(disch:=try exact al)only[pb,kL,bf,aq,aO,aG,aM,dy aT,lc,e,decide_true,l,p _ (ay.refl _),lv,i];exact aK.2 ⟨⟨C,rfl,λh=>by cases h⟩,rfl⟩
  ·by_cases s:(150:Int)<(x.o[k].ins.length:Int)
   ·simp-implicitDefEqProofs(disch:=try exact al)only[pb,kL,bf,aq,aO,aG,aM,dy aT,lc,e,decide_true,l,p _ (ay.refl _),lv,li,i,s,decide_false];exact aK.2 ⟨⟨C,rfl,λh=>by cases h⟩,rfl⟩
   ·simp-implicitDefEqProofs(disch:=try exact al)only[pb,kL,bf,aq,aO,aG,aM,dy aT,lc,e,decide_true,l,p _ (ay.refl _),lv,li,i,s,decide_false,c3 (show k<=1000000000 by omega)];refine on λc aA=> ?_
    rw[List.take_add_one,List.getElem?_eq_getElem t]at aA;rcases List.mem_append.1 aA with aA|aA
    ·exact f c aA
    ·simp only[Option.toList_some,List.mem_singleton]at aA;subst aA;omega
def NS{V:aa}(aD:c2 H ok x V):W (aC P ax 9 [V] H) λr H'=>(∃q,r= y q/\(q=Z->Small x))/\ay H H':=by
 obtain⟨_,rfl,a,b,cc,d,rfl,ae,ah,ak,au⟩:=aD;refine bZ (λ_=>U_ (x.o.length+1)) ?_;have k:=ay.push H (.row Z 5 [[a,b,cc,d,J X x.main]]);have aT:=ad.bq H (.row Z 5 [[a,b,cc,d,J X x.main]]);have dc:∀H0,a2 P H0 .len [22] [a]=D (J X x.b1.length):=λH0=>ae.len en
 have i:∀H0,a2 P H0 .len [23] [b]=D (J X x.globals.length):=λH0=>ah.len dh
 have lc:∀H0,a2 P H0 .len [24] [cc]=D (J X x.o.length):=λH0=>ak.len c0
 have eO:∀H0,a2 P H0 .len [25] [d]=D (J X x.sites.length):=λH0=>au.len e4
 have f:=dZ ae ah ak au x.main;have yes:W (D (aa.bool C,H.push (.row Z 5 [[a,b,cc,d,J X x.main]]))) λr H'=>(∃q,r= y q/\(q=Z->Small x))/\ay H H':=aK.2 ⟨⟨C,rfl,λh=>by cases h⟩,k⟩
 by_cases c:(20:Int)<(x.b1.length:Int)
 ·simp-implicitDefEqProofs(disch:=try exact al)only[nG,bf,aq,aO,aG,aM,f,dy aT,dc,c,decide_true];exact yes
 by_cases g:(20:Int)<(x.globals.length:Int)
 ·simp-implicitDefEqProofs(disch:=try exact al)only[nG,bf,aq,aO,aG,aM,f,dy aT,dc,i,c,g,decide_true,decide_false];exact yes
 by_cases j:(20:Int)<(x.o.length:Int)
 ·simp-implicitDefEqProofs(disch:=try exact al)only[nG,bf,aq,aO,aG,aM,f,dy aT,dc,i,lc,c,g,j,decide_true,decide_false];exact yes
 by_cases l:(80:Int)<(x.sites.length:Int)
 ·simp-implicitDefEqProofs(disch:=try exact al)only[nG,bf,aq,aO,aG,aM,f,dy aT,dc,i,lc,eO,c,g,j,l,decide_true,decide_false];exact yes
 simp-implicitDefEqProofs(disch:=try exact al)only[nG,bf,aq,aO,aG,aM,f,dy aT,dc,i,lc,eO,c,g,j,l,decide_false];refine(Ef (x:=x) (ok:=ok) ai (ak.aI k) aT x.o.length 0 (x.o.length+1) ai ai (by simp)).mono ?_;rintro r H' ⟨⟨q,rfl,a8⟩,rfl⟩;exact⟨⟨q,rfl,λe=>⟨ai,ai,ai,ai,a8 e⟩⟩,k⟩
end
end
end Go.Proofs.YtmhhnnklfcbgfaaGreat
namespace Go.bp
open Go.bo
open Go.bo
open Go.bo
open Go.bo
open Classical
def Qx{x:bQ}(a:dL x){v:Nat}(d:v<cL x):(hk x).node v= -1\/∃c:Nat,(hk x).node v=(c:Int)/\c<(hk x).count:=by
 obtain⟨l,e,hw,-,-⟩:=C7 x a;rw[e];by_cases h:(merge (da (cL x) x.sites.length l) x.sites.length).node v= -1
 ·exact .inl h
 ·obtain⟨s,b,ah⟩:=wU hw d h;exact .inr ⟨_,ah,Da (cH.g0 _).eqv (b.site hw)⟩
def w6:bz->Bool
 | .same _ _=>Z
 |_=>C
def Ct{c:b3}{at_ to:Nat}:∀{l:List Int} {i:Nat} {k:bz},k∈fW c at_ to l i->w6 k=C
 |[],_,_,h=>by simp[fW]at h
 |a::b,i,k,h=>by
  rw[fW]at h;rcases List.mem_append.1 h with h|h
  ·cases e:c8 c a<;>simp[e]at h;subst h;rfl
  ·exact Ct h
def OE{x:bQ}{f:Nat}{c:b3}{i:In}{k:bz}(h:k∈cK x f c i):w6 k=true:=by
 have one:∀{b:Bool} {z:bz},w6 z=C->k∈(bif b then[z]else[])->w6 k=true:=by
  intro b z a h;cases b
  ·simp at h
  ·simp only[gG,List.mem_singleton]at h;rw[h];exact a
 unfold cK at h;dsimp only at h;split at h
 ·exact one rfl h
 ·exact one rfl h
 ·exact one rfl h
 ·exact one rfl h
 ·exact one rfl h
 ·simp only[List.mem_singleton]at h;rw[h];rfl
 ·simp only[List.mem_singleton]at h;rw[h];rfl
 ·rcases List.mem_append.1 h with h|h
  ·exact Ct h
  ·exact one rfl h
 ·exact one rfl h
 ·exact one rfl h
 ·exact one rfl h
 ·simp at h
def Qv{x:bQ}{a b:Nat}(h:bz.same a b∈cons x):False:=by
 obtain⟨j,c,i,ae,ah,ak⟩:=zh h;have:=OE ak;cases this
end Go.bp
namespace Go.Proofs.YtmhhnnklfcbgfaaGreat
open Go.bo
section
open Go.bp
section
variable {x:bQ}{H:ad}{ok:Nat->Prop}
def Tq(e:right x=C){V:aa}(aD:c2 H ok x V):W (aC P ax 32 [V] H) λr H'=>aZ c6 H' bH (cons x) r/\ay H H':=by
 have h:=aD;have j:=je e;obtain⟨_,rfl,a,b,cc,d,rfl,ae,ah,ak,au⟩:=aD;refine bZ (λ_=>UP 0) ?_;have f:=ay.push H (.row Z 5 [[a,b,cc,d,J X x.main]]);have g:=ad.bq H (.row Z 5 [[a,b,cc,d,J X x.main]]);simp-implicitDefEqProofs(disch:=try exact al)only[xM,aq,dZ ae ah ak au,ch g];refine bk (AR (h.aI f) (ti j) (tj e)) ?_;rintro _ K ⟨rfl,p⟩;refine⟨p.1,?_⟩;rw[e];simp-implicitDefEqProofs(disch:=try exact al)only[aq,Bool.not_true,ch (p.get g)];refine bk (Tp e (h.aI (f.trans p))) ?_;rintro r k ⟨c,i⟩;refine⟨i.1,?_⟩;exact aK.2 ⟨c.aJ,f.trans (p.trans i)⟩
structure pn(x:bQ)(k:bp.eg)(zC:Nat)(ov nv fv lv:aa)(H:ad):Prop where
 bP:H.get zC=some (.row false 4 [bW k.count ov nv fv])
 a7:aZ bu H bH (bC k.of) ov
 aS:aZ bu H bH k.nodes nv
 aN:aZ (cQ bu) H bH k.fields fv
 az:aZ c6 H bH (cons x) lv
variable {k:bp.eg}{zC:Nat}{ov nv fv lv:aa}
def pn.aI{H':ad}(s:pn x k zC ov nv fv lv H)(p:ay H H'):pn x k zC ov nv fv lv H':=⟨p.get s.bP,s.a7.aI p,s.aS.aI p,s.aN.aI p,s.az.aI p⟩
def Ke{G:an}{N:Nat}{b:aa->aa->aa->ad->O}{f x4:aa}{i:Nat}{to from_:Int}{Q:aa->ad->Prop}(c:i<=1000000000)(h:from_= -1\/from_=to)(d:W (b f x4 (J X ((i+1:Nat):Int)) H) Q):W (h9 G N b f x4 (J X (i:Nat)) (J X to) (J X from_) H) Q:=by
 by_cases e:from_= -1
 ·subst e;have a:((-1:Int) != -1)=false:=b_;simp-implicitDefEqProofs(disch:=try exact al)only[h9,nt,aq,aG,a,c3 c];exact d
 ·have a:(from_ != -1)=true:=bne_iff_ne.2 e;have g:(from_ != to)=false:=bne_eq_false_iff_eq.2 (h.resolve_left e);simp-implicitDefEqProofs(disch:=try exact al)only[h9,nt,aq,aG,a,g,c3 c];exact d
def B9{G:an}(Y:∀H,G 16 [] H=D (y C,H))(ae:right x=C)(K:po (cL x) x.sites.length k)(aa:∀c∈cons x,BP k c)(R:∀v,v<cL x->k.node v= -1\/∃c:Nat,k.node v=(c:Int)/\c<k.count)(av:(cons x).length<=999999999){N:Nat}:∀(j i q:Nat) (H:ad),i+j=(cons x).length->j<q->pn x k zC ov nv fv lv H->
  W (h_ G N q (.ptr zC 0 0) lv (J X (i:Nat)) H) λr H'=>r= y C/\ay H H'
 |_,_,0,_,_,a8,_=>ai
 |0,i,q+1,H,aw,_,s=>by
  have m:¬(i:Int)<((cons x).length:Int):=ai;have o:∀H0,a2 P H0 .len [53] [lv]=D (J X (cons x).length):=λH0=>s.az.len g4
  simp-implicitDefEqProofs(disch:=try exact al)only[h_,kK,ns,bf,aq,aG,o,m,decide_false];refine fu (x:= y C) (by rw[Y];exact aK.2 ⟨rfl,rfl⟩) ?_;exact aK.2 ⟨rfl,.refl _⟩
 |j+1,i,q+1,H,aw,a8,s=>by
  have m:(i:Int)<((cons x).length:Int):=ai;have ab:i<(cons x).length:=ai;have au:=je ae;have o:∀H0,a2 P H0 .len [53] [lv]=D (J X (cons x).length):=λH0=>s.az.len g4
  have aA:(cons x)[i]? =D (cons x)[i]:=List.getElem?_eq_getElem ab;have M:=List.getElem_mem ab;have on:=B9 Y ae K aa R av (N:=N) j (i+1) q;generalize (cons x)[i]=c at aA M;have hw:=vO au c M;have L:=aa c M;obtain⟨p,A,aF⟩:=s.az.zg (j:=(i:Int)) ai (by simpa using aA);have pp:=(ay.push H (.row Z 4 [[J X 0,J X 0,J X 0,J X 0]]));have ar:=ad.bq H (.row Z 4 [[J X 0,J X 0,J X 0,J X 0]]);have st:bA P (H.push (.row Z 4 [[J X 0,J X 0,J X 0,J X 0]])) 56 (.ptr H.next 0 0) (.agg (cT c))=D ((H.push (.row Z 4 [[J X 0,J X 0,J X 0,J X 0]])).set H.next (.row Z 4 [cT c])):=by
   rw[fN (n:=4) ag ar (e:=[J X 0,J X 0,J X 0,J X 0]) rfl (by cases c<;>rfl) (by cases c<;>rfl) b_];cases c<;>rfl
  have ax:(H.push (.row Z 4 [[J X 0,J X 0,J X 0,J X 0]])).set H.next (.row Z 4 [cT c])=H.push (.row Z 4 [cT c]):=ad.jd _ _ _
  rw[ax]at st;have E:=ad.bq H (.row Z 4 [cT c]);have af:=ay.push H (.row Z 4 [cT c]);have s1:=s.aI af;have aP:(H.push (.row Z 4 [[J X 0,J X 0,J X 0,J X 0]])).next<=(H.push (.row Z 4 [cT c])).next:=Nat.le.refl
  have fin:∀{to from_:Int},(from_= -1\/from_=to)->W (h9 G N (h_ G N q) (.ptr zC 0 0) lv (J X (i:Nat)) (J X to) (J X from_) (H.push (.row Z 4 [cT c]))) λr H'=>r= y C/\ay H H':=λh=>
   Ke ai h ((on _ ai ai s1).mono λr H' z=>⟨z.1,af.trans z.2⟩)
  have B:=aF H (.refl _);generalize H.push (.row Z 4 [cT c])=H1 at*;have u:=g2 s1.bP;have cn:∀{v:Nat},v<cL x->∃p,a6 P 30 nv (J X (v:Int))=D p/\aj P H1 3 p=D (J X (k.node v)):=λaC=>s1.aS.int ai (by simpa using Qw K aC)
  have fd:∀{c f:Nat},c<k.count->f<8->∃p w O,a6 P 31 fv (J X (c:Int))=D p/\aj P H1 30 p=D w/\a6 P 30 w (J X (f:Int))=D O/\aj P H1 3 O=D (J X (k.ea (c:Int) f)):=by
   intro c f aA aN;have Q:c<k.fields.length:=by rw[K.fe];exact aA
   have aL:=K.f8 _ (List.getElem_mem Q);obtain⟨p,w,ah,ak,am⟩:=s1.aN.list (j:=(c:Int)) (a:=k.fields[c]) ai (by simp[Q]);obtain⟨O,ao,ap⟩:=am.int (j:=(f:Int)) (a:=k.ea (c:Int) f) ai (by
    unfold eg.ea;have:f<(k.fields[c]).length:=ai;simp[Q,this])
   exact⟨p,w,O,ah,ak,ao,ap⟩
  cases c with
  |base a b=>
   have lc:=gk E (k:=1) (a:=(a:Int)) (b:=(b:Int)) (f:=0) rfl;obtain⟨S,cP,d⟩:=cn hw.1;obtain⟨T,l,g⟩:=s1.a7.int (j:=(b:Int)) (a:=k.site (b:Int)) ai (ZP K ai (by simpa using hw.2));simp-implicitDefEqProofs(disch:=try exact al)only[h_,kK,bf,Nat.reduceAdd,aq,aO,aG,aM,o,m,decide_true,A,B,st,lc,u,cP,d,l,g,Int.reduceBEq];exact fin (.inr L)
  |copy a b=>
   have lc:=gk E (k:=2) (a:=(a:Int)) (b:=(b:Int)) (f:=0) rfl;obtain⟨S,cP,d⟩:=cn hw.1;obtain⟨T,l,g⟩:=cn hw.2;simp-implicitDefEqProofs(disch:=try exact al)only[h_,kK,bf,Nat.reduceAdd,aq,aO,aG,aM,o,m,decide_true,A,B,st,lc,u,cP,d,l,g,Int.reduceBEq];exact fin L
  |load a b f=>
   have lc:=gk E (k:=3) (a:=(a:Int)) (b:=(b:Int)) (f:=(f:Int)) rfl;obtain⟨S,cP,d⟩:=cn hw.1;obtain⟨T,l,g⟩:=cn hw.2.1;rcases R b hw.2.1 with e|⟨c,e,aA⟩
   ·have t:¬(0:Int)<= -1:=b_;rw[e]at g;simp-implicitDefEqProofs(disch:=try exact al)only[h_,kK,bf,Nat.reduceAdd,aq,aO,aG,aM,o,m,decide_true,A,B,st,lc,u,cP,d,l,g,Int.reduceBEq,t,decide_false];exact fin (.inl rfl)
   ·have t:(0:Int)<=(c:Int):=ai;rw[e]at g;obtain⟨aD,aH,aE,U,V,z3,z4⟩:=fd aA hw.2.2;simp-implicitDefEqProofs(disch:=try exact al)only[h_,kK,bf,Nat.reduceAdd,aq,aO,aG,aM,o,m,decide_true,A,B,st,lc,u,cP,d,l,g,Int.reduceBEq,t,U,V,z3,z4];refine fin ?_;have this:k.node b<0\/k.ea (k.node b) f= -1\/k.ea (k.node b) f=k.node a:=L;rw[e]at this;rcases this with h|h|h
    ·omega
    ·exact .inl h
    ·exact .inr h
  |store a b f=>
   have lc:=gk E (k:=4) (a:=(a:Int)) (b:=(b:Int)) (f:=(f:Int)) rfl;obtain⟨S,cP,d⟩:=cn hw.1;obtain⟨T,l,g⟩:=cn hw.2.1;rcases R a hw.1 with e|⟨c,e,aA⟩
   ·have t:¬(0:Int)<= -1:=b_;rw[e]at d;simp-implicitDefEqProofs(disch:=try exact al)only[h_,kK,bf,Nat.reduceAdd,aq,aO,aG,aM,o,m,decide_true,A,B,st,lc,u,cP,d,l,g,Int.reduceBEq,t,decide_false];exact fin (.inr rfl)
   ·have t:(0:Int)<=(c:Int):=ai;rw[e]at d;obtain⟨aD,aH,aE,U,V,z3,z4⟩:=fd aA hw.2.2;simp-implicitDefEqProofs(disch:=try exact al)only[h_,kK,bf,Nat.reduceAdd,aq,aO,aG,aM,o,m,decide_true,A,B,st,lc,u,cP,d,l,g,Int.reduceBEq,t,U,V,z3,z4];refine fin ?_;have this:k.node b= -1\/k.node a<0\/k.node b=k.ea (k.node a) f:=L;rw[e]at this;rcases this with h|h|h
    ·exact .inl h
    ·omega
    ·exact .inr h
  |same a b=>
   have lc:=gk E (k:=5) (a:=(a:Int)) (b:=(b:Int)) (f:=0) rfl;exact absurd M (by intro hm;exact Qv hm)
end
end
section
open Go.bp
section
variable {x:bQ}{H:ad}{ok:Nat->Prop}{k:bp.eg}{zC:Nat}{ov nv fv lv:aa}
def B8{G:an}(b:po (cL x) x.sites.length k)(o:x.sites.length<=60){N:Nat}{Q:aa->ad->Prop}(s:pn x k zC ov nv fv lv H)(fin:W (o8 G N (.ptr zC 0 0) lv H) Q):∀(j i q:Nat),i+j=k.fields.length->j<q->
  W (nu G N q (.ptr zC 0 0) lv (J X (i:Nat)) H) Q
 |_,_,0,_,a8=>ai
 |0,i,q+1,n,_=>by
  have c:¬(i:Int)<(k.fields.length:Int):=ai;have d:∀H0,a2 P H0 .len [31] [fv]=D (J X k.fields.length):=λH0=>s.aN.len f_
  simp-implicitDefEqProofs(disch:=try exact al)only[nu,u4,bf,aq,aO,aG,aM,g2 s.bP,d,c,decide_false];exact fin
 |j+1,i,q+1,n,a8=>by
  have c:(i:Int)<(k.fields.length:Int):=ai;have e:i<k.fields.length:=ai;have ae:=b.fe;have ah:=b.Db;have d:∀H0,a2 P H0 .len [31] [fv]=D (J X k.fields.length):=λH0=>s.aN.len f_
  have m:=b.f8 _ (List.getElem_mem e);obtain⟨p,w,f,g,h⟩:=s.aN.list (j:=(i:Int)) (a:=k.fields[i]) ai (by simp[e]);have lw:∀H0,a2 P H0 .len [30] [w]=D (J X 8):=λH0=>by rw[h.len cU,m];rfl
  have l:((8:Int) != 8)=false:=b_;simp-implicitDefEqProofs(disch:=try exact al)only[nu,u4,bf,aq,aO,aG,aM,g2 s.bP,d,c,decide_true,f,g,lw,l,c3 (show i<=1000000000 by omega)];exact B8 b o s fin j (i+1) q ai ai
def Kh{V:aa}(aD:c2 H ok x V){N:Nat}(a0:100000<=N):W (kJ (lY P ax 16 C) N V H) λr H'=>r= y C/\ay H H':=by
 have ab:=aD;obtain⟨_,rfl,a,b,cc,d,rfl,ae,ah,ak,au⟩:=aD;have u:=ay.push H (.row Z 5 [[a,b,cc,d,J X x.main]]);have aT:=ad.bq H (.row Z 5 [[a,b,cc,d,J X x.main]]);have a5:aV (D (.agg [a,b,cc,d,J X x.main])) (.agg [a,b,cc,d,J X x.main])=true:=by simp[aV,aa.beq,eE.beq,ae.rd,ah.rd,ak.rd,au.rd]
 simp-implicitDefEqProofs(disch:=try exact al)only[kJ,aq,dZ ae ah ak au,ch aT];rw[sF b_];refine bk (NS (ab.aI u)) ?_;rintro _ aU ⟨⟨q,rfl,a8⟩,j⟩;refine⟨j.1,?_⟩;cases q with
 |true=>
  simp-implicitDefEqProofs(disch:=try exact al)only[aq];exact aK.2 ⟨rfl,u.trans j⟩
 |false=>
 have Y:=a8 rfl;have R:=j.get aT;have E:=(ab.aI u).aI j;simp-implicitDefEqProofs(disch:=try exact al)only[aq,ch R];rw[sF b_];refine cE (AR E Y.DL.1 Y.DL.2) ?_;rintro _ aW ⟨rfl,l⟩;refine⟨l.1,?_⟩;by_cases f:right x=C
 case neg=>
  have aE:right x=false:=by simpa using f
  rw[aE];simp-implicitDefEqProofs(disch:=try exact al)only[aq,Bool.not_false];exact aK.2 ⟨rfl,(u.trans j).trans l⟩
 have w:=je f;rw[f];have S:=l.get R;simp-implicitDefEqProofs(disch:=try exact al)only[aq,Bool.not_true,ch S];rw[sF b_];refine bk (ZB f (E.aI l)) ?_;rintro _ e ⟨⟨ov,nv,fv,rfl,L,M,O,aZ⟩,A⟩;refine⟨A.1,?_⟩;have g:=Lx x;have aA:=Kf w;have aC:∀v,v<cL x->(bp.hk x).node v= -1\/∃c:Nat,(bp.hk x).node v=(c:Int)/\c<(bp.hk x).count:=λv i=>Qx w i
 generalize bp.hk x=k at*;have aw:=A.get S;have ar:=ad.bq e (.row Z 4 [bW 0 .aB .aB .aB]);have st:bA P (e.push (.row Z 4 [[J X 0,.aB,.aB,.aB]])) 33 (.ptr e.next 0 0) (.agg (bW k.count ov nv fv))=D ((e.push (.row Z 4 [[J X 0,.aB,.aB,.aB]])).set e.next (.row Z 4 [bW k.count ov nv fv])):=kO (n:=k.count) ar rfl L.one M.one O.one;rw[ad.jd]at st;have a4:(e.push (.row Z 4 [[J X 0,.aB,.aB,.aB]])).next<=(e.push (.row Z 4 [bW k.count ov nv fv])).next:=Nat.le.refl
 have m:=ay.push e (.row Z 4 [bW k.count ov nv fv]);have bP:=ad.bq e (.row Z 4 [bW k.count ov nv fv]);have T:=m.get aw;have aR:=(((u.trans j).trans l).trans A).trans m;simp-implicitDefEqProofs(disch:=try exact al)only[Nat.reduceAdd,aq,aO,st,ch T];rw[sF b_];generalize e.next=zC at*
 have af:=((E.aI l).aI A).aI m;have aj:=L.aI m;have B:=M.aI m;have a3:=O.aI m;generalize e.push (.row Z 4 [bW k.count ov nv fv])=aX at*;refine bk (Tq f af) ?_;rintro lv aY ⟨am,o⟩;refine⟨o.1,?_⟩;have U:=o.get T;simp-implicitDefEqProofs(disch:=try exact al)only[aq,ch U];rw[sF b_];refine bk (S9 f (af.aI o)) ?_;rintro _ G ⟨rfl,t⟩;refine⟨t.1,?_⟩;have s:=o.trans t;have az:=t.get U;have Q:=s.get bP;have kJ:pn x k zC ov nv fv lv G:=⟨Q,aj.aI s,B.aI s,a3.aI s,am.aI t⟩;have aF:∀H0,a2 P H0 .len [30] [nv]=D (J X (cL x:Nat)):=λH0=>by rw[kJ.aS.len cU,g.nl]
 have aH:∀H0,a2 P H0 .len [30] [ov]=D (J X x.sites.length):=λH0=>by rw[kJ.a7.len cU];simp[bC,g.FM]
 have aP:∀H0,a2 P H0 .len [25] [d]=D (J X x.sites.length):=λH0=>au.len e4
 have aQ:∀H0,a2 P H0 .len [31] [fv]=D (J X k.count):=λH0=>by rw[kJ.aN.len f_,g.fe]
 have an:(((cL x:Nat):Int) != ((cL x:Nat):Int))=false:=bne_self_eq_false _;have ao:((x.sites.length:Int) != (x.sites.length:Int))=false:=bne_self_eq_false _;have ap:((k.count:Int) != (k.count:Int))=false:=bne_self_eq_false _;simp-implicitDefEqProofs(disch:=try exact al)only[aq,aO,aG,aM,g2 Q,dy az,aF,aH,aP,aQ,an,ao,ap,hU];have av:=o.get bP;have a6:=B.rd;refine cI (cJ ag ?_) ?_
 ·refine sd ?_ ?_
  ·simp only[cw,bo.K.heap,List.forall_mem_cons]
   repeat' first|exact ay.refl _|exact t|(intro _ h;cases h;done)|refine aL ?_ ?_
  ·simp only[List.forall_mem_cons]
   repeat' first|(intro v i;cases i;done)|(intro v i;exact .inl rfl)|(intro v i;cases i;refine .inr λH' p=> ?_;simp only[g2 (p.get av),eA B];done)|(intro _ h;cases h;done)|refine aL ?_ ?_
 ·have a1:=zi f;refine B8 g w.sites kJ ?_ k.fields.length 0 N ai (by have:=g.fe;have:=g.Db;have:=w.sites;omega);simp only[o8];refine(B9 (λ_=>LY _) f g aA aC ai (cons x).length 0 N G ai ai kJ).mono λr H' z=>⟨z.1,?_⟩
  exact(aR.trans s).trans z.2
end
end
end Go.Proofs.YtmhhnnklfcbgfaaGreat
namespace Go.bo
abbrev BQ:=an->List aa->ad->O
inductive hd where
 |leaf (n:Nat) (b:BQ)
 |node (m:Nat) (a b:hd)
noncomputable section
def hd.run(ax:an)(t:hd)(G:an)(f:Nat)(args:List aa)(H:ad):O:=@hd.rec (λ_=>O) (λn b=> @Bool.rec (λ_=>O) (ax f args H) (b G args H) (Nat.beq f n)) (λm _ _ x y=> @Bool.rec (λ_=>O) y x (Nat.ble f m)) t
def DA(ax:an)(t:hd)(n:Nat):an:= @Nat.rec (λ_=>an) (λ_ _ _=>I) (λ_ a f args H=>t.run ax a f args H) n
def kg(l:List aa)(k:O):O:= @List.rec aa (λ_=>O) k (λ_ _ _=>I) l
def cm(l:List aa)(k:aa->O):O:= @List.rec aa (λ_=>O) I (λa r _=>kg r (k a)) l
def b2(l:List aa)(k:aa->aa->O):O:= @List.rec aa (λ_=>O) I (λa r _=>cm r (k a)) l
def dU(l:List aa)(k:aa->aa->aa->O):O:= @List.rec aa (λ_=>O) I (λa r _=>b2 r (k a)) l
def jA(l:List aa)(k:aa->aa->aa->aa->O):O:= @List.rec aa (λ_=>O) I (λa r _=>dU r (k a)) l
def pE(l:List aa)(k:aa->aa->aa->aa->aa->O):O:= @List.rec aa (λ_=>O) I (λa r _=>jA r (k a)) l
def Ch{l:List aa}{k:O}{r}(h:kg l k=D r):l=[]/\k=D r:=by
 cases l with
 |nil=>exact⟨rfl,h⟩
 |cons a l=>cases h
def Ci{l:List aa}{k:aa->O}{r}(h:cm l k=D r):∃a,l=[a]/\k a=D r:=by
 cases l with
 |nil=>cases h
 |cons a l=>obtain⟨rfl,h⟩:=Ch h;exact⟨a,rfl,h⟩
def Cj{l:List aa}{k:aa->aa->O}{r}(h:b2 l k=D r):∃a b,l=[a,b]/\k a b=D r:=by
 cases l with
 |nil=>cases h
 |cons a l=>obtain⟨b,rfl,h⟩:=Ci h;exact⟨a,b,rfl,h⟩
def Ck{l:List aa}{k:aa->aa->aa->O}{r}(h:dU l k=D r):∃a b c,l=[a,b,c]/\k a b c=D r:=by
 cases l with
 |nil=>cases h
 |cons a l=>obtain⟨b,c,rfl,h⟩:=Cj h;exact⟨a,b,c,rfl,h⟩
def Cl{l:List aa}{k:aa->aa->aa->aa->O}{r}(h:jA l k=D r):∃a b c d,l=[a,b,c,d]/\k a b c d=D r:=by
 cases l with
 |nil=>cases h
 |cons a l=>obtain⟨b,c,d,rfl,h⟩:=Ck h;exact⟨a,b,c,d,rfl,h⟩
def KG{l:List aa}{k:aa->aa->aa->aa->aa->O}{r}(h:pE l k=D r):∃a b c d e,l=[a,b,c,d,e]/\k a b c d e=D r:=by
 cases l with
 |nil=>cases h
 |cons a l=>obtain⟨b,c,d,e,rfl,h⟩:=Cl h;exact⟨a,b,c,d,e,rfl,h⟩
def bT(E:Env)(P:Program)(n:Nat)(b:BQ):Prop:=∀G,dT E P G->∀args H v H',b G args H=D (v,H')->fO E P n args H v H'
def hd.Ok(E:Env)(P:Program):hd->Prop
 | .leaf n b=>bT E P n b
 | .node _ a b=>a.Ok E P/\b.Ok E P
section
variable {E:Env}{P:Program}{ax G:an}
def hd.AW(g:dT E P ax)(e:dT E P G):∀{t:hd},t.Ok E P->∀{f:Nat} {args:List aa} {H:ad} {v:aa} {H':ad},t.run ax G f args H=D (v,H')->fO E P f args H v H'
 | .leaf n b,d,f,args,H,v,H',h=>by
  have ah: @Bool.rec (λ_=>O) (ax f args H) (b G args H) (Nat.beq f n)=D (v,H'):=h;cases c:Nat.beq f n with
  |false=>rw[c]at ah;exact g _ _ _ _ _ ah
  |true=>
   rw[c]at ah;obtain rfl:=Nat.eq_of_beq_eq_true c;exact d G e _ _ _ _ ah
 | .node m a b,d,f,args,H,v,H',h=>by
  have ah: @Bool.rec (λ_=>O) (b.run ax G f args H) (a.run ax G f args H) (Nat.ble f m)=D (v,H'):=h;cases c:Nat.ble f m with
  |false=>rw[c]at ah;exact hd.AW g e d.2 ah
  |true=>rw[c]at ah;exact hd.AW g e d.1 ah
def lZ(a:dT E P ax){t:hd}(b:t.Ok E P):∀n,dT E P (DA ax t n)
 |0=>λ_ _ _ _ _ h=>by cases h
 |n+1=>λ_ _ _ _ _ h=>hd.AW a (lZ a b n) b h
abbrev pI(P:Program)(fn:Func)(G:an)(N:Nat):ew:=aX P G N (bb fn) (j2 P fn.results.toList) [] (j2 P fn.results.toList)
structure pr(P:Program)(n:Nat)(fn:Func)(k:Nat):Prop where
 f:P.funcs[n]? =some fn
 b:fn.body=some (bb fn)
 d:h3 fn.ntmps (bb fn)=true
 n:Nat.ble k fn.ntmps=true
variable {n N:Nat}{fn:Func}
def z8(c:hZ P)(w:pr P n fn 0){s:an->ad->O}(h:∀G H,pI P fn G N (bO []) H=s G H):bT E P n λG l H=>kg l (s G H):=by
 intro G a l H v H' e;obtain⟨rfl,e⟩:=Ch e;exact nY (args:=[]) c a w.f w.b w.d w.n ((h G H).trans e)
def dS(g:hZ P)(w:pr P n fn 1){s:an->aa->ad->O}(h:∀G a H,pI P fn G N (bO [a]) H=s G a H):bT E P n λG l H=>cm l λa=>s G a H:=by
 intro G c l H v H' e;obtain⟨a,rfl,e⟩:=Ci e;exact nY (args:=[a]) g c w.f w.b w.d w.n ((h G a H).trans e)
def dm(g:hZ P)(w:pr P n fn 2){s:an->aa->aa->ad->O}(h:∀G a b H,pI P fn G N (bO [a,b]) H=s G a b H):bT E P n λG l H=>b2 l λa b=>s G a b H:=by
 intro G c l H v H' e;obtain⟨a,b,rfl,e⟩:=Cj e;exact nY (args:=[a,b]) g c w.f w.b w.d w.n ((h G a b H).trans e)
def gQ(i:hZ P)(w:pr P n fn 3){s:an->aa->aa->aa->ad->O}(h:∀G a b c H,pI P fn G N (bO [a,b,c]) H=s G a b c H):bT E P n λG l H=>dU l λa b c=>s G a b c H:=by
 intro G g l H v H' e;obtain⟨a,b,c,rfl,e⟩:=Ck e;exact nY (args:=[a,b,c]) i g w.f w.b w.d w.n ((h G a b c H).trans e)
def wK(i:hZ P)(w:pr P n fn 4){s:an->aa->aa->aa->aa->ad->O}(h:∀G a b c d H,pI P fn G N (bO [a,b,c,d]) H=s G a b c d H):bT E P n λG l H=>jA l λa b c d=>s G a b c d H:=by
 intro G g l H v H' e;obtain⟨a,b,c,d,rfl,e⟩:=Cl e;exact nY (args:=[a,b,c,d]) i g w.f w.b w.d w.n ((h G a b c d H).trans e)
def E2(i:hZ P)(w:pr P n fn 5){s:an->aa->aa->aa->aa->aa->ad->O}(h:∀G a b c d x H,pI P fn G N (bO [a,b,c,d,x]) H=s G a b c d x H):bT E P n λG l H=>pE l λa b c d x=>s G a b c d x H:=by
 intro G g l H v H' e;obtain⟨a,b,c,d,x,rfl,e⟩:=KG e;exact nY (args:=[a,b,c,d,x]) i g w.f w.b w.d w.n ((h G a b c d x H).trans e)
def zJ(b:Bool)(o:O):Bool:= @Option.rec _ (λ_=>Bool) Z (λp=> @Prod.rec _ _ (λ_=>Bool) (λv _=>match v with
 | .bool c=>c==b
 |_=>Z) p) o
def OG{b:Bool}{o:O}(h:zJ b o=C):∃H,o=D (y b,H):=by
 match o,h with
 |some (y c,H),h=>
  have:c=b:=by simpa [zJ]using h
  exact⟨H,by rw[this]⟩
def Lw(a:dT E P ax){t:hd}(c:t.Ok E P){m f:Nat}{args:List aa}{H:ad}{b:Bool}(h:zJ b (DA ax t m f args H)=C):∃H',fO E P f args H (y b) H':=by
 obtain⟨H',e⟩:=OG h;exact⟨H',lZ a c m _ _ _ _ _ e⟩
end
end
def vK:List (List aa)->List (List aa)->Bool
 |[],[]=>C
 |a::us,b::bs=>eE.beq a b&&vK us bs
 |_,_=>Z
def CX:∀{a b:List (List aa)},vK a b=C->a=b
 |[],[],_=>rfl
 |[],_::_,h=>by cases h
 |_::_,[],h=>by cases h
 |a::us,b::bs,h=>by
  simp only[vK,Bool.and_eq_true]at h;rw[eE.beq_eq h.1,CX h.2]
def y9(o:Option bL)(b:bL):Bool:=match o,b with
 |some (.row r e els),.row dj a c=>(r==dj)&&(Nat.beq e a&&vK els c)
 |_,_=>Z
def Lb{o:Option bL}{b:bL}(h:y9 o b=C):o=D b:=by
 unfold y9 at h;split at h
 ·simp only[Bool.and_eq_true,beq_iff_eq]at h;obtain⟨rfl,ah,ak⟩:=h;rw[Nat.eq_of_beq_eq_true ah,CX ak]
 ·cases h
def l7:List (Nat×bL)->bJ bL
 |[]=> .leaf
 |p::a=>bJ.put p.2 0 (l7 a) p.1
def l6(ls:List (Nat×bL))(n:Nat):ad:=⟨l7 ls,n⟩
def Fl{l:Nat}{b:bL}:∀{ls:List (Nat×bL)},(l7 ls).get l=D b->(l,b)∈ls
 |[],h=>by rw[l7,bJ.pZ]at h;cases h
 |p::a,h=>by
  by_cases e:p.1=l
  ·subst e;rw[l7,bJ.put,bJ.get,bJ.v_]at h;cases h;simp
  ·have:(bJ.put p.2 0 (l7 a) p.1).get l=(l7 a).get l:=bJ.p1 _ _ _ _ _ e;rw[l7,this]at h;exact List.mem_cons_of_mem _ (Fl h)
def Qe{ls:List (Nat×bL)}{n l:Nat}{b:bL}(h:(l6 ls n).get l=D b):(l,b)∈ls:=by
 unfold ad.get at h;split at h
 ·exact Fl h
 ·cases h
def wb(H:ad)(ls:List (Nat×bL)):Bool:=ls.all λp=>y9 (H.get p.1) p.2
structure Sub(A B:ad):Prop where
 next:A.next=B.next
 get:∀l b,A.get l=some b->B.get l=some b
def IG{H:ad}{ls:List (Nat×bL)}{n:Nat}(h:wb H ls=C)(aS:Nat.beq H.next n=C):Sub (l6 ls n) H:=by
 refine⟨(Nat.eq_of_beq_eq_true aS).symm,λl b a=> ?_⟩;unfold wb at h;rw[List.all_eq_true]at h;exact Lb (h _ (Qe a))
def Sub.rw{A B:ad}(h:Sub A B){l:Nat}(az:A.rw l):B.rw l:=by
 rcases az with⟨e,s,g⟩|⟨es,g⟩|⟨t,e,s,g⟩
 ·exact .inl ⟨e,s,h.get _ _ g⟩
 ·exact .inr (.inl ⟨es,h.get _ _ g⟩)
 ·exact .inr (.inr ⟨t,e,s,h.get _ _ g⟩)
def Sub.live{A B:ad}(h:Sub A B){l:Nat}(az:A.live l):B.live l:=by
 rcases az with⟨r,e,s,g⟩|⟨es,g⟩|⟨t,e,s,g⟩
 ·exact .inl ⟨r,e,s,h.get _ _ g⟩
 ·exact .inr (.inl ⟨es,h.get _ _ g⟩)
 ·exact .inr (.inr ⟨t,e,s,h.get _ _ g⟩)
def Sub.rel{ρ:Env}{A B:ad}{w:World}(h:Sub A B)(r:Rel ρ B w):Rel ρ A w:=
 ⟨λl ro esz els g=>r.row l ro esz els (h.get _ _ g),λl es g=>r.map l es (h.get _ _ g),λl t esz els g=>r.dz l t esz els (h.get _ _ g),λl c a b ae ah=>r.apart l c a b (h.rw ae) (h.live ah)⟩
def Sub.owned{ρ:Env}{A B:ad}{b:Nat}(h:Sub A B):gX ρ A b->gX ρ B b:=λ⟨l,loc,ae,ah,ak⟩=>⟨l,loc,h.rw ae,ah,ak⟩
def fO.narrow{E:Env}{P:Program}{g:Nat}{args:List aa}{v:aa}{H H0 H1 d:ad}(h:fO E P g args H0 v H1)(a:Sub H0 H)(ae:Sub d H1):fO E P g args H v d:=by
 intro ρ w xs e aN f aS next i
 refine h ρ w xs (a.rel e) (by rw[a.next,<-ae.next];exact aN) f (by rw[a.next,<-ae.next];exact aS) next λx j k aD s=>i x j k aD ⟨s.le,by have:=s.next;rw[a.next,<-ae.next]at this;exact this,λl az=>s.keep l (by rw[a.next,<-ae.next];exact az),ae.rel s.rel,s.os,s.tape,s.output,s.size,λb c a7=>s.frame b c λca=>a7 (a.owned ca),λb c=>(s.own b (ae.owned c)).imp a.owned id,λl esz els g=>a.get _ _ (s.ro l esz els (ae.get _ _ g))⟩
structure e_ where
 f:Nat
 args:List aa
 dq:Nat
 Ag:List (Nat×bL)
 v:aa
 cP:Nat
 wO:List (Nat×bL)
def zd(o:O)(v:aa)(n:Nat)(ls:List (Nat×bL)):Bool:=match o with
 |some (w,H)=>aa.beq w v&&(Nat.beq H.next n&&wb H ls)
 |none=>Z
def Ll{o:O}{v:aa}{n:Nat}{ls:List (Nat×bL)}(h:zd o v n ls=C):∃H,o=D (v,H)/\Sub (l6 ls n) H:=by
 unfold zd at h;split at h
 ·rename_i w H;simp only[Bool.and_eq_true]at h;exact⟨H,by rw[aa.beq_eq h.1],IG h.2.2 h.2.1⟩
 ·cases h
def e_.Ok(E:Env)(P:Program)(s:e_):Prop:=fO E P s.f s.args (l6 s.Ag s.dq) s.v (l6 s.wO s.cP)
def e_.la{E:Env}{P:Program}{s:e_}{G:an}(a:dT E P G)(h:zd (G s.f s.args (l6 s.Ag s.dq)) s.v s.cP s.wO=C):s.Ok E P:=by
 obtain⟨H,e,b⟩:=Ll h;exact fO.narrow (a _ _ _ _ _ e) ⟨rfl,λ_ _ g=>g⟩ b
def e_.fits(s:e_)(f:Nat)(args:List aa)(H:ad):Bool:=Nat.beq s.f f&&(Nat.beq H.next s.dq&&(eE.beq args s.args&&wb H s.Ag))
def Bx(ax:an):List e_->an
 |[],f,args,H=>ax f args H
 |s::a,f,args,H=>bif s.fits f args H then D (s.v,l6 s.wO s.cP)else Bx ax a f args H
def By{E:Env}{P:Program}{ax:an}(c:dT E P ax):∀{b:List e_},(∀s∈b,s.Ok E P)->dT E P (Bx ax b)
 |[],_=>c
 |s::b,h=>by
  intro f args H v H' e;have a:(bif s.fits f args H then D (s.v,l6 s.wO s.cP)else Bx ax b f args H)=D (v,H'):=e;cases aN:s.fits f args H with
  |true=>
   rw[aN]at a;cases a;unfold e_.fits at aN;simp only[Bool.and_eq_true]at aN;obtain⟨ae,ah,ak,au⟩:=aN;obtain rfl:=Nat.eq_of_beq_eq_true ae;rw[eE.beq_eq ak];exact fO.narrow (h s (by simp)) (IG au ah) ⟨rfl,λ_ _ g=>g⟩
  |false=>
   rw[aN]at a;exact By c (λt d=>h t (by simp[d])) _ _ _ _ _ a
end Go.bo
namespace Go.Proofs.YtmhhnnklfcbgfaaGreat
open Go.bo
section
set_option maxRecDepth 100000
noncomputable section
def u2(G:an)(N:Nat)(b a x4:aa)(H:ad):O:=bf P .len [9] [b] H λc=>af (c7 P 113 [(0,(J X 0)),(3,c)]) λd=>bx H (cv P (H).next 106 1 [(0,d)]) λe ae=>aU ae (cS P ae [106,106] x4 e) λf ah=>bY ah (bA P ah 65 a (.agg [J X 0,J X 0])) λak=>af (aj P ak 65 a) λr=>D (.tuple [f,r],ak)
def YS(G:an)(N:Nat):∀R H,aX P G N (j (j (j (j (j (bb Tryz.f58)))))) (aR Tryz.f58) [] (aR Tryz.f58) R H=u2 G N (R 0) (R 3) (R 4) H:=by
 refine bj (aw _) λR H=> ?_
 delta u2;kernel_rfl
def Bk(G:an)(N:Nat)(L1:aa->aa->aa->aa->ad->O)(a b:aa)(x4 x5:aa)(H:ad):O:=bf P .len [9] [a] H λg=>af (ar P .lss 3 Z x5 g) λh=>aP (D h) (aU H (G 113 [a,x5] H) λd ae=>af (gC d 0) λi=>af (gC d 1) λe=>cA ae [J X 0,F [],J X 0,J X 0] λx6 ah=>bY ah (bA P ah 113 x6 i) λak=>af (ar P .eql 3 C e (J X 0)) λj=>aP (D j) (af (c7 P 65 [(0,(J X 1)),(1,x5)]) λk=>bY ak (bA P ak 65 b k) λau=>af (aj P au 65 b) λr=>D (.tuple [aa.aB,r],au)) (af (aj P ak 113 x6) λl=>bx ak (cv P (ak).next 106 1 [(0,l)]) λm au=>aU au (cS P au [106,106] x4 m) λn c=>af (ar P .add 3 Z x5 e) λo=>aU c (G 112 [a,o] c) λp f=>L1 a b n p f)) (u2 G N a b x4 H)
def u3(G:an)(N:Nat):Nat->aa->aa->aa->aa->ad->O
 |0,_,_,_,_,_=>I
 |n+1,a,b,x4,x5,H=>Bk G N (u3 G N n) a b x4 x5 H
def YQ(G:an)(N:Nat)(L1:aa->aa->aa->aa->ad->O):∀R H,aX P G N (aE (aE (aE (j (j (j (j (bb Tryz.f58)))))))) (λR H=>L1 (R 0) (R 3) (R 4) (R 5) H) [(0,(λR H=>u2 G N (R 0) (R 3) (R 4) H))] (aR Tryz.f58) R H=Bk G N L1 (R 0) (R 3) (R 4) (R 5) H:=by
 refine bj (aw _) λR H=> ?_
 delta Bk;generalize u2 G N=a;revert a;refine id ?_;intro a;kernel_rfl
def x_(G:an)(N:Nat)(a:aa)(H:ad):O:=cA H [J X 0,J X 0] λb ae=>bf P .len [9] [a] ae λd=>af (ar P .gtr 3 C d (J X 6000)) λx10=>aP (D x10) (bY ae (bA P ae 65 b (.agg [J X 4,J X 0])) λah=>af (aj P ah 65 b) λr=>D (.tuple [aa.aB,r],ah)) (aU ae (G 112 [a,J X 0] ae) λc ah=>u3 G N N a b aa.aB c ah)
def YR(G:an)(N:Nat)(b:aa)(H:ad):bd Tryz.f58 G N (bO [b]) H=x_ G N b H:=by
 refine bR (A:=bd Tryz.f58 G N) ((aF ag ((aF ag ((aF ag ((aF ag ((aF ag (YS G N) ((bX ag ((cj (k:=λm R H=>u3 G N m (R 0) (R 3) (R 4) (R 5) H) ag (λR H=>ag) (λm=>YQ G N (u3 G N m)))))))) (aw _))) (aw _))) (aw _))) (aw _))) ?_;delta x_;generalize u3 G N N=a;revert a;refine id ?_;intro a;kernel_rfl
def qk(G:an)(N:Nat)(x1:aa)(H:ad):O:=some (x1,H)
def VD(G:an)(N:Nat):∀R H,aX P G N (j (j (bb Tryz.f112))) (aR Tryz.f112) [] (aR Tryz.f112) R H=qk G N (R 1) H:=by
 refine bj (aw _) λR H=> ?_
 delta qk;kernel_rfl
def A1(G:an)(N:Nat)(L1:aa->aa->ad->O)(b:aa->aa->ad->O)(a x1:aa)(H:ad):O:=bf P .len [9] [a] H λx51=>af (ar P .lss 3 Z x1 x51) λx52=>ao x52 C H (bw a) λc ae=>ao x52 C ae (bw x1) λd ah=>ao x52 C ah (aH (gf P 9 c d)) λe ak=>ao x52 C ak (aH (ar P .neq 5 C e (J .u8 10))) λf au=>af (ba x52 (D f) (D (y Z))) λg=>aP (D g) (af (ar P .add 3 C x1 (J X 1)) λh=>b a h au) (L1 a x1 au)
def tw(G:an)(N:Nat)(L1:aa->aa->ad->O):Nat->aa->aa->ad->O
 |0,_,_,_=>I
 |n+1,a,x1,H=>A1 G N L1 (tw G N L1 n) a x1 H
def VB(G:an)(N:Nat)(L1:aa->aa->ad->O)(b:aa->aa->ad->O):∀R H,aX P G N (aE (aE (aE (j (j (j (aE (aE (j (aE (aE (aE (j (bb Tryz.f112)))))))))))))) (λR H=>b (R 0) (R 1) H) [(3,(λR H=>L1 (R 0) (R 1) H)),(2,(λR H=>L1 (R 0) (R 1) H)),(1,(λR H=>L1 (R 0) (R 1) H)),(0,(λR H=>qk G N (R 1) H))] (aR Tryz.f112) R H=A1 G N L1 b (R 0) (R 1) H:=by
 refine bj (aw _) λR H=> ?_
 delta A1;generalize L1=a;revert a;refine id ?_;intro a;kernel_rfl
def A0(G:an)(N:Nat)(L1:aa->aa->ad->O)(a x1:aa)(H:ad):O:=bf P .len [9] [a] H λx7=>af (ar P .lss 3 Z x1 x7) λx8=>aP (D x8) (af (gf P 9 a x1) λt=>af (ar P .eql 5 C t (J .u8 32)) λc=>ao c Z H (bw a) λu ae=>ao c Z ae (bw x1) λv ah=>ao c Z ah (aH (gf P 9 u v)) λw ak=>ao c Z ak (aH (ar P .eql 5 C w (J .u8 9))) λx au=>af (ba c (D (y C)) (D x)) λd=>ao d Z au (bw a) λz o=>ao d Z o (bw x1) λA p=>ao d Z p (aH (gf P 9 z A)) λB q=>ao d Z q (aH (ar P .eql 5 C B (J .u8 10))) λE r=>af (ba d (D (y C)) (D E)) λe=>ao e Z r (bw a) λK s=>ao e Z s (bw x1) λL h=>ao e Z h (aH (gf P 9 K L)) λM i=>ao e Z i (aH (ar P .eql 5 C M (J .u8 13))) λQ f=>af (ba e (D (y C)) (D Q)) λR=>aP (D R) (af (ar P .add 3 C x1 (J X 1)) λS=>L1 a S f) (bf P .len [9] [a] f λT=>af (ar P .sub 3 Z T x1) λU=>af (ar P .geq 3 C U (J X 2)) λb=>ao b C f (bw a) λV j=>ao b C j (bw x1) λW k=>ao b C k (bw x1) λY l=>ao b C l (aH (ar P .add 3 C Y (J X 2))) λab m=>ao b C m (aH (fX P 9 V (D W) (D ab) I)) λag n=>ao b C n (aH (ar P .eql 9 C ag (F [47,47]))) λai g=>af (ba b (D ai) (D (y Z))) λaj=>aP (D aj) (tw G N L1 N a x1 g) (D (x1,g)))) (qk G N x1 H)
def tv(G:an)(N:Nat):Nat->aa->aa->ad->O
 |0,_,_,_=>I
 |n+1,a,x1,H=>A0 G N (tv G N n) a x1 H
def VA(G:an)(N:Nat)(L1:aa->aa->ad->O):∀R H,aX P G N (aE (aE (aE (j (bb Tryz.f112))))) (λR H=>L1 (R 0) (R 1) H) [(0,(λR H=>qk G N (R 1) H))] (aR Tryz.f112) R H=A0 G N L1 (R 0) (R 1) H:=by
 refine bj ((aF ag ((bX ag ((bX ag ((aF ag ((dx ag (aw _) ((aF ag ((dx ag ((bX ag ((cj (k:=λm R H=>tw G N L1 m (R 0) (R 1) H) ag (λR H=>ag) (λm=>VB G N L1 (tw G N L1 m)))))) (aw _))) (aw _))))) (aw _))))))) (aw _))) λR H=> ?_
 delta A0;generalize qk G N=a;generalize tw G N L1 N=b;revert a b;refine id ?_;intro a b;kernel_rfl
def xp(G:an)(N:Nat)(a x1:aa)(H:ad):O:=tv G N N a x1 H
def VC(G:an)(N:Nat)(b:aa)(x1:aa)(H:ad):bd Tryz.f112 G N (bO [b,x1]) H=xp G N b x1 H:=by
 refine bR (A:=bd Tryz.f112 G N) ((aF ag ((aF ag (VD G N) ((bX ag ((cj (k:=λm R H=>tv G N m (R 0) (R 1) H) ag (λR H=>ag) (λm=>VA G N (tv G N m)))))))) (aw _))) ?_;delta xp;generalize tv G N N=a;revert a;refine id ?_;intro a;kernel_rfl
def xq(G:an)(b x1:aa)(H:ad):O:=cA H [J X 0,F [],J X 0,J X 0] λx4 ae=>af (gf P 9 b x1) λW=>aU ae (G 149 [W] ae) λY ah=>aP (D Y) (aU ah (G 150 [b,x1,y Z] ah) λm ak=>af (ar P .add 3 Z x1 m) λab=>af (fX P 9 b (D x1) (D ab) I) λk=>aU ak (G 151 [k] ak) λag au=>aP (D ag) (af (c7 P 113 [(0,(J X 3)),(1,k),(3,x1)]) λai=>bY au (bA P au 113 x4 ai) λa=>af (aj P a 113 x4) λr=>D (.tuple [r,m],a)) (aU au (G 152 [k] au) λal a=>aP (D al) (af (c7 P 113 [(0,(J X 1)),(1,k),(3,x1)]) λam=>bY a (bA P a 113 x4 am) λd=>af (aj P d 113 x4) λr=>D (.tuple [r,m],d)) (bY a (bA P a 113 x4 (.agg [J X 0,F [],J X 0,J X 0])) λd=>af (aj P d 113 x4) λr=>D (.tuple [r,J X 0],d)))) (af (gf P 9 b x1) λap=>aU ah (G 153 [ap] ah) λaq ak=>aP (D aq) (aU ak (G 150 [b,x1,y C] ak) λg au=>af (ar P .add 3 Z x1 g) λx52=>af (fX P 9 b (D x1) (D x52) I) λav=>aU au (G 154 [av] au) λp a=>af (gC p 0) λaw=>af (gC p 1) λax=>af (dg .not ax) λh=>ao h Z a (bw g) λay d=>ao h Z d (aH (ar P .gtr 3 C ay (J X 1))) λaz S=>ao h Z S (bw az) λi T=>ao i C T (bw b) λaA U=>ao i C U (bw x1) λaC t=>ao i C t (aH (gf P 9 aA aC)) λaD u=>ao i C u (aH (ar P .eql 5 C aD (J .u8 48))) λaE v=>ao h Z v (aH (ba i (D aE) (D (y Z)))) λaF w=>af (ba h (D (y C)) (D aF)) λc=>ao c Z w (bw x1) λaG x=>ao c Z x (bw g) λaI z=>ao c Z z (aH (ar P .add 3 Z aG aI)) λaK A=>ao c Z A (bw b) λs o=>ao c Z o (λq=>cx (a2 P .empty .len [9] [s]) (a2 P o .len [9] [s]) q) λaL B=>ao c Z B (aH (ar P .lss 3 Z aK aL)) λaM E=>ao c Z E (bw aM) λe K=>ao e C K (bw b) λaN L=>ao e C L (bw x1) λaO M=>ao e C M (bw g) λaQ N=>ao e C N (aH (ar P .add 3 Z aO aQ)) λaR Q=>ao e C Q (aH (gf P 9 aN aR)) λaS l=>ao e C l (λq=>b9 l (G 149 [aS] l) q) λaT R=>ao c Z R (aH (ba e (D aT) (D (y Z)))) λaV j=>af (ba c (D (y C)) (D aV)) λaW=>aP (D aW) (bY j (bA P j 113 x4 (.agg [J X 0,F [],J X 0,J X 0])) λf=>af (aj P f 113 x4) λr=>D (.tuple [r,J X 0],f)) (af (c7 P 113 [(0,(J X 2)),(2,aw),(3,x1)]) λx88=>bY j (bA P j 113 x4 x88) λf=>af (aj P f 113 x4) λr=>D (.tuple [r,g],f))) (aU ak (G 155 [b,x1] ak) λn au=>af (ar P .eql 9 C n (F [])) λaX=>aP (D aX) (bY au (bA P au 113 x4 (.agg [J X 0,F [],J X 0,J X 0])) λa=>af (aj P a 113 x4) λr=>D (.tuple [r,J X 0],a)) (af (c7 P 113 [(0,(J X 4)),(1,n),(3,x1)]) λaY=>bf P .len [9] [n] au λV=>bY au (bA P au 113 x4 aY) λa=>af (aj P a 113 x4) λr=>D (.tuple [r,V],a))))
def VE(G:an)(N:Nat)(a:aa)(x1:aa)(H:ad):bd Tryz.f113 G N (bO [a,x1]) H=xq G a x1 H:=by
 refine bR (A:=bd Tryz.f113 G N) (aw _) ?_;delta xq;kernel_rfl
def xz(G:an)(a:aa)(H:ad):O:=af (ar P .geq 5 C a (J .u8 97)) λx4=>ao x4 C H (bw a) λx6 ae=>ao x4 C ae (aH (ar P .leq 5 C x6 (J .u8 122))) λx7 ah=>af (ba x4 (D x7) (D (y Z))) λx8=>ao x8 Z ah (bw a) λx10 ak=>ao x8 Z ak (aH (ar P .geq 5 C x10 (J .u8 65))) λx11 au=>ao x8 Z au (bw x11) λx12 b=>ao x12 C b (bw a) λf c=>ao x12 C c (aH (ar P .leq 5 C f (J .u8 90))) λg d=>ao x8 Z d (aH (ba x12 (D g) (D (y Z)))) λh e=>af (ba x8 (D (y C)) (D h)) λi=>D (i,e)
def Wm(G:an)(N:Nat)(a:aa)(H:ad):bd Tryz.f149 G N (bO [a]) H=xz G a H:=by
 refine bR (A:=bd Tryz.f149 G N) (aw _) ?_;delta xz;kernel_rfl
def tR(G:an)(N:Nat)(x7:aa)(H:ad):O:=some (x7,H)
def Wq(G:an)(N:Nat):∀R H,aX P G N (j (j (j (bb Tryz.f150)))) (aR Tryz.f150) [] (aR Tryz.f150) R H=tR G N (R 7) H:=by
 refine bj (aw _) λR H=> ?_
 delta tR;kernel_rfl
def A4(G:an)(N:Nat)(L1:aa->aa->aa->aa->ad->O)(d x1:aa)(x2 x7:aa)(H:ad):O:=af (ar P .add 3 Z x1 x7) λx10=>bf P .len [9] [d] H λx12=>af (ar P .lss 3 Z x10 x12) λa=>ao a C H (bw d) λt ae=>ao a C ae (bw x1) λu ah=>ao a C ah (bw x7) λv ak=>ao a C ak (aH (ar P .add 3 Z u v)) λw au=>ao a C au (aH (gf P 9 t w)) λx f=>ao a C f (λq=>b9 f (G 153 [x] f) q) λz o=>ao a C o (bw z) λc p=>ao c Z p (bw x2) λA r=>ao c Z r (aH (dg .not A)) λB s=>ao c Z s (bw B) λb h=>ao b C h (bw d) λE i=>ao b C i (bw x1) λK j=>ao b C j (bw x7) λL k=>ao b C k (aH (ar P .add 3 Z K L)) λM l=>ao b C l (aH (gf P 9 E M)) λQ e=>ao b C e (λq=>b9 e (G 149 [Q] e) q) λR m=>ao c Z m (aH (ba b (D R) (D (y Z)))) λS n=>ao a C n (aH (ba c (D (y C)) (D S))) λT g=>af (ba a (D T) (D (y Z))) λU=>aP (D U) (af (ar P .add 3 C x7 (J X 1)) λV=>L1 d x1 x2 V g) (tR G N x7 g)
def tS(G:an)(N:Nat):Nat->aa->aa->aa->aa->ad->O
 |0,_,_,_,_,_=>I
 |n+1,a,x1,x2,x7,H=>A4 G N (tS G N n) a x1 x2 x7 H
def Wo(G:an)(N:Nat)(L1:aa->aa->aa->aa->ad->O):∀R H,aX P G N (aE (aE (aE (j (j (bb Tryz.f150)))))) (λR H=>L1 (R 0) (R 1) (R 2) (R 7) H) [(0,(λR H=>tR G N (R 7) H))] (aR Tryz.f150) R H=A4 G N L1 (R 0) (R 1) (R 2) (R 7) H:=by
 refine bj (aw _) λR H=> ?_
 delta A4;generalize tR G N=a;revert a;refine id ?_;intro a;kernel_rfl
def xA(G:an)(N:Nat)(a x1 x2:aa)(H:ad):O:=tS G N N a x1 x2 (J X 0) H
def Wp(G:an)(N:Nat)(b:aa)(x1:aa)(x2:aa)(H:ad):bd Tryz.f150 G N (bO [b,x1,x2]) H=xA G N b x1 x2 H:=by
 refine bR (A:=bd Tryz.f150 G N) ((aF ag ((aF ag ((aF ag (Wq G N) ((bX ag ((cj (k:=λm R H=>tS G N m (R 0) (R 1) (R 2) (R 7) H) ag (λR H=>ag) (λm=>Wo G N (tS G N m)))))))) (aw _))) (aw _))) ?_;delta xA;generalize tS G N N=a;revert a;refine id ?_;intro a;kernel_rfl
def tT(G:an)(N:Nat)(H:ad):O:=some ((y Z),H)
def Wt(G:an)(N:Nat):∀R H,aX P G N (j (j (j (bb Tryz.f151)))) (aR Tryz.f151) [] (aR Tryz.f151) R H=tT G N H:=by
 refine bj (aw _) λR H=> ?_
 delta tT;kernel_rfl
def A5(G:an)(N:Nat)(L1:aa->aa->aa->ad->O)(b a x4:aa)(H:ad):O:=bf P .len [57] [a] H λx8=>af (ar P .lss 3 Z x4 x8) λf=>aP (D f) (af (a6 P 57 a x4) λc=>af (aj P H 9 c) λd=>af (ar P .eql 9 Z d b) λe=>aP (D e) (D ((y C),H)) (af (ar P .add 3 C x4 (J X 1)) λx11=>L1 b a x11 H)) (tT G N H)
def tU(G:an)(N:Nat):Nat->aa->aa->aa->ad->O
 |0,_,_,_,_=>I
 |n+1,a,b,x4,H=>A5 G N (tU G N n) a b x4 H
def Wr(G:an)(N:Nat)(L1:aa->aa->aa->ad->O):∀R H,aX P G N (aE (aE (j (aE (j (j (bb Tryz.f151))))))) (λR H=>L1 (R 0) (R 3) (R 4) H) [(0,(λR H=>tT G N H))] (aR Tryz.f151) R H=A5 G N L1 (R 0) (R 3) (R 4) H:=by
 refine bj (aw _) λR H=> ?_
 delta A5;generalize tT G N=a;revert a;refine id ?_;intro a;kernel_rfl
def xB(G:an)(N:Nat)(a:aa)(H:ad):O:=aU H (G 206 [] H) λx5 ae=>tU G N N a x5 (J X 0) ae
def Ws(G:an)(N:Nat)(b:aa)(H:ad):bd Tryz.f151 G N (bO [b]) H=xB G N b H:=by
 refine bR (A:=bd Tryz.f151 G N) ((aF ag ((aF ag ((aF ag (Wt G N) ((aF ag ((bX ag ((cj (k:=λm R H=>tU G N m (R 0) (R 3) (R 4) H) ag (λR H=>ag) (λm=>Wr G N (tU G N m)))))) (aw _))))) (aw _))) (aw _))) ?_;delta xB;generalize tU G N N=a;revert a;refine id ?_;intro a;kernel_rfl
def tV(G:an)(N:Nat)(H:ad):O:=some ((y C),H)
def Ww(G:an)(N:Nat):∀R H,aX P G N (j (j (j (bb Tryz.f152)))) (aR Tryz.f152) [] (aR Tryz.f152) R H=tV G N H:=by
 refine bj (aw _) λR H=> ?_
 delta tV;kernel_rfl
def A6(G:an)(N:Nat)(L1:aa->aa->ad->O)(b c:aa)(H:ad):O:=bf P .len [9] [b] H λf=>af (ar P .lss 3 Z c f) λg=>aP (D g) (af (gf P 9 b c) λi=>aU H (G 149 [i] H) λj ae=>af (dg .not j) λa=>ao a C ae (bw b) λk ah=>ao a C ah (bw c) λl ak=>ao a C ak (aH (gf P 9 k l)) λm au=>ao a C au (λq=>b9 au (G 153 [m] au) q) λn e=>ao a C e (aH (dg .not n)) λo d=>af (ba a (D o) (D (y Z))) λp=>aP (D p) (D ((y Z),d)) (af (ar P .add 3 C c (J X 1)) λh=>L1 b h d)) (tV G N H)
def tW(G:an)(N:Nat):Nat->aa->aa->ad->O
 |0,_,_,_=>I
 |n+1,a,b,H=>A6 G N (tW G N n) a b H
def Wu(G:an)(N:Nat)(L1:aa->aa->ad->O):∀R H,aX P G N (aE (aE (j (aE (j (j (bb Tryz.f152))))))) (λR H=>L1 (R 0) (R 3) H) [(0,(λR H=>tV G N H))] (aR Tryz.f152) R H=A6 G N L1 (R 0) (R 3) H:=by
 refine bj (aw _) λR H=> ?_
 delta A6;generalize tV G N=a;revert a;refine id ?_;intro a;kernel_rfl
def xC(G:an)(N:Nat)(a:aa)(H:ad):O:=bf P .len [9] [a] H λx5=>af (ar P .lss 3 C x5 (J X 1)) λx6=>ao x6 Z H (bw a) λx8 ae=>ao x6 Z ae (λq=>cx (a2 P .empty .len [9] [x8]) (a2 P ae .len [9] [x8]) q) λo ah=>ao x6 Z ah (aH (ar P .gtr 3 C o (J X 8))) λx10 ak=>af (ba x6 (D (y C)) (D x10)) λx11=>ao x11 Z ak (bw a) λh au=>ao x11 Z au (aH (gf P 9 h (J X 0))) λi b=>ao x11 Z b (λq=>b9 b (G 149 [i] b) q) λj f=>ao x11 Z f (aH (dg .not j)) λk g=>af (ba x11 (D (y C)) (D k)) λd=>ao d Z g (bw a) λl c=>ao d Z c (λq=>b9 c (G 151 [l] c) q) λm e=>af (ba d (D (y C)) (D m)) λn=>aP (D n) (D ((y Z),e)) (tW G N N a (J X 0) e)
def Wv(G:an)(N:Nat)(b:aa)(H:ad):bd Tryz.f152 G N (bO [b]) H=xC G N b H:=by
 refine bR (A:=bd Tryz.f152 G N) ((aF ag ((aF ag ((aF ag (Ww G N) ((aF ag ((bX ag ((cj (k:=λm R H=>tW G N m (R 0) (R 3) H) ag (λR H=>ag) (λm=>Wu G N (tW G N m)))))) (aw _))))) (aw _))) (aw _))) ?_;delta xC;generalize tW G N N=a;revert a;refine id ?_;intro a;kernel_rfl
def xD(G:an)(a:aa)(H:ad):O:=af (ar P .geq 5 C a (J .u8 48)) λx4=>ao x4 C H (bw a) λx6 ae=>ao x4 C ae (aH (ar P .leq 5 C x6 (J .u8 57))) λx7 ah=>af (ba x4 (D x7) (D (y Z))) λx8=>D (x8,ah)
def Wx(G:an)(N:Nat)(a:aa)(H:ad):bd Tryz.f153 G N (bO [a]) H=xD G a H:=by
 refine bR (A:=bd Tryz.f153 G N) (aw _) ?_;delta xD;kernel_rfl
def tX(G:an)(N:Nat)(x4:aa)(H:ad):O:=some (.tuple [x4,y C],H)
def WA(G:an)(N:Nat):∀R H,aX P G N (j (j (j (bb Tryz.f154)))) (aR Tryz.f154) [] (aR Tryz.f154) R H=tX G N (R 4) H:=by
 refine bj (aw _) λR H=> ?_
 delta tX;kernel_rfl
def A7(G:an)(N:Nat)(L1:aa->aa->aa->ad->O)(a x4 x5:aa)(H:ad):O:=bf P .len [9] [a] H λj=>af (ar P .lss 3 Z x5 j) λx10=>aP (D x10) (af (gf P 9 a x5) λc=>af (ar P .sub 5 C c (J .u8 48)) λd=>aby P 5 3 d H λb=>af (ar P .sub 3 C (J X 9223372036854775807) b) λe=>af (ar P .quo 3 C e (J X 10)) λf=>af (ar P .gtr 3 Z x4 f) λg=>aP (D g) (D (.tuple [J X 0,y Z],H)) (af (ar P .mul 3 C (J X 10) x4) λh=>af (ar P .add 3 Z h b) λi=>af (ar P .add 3 C x5 (J X 1)) λx12=>L1 a i x12 H)) (tX G N x4 H)
def tY(G:an)(N:Nat):Nat->aa->aa->aa->ad->O
 |0,_,_,_,_=>I
 |n+1,a,x4,x5,H=>A7 G N (tY G N n) a x4 x5 H
def Wy(G:an)(N:Nat)(L1:aa->aa->aa->ad->O):∀R H,aX P G N (aE (aE (j (aE (j (j (bb Tryz.f154))))))) (λR H=>L1 (R 0) (R 4) (R 5) H) [(0,(λR H=>tX G N (R 4) H))] (aR Tryz.f154) R H=A7 G N L1 (R 0) (R 4) (R 5) H:=by
 refine bj (aw _) λR H=> ?_
 delta A7;generalize tX G N=a;revert a;refine id ?_;intro a;kernel_rfl
def xE(G:an)(N:Nat)(a:aa)(H:ad):O:=tY G N N a (J X 0) (J X 0) H
def Wz(G:an)(N:Nat)(b:aa)(H:ad):bd Tryz.f154 G N (bO [b]) H=xE G N b H:=by
 refine bR (A:=bd Tryz.f154 G N) ((aF ag ((aF ag ((aF ag (WA G N) ((aF ag ((bX ag ((cj (k:=λm R H=>tY G N m (R 0) (R 4) (R 5) H) ag (λR H=>ag) (λm=>Wy G N (tY G N m)))))) (aw _))))) (aw _))) (aw _))) ?_;delta xE;generalize tY G N N=a;revert a;refine id ?_;intro a;kernel_rfl
def t_(G:an)(N:Nat)(H:ad):O:=some ((F []),H)
def WG(G:an)(N:Nat):∀R H,aX P G N (j (j (j (j (j (bb Tryz.f155)))))) (aR Tryz.f155) [] (aR Tryz.f155) R H=t_ G N H:=by
 refine bj (aw _) λR H=> ?_
 delta t_;kernel_rfl
def A8(G:an)(N:Nat)(b:aa->aa->aa->aa->ad->O)(a x1:aa)(x7 x8:aa)(H:ad):O:=bf P .len [9] [x7] H λc=>af (ar P .lss 3 Z x8 c) λd=>aP (D d) (af (gf P 9 a x1) λf=>af (gf P 9 x7 x8) λg=>af (ar P .eql 5 Z f g) λh=>aP (D h) (af (ar P .add 3 C x8 (J X 1)) λi=>af (fX P 9 x7 (D x8) (D i) I) λj=>D (j,H)) (af (ar P .add 3 C x8 (J X 1)) λe=>b a x1 x7 e H)) (t_ G N H)
def ua(G:an)(N:Nat):Nat->aa->aa->aa->aa->ad->O
 |0,_,_,_,_,_=>I
 |n+1,a,x1,x7,x8,H=>A8 G N (ua G N n) a x1 x7 x8 H
def WB(G:an)(N:Nat)(b:aa->aa->aa->aa->ad->O):∀R H,aX P G N (aE (aE (j (aE (j (j (j (j (bb Tryz.f155))))))))) (λR H=>b (R 0) (R 1) (R 7) (R 8) H) [(2,(λR H=>t_ G N H))] (aR Tryz.f155) R H=A8 G N b (R 0) (R 1) (R 7) (R 8) H:=by
 refine bj (aw _) λR H=> ?_
 delta A8;generalize t_ G N=a;revert a;refine id ?_;intro a;kernel_rfl
def tZ(G:an)(N:Nat)(a x1:aa)(H:ad):O:=ua G N N a x1 (F [123,125,40,41,91,93,59,58,44,46,61,43,45,42,47,37,60,33]) (J X 0) H
def WE(G:an)(N:Nat):∀R H,aX P G N (j (j (j (bb Tryz.f155)))) (aR Tryz.f155) [] (aR Tryz.f155) R H=tZ G N (R 0) (R 1) H:=by
 refine bj ((aF ag ((aF ag (WG G N) ((aF ag ((bX ag ((cj (k:=λm R H=>ua G N m (R 0) (R 1) (R 7) (R 8) H) ag (λR H=>ag) (λm=>WB G N (ua G N m)))))) (aw _))))) (aw _))) λR H=> ?_
 delta tZ;generalize ua G N N=a;revert a;refine id ?_;intro a;kernel_rfl
def A9(G:an)(N:Nat)(e:aa->aa->aa->aa->ad->O)(b x1:aa)(x5 x6:aa)(H:ad):O:=bf P .len [57] [x5] H λx12=>af (ar P .lss 3 Z x6 x12) λj=>aP (D j) (bf P .len [9] [b] H λl=>af (ar P .sub 3 Z l x1) λm=>af (ar P .geq 3 C m (J X 2)) λa=>ao a C H (bw b) λn ae=>ao a C ae (bw x1) λo ah=>ao a C ah (bw x1) λp ak=>ao a C ak (aH (ar P .add 3 C p (J X 2))) λq au=>ao a C au (aH (fX P 9 n (D o) (D q) I)) λr f=>ao a C f (bw x5) λs g=>ao a C g (bw x6) λt h=>ao a C h (aH (a6 P 57 s t)) λu d=>ao a C d (qr (aj P d 9 u)) λv i=>ao a C i (aH (ar P .eql 9 Z r v)) λw c=>af (ba a (D w) (D (y Z))) λx=>aP (D x) (af (a6 P 57 x5 x6) λz=>af (aj P c 9 z) λA=>D (A,c)) (af (ar P .add 3 C x6 (J X 1)) λk=>e b x1 x5 k c)) (tZ G N b x1 H)
def ub(G:an)(N:Nat):Nat->aa->aa->aa->aa->ad->O
 |0,_,_,_,_,_=>I
 |n+1,a,x1,x5,x6,H=>A9 G N (ub G N n) a x1 x5 x6 H
def WC(G:an)(N:Nat)(b:aa->aa->aa->aa->ad->O):∀R H,aX P G N (aE (aE (j (aE (j (j (bb Tryz.f155))))))) (λR H=>b (R 0) (R 1) (R 5) (R 6) H) [(0,(λR H=>tZ G N (R 0) (R 1) H))] (aR Tryz.f155) R H=A9 G N b (R 0) (R 1) (R 5) (R 6) H:=by
 refine bj (aw _) λR H=> ?_
 delta A9;generalize tZ G N=a;revert a;refine id ?_;intro a;kernel_rfl
def xF(G:an)(N:Nat)(a x1:aa)(H:ad):O:=bx H (D (.aJ (H).next 0 5 1 (D 5),.row Z 1 [[F [60,61]],[F [61,61]],[F [33,61]],[F [38,38]],[F [124,124]]])) λb ae=>ub G N N a x1 b (J X 0) ae
def WD(G:an)(N:Nat)(b:aa)(x1:aa)(H:ad):bd Tryz.f155 G N (bO [b,x1]) H=xF G N b x1 H:=by
 refine bR (A:=bd Tryz.f155 G N) ((aF ag ((aF ag ((aF ag (WE G N) ((aF ag ((bX ag ((cj (k:=λm R H=>ub G N m (R 0) (R 1) (R 5) (R 6) H) ag (λR H=>ag) (λm=>WC G N (ub G N m)))))) (aw _))))) (aw _))) (aw _))) ?_;delta xF;generalize ub G N N=a;revert a;refine id ?_;intro a;kernel_rfl
def xJ(G:an)(H:ad):O:=bx H (D (.aJ (H).next 0 18 1 (D 18),.row Z 1 [[F [114,101,99,111,114,100]],[F [103,108,111,98,97,108]],[F [102,117,110,99]],[F [118,97,114]],[F [108,101,116]],[F [105,102]],[F [101,108,115,101]],[F [119,104,105,108,101]],[F [114,101,116,117,114,110]],[F [112,114,105,110,116]],[F [110,117,108,108]],[F [110,101,119]],[F [108,101,110]],[F [114,101,97,100]],[F [116,114,117,101]],[F [102,97,108,115,101]],[F [105,110,116]],[F [98,111,111,108]]])) λx1 ae=>D (x1,ae)
def Xp(G:an)(N:Nat)(H:ad):bd Tryz.f206 G N (bO []) H=xJ G H:=by
 refine bR (A:=bd Tryz.f206 G N) (aw _) ?_;delta xJ;kernel_rfl
