/-
  Texts of one proof, laid together: ShN.
-/
import Derived.Test.YtolnciihfbifcaaGreatME
set_option linter.unusedVariables false
set_option linter.unusedSimpArgs false
set_option linter.defProp false
open Option renaming some→D,none→Y
open Bool renaming true→V,false→U
open Go.cV.aa renaming int→I,str→X,bool→Z
open Go.IntKind renaming i64→J
namespace Go.Proofs.YtolnciihfbifcaaGreat
open Go.cV
set_option maxRecDepth 100000
noncomputable section
def m2(G:ai)(d e:aa)(H:af):O:=aK H (bl (H).next d) λj a=>ad (ah P a 27 j) λk=>aw a (G 45 [k,e] a) λc b=>ad (al P .eql 81 V c aa.fC) λf=>ay (D f) (D (aa.ao,b)) (ad (aL c) λg=>ad (ak P 84 g 4) λh=>ad (ah P b 30 h) λi=>D (i,b))
def ain(G:ai)(N:Nat)(a:aa)(b:aa)(H:af):aB Tryz.f16 G N (aO [a,b]) H=m2 G a b H:=by
 refine aT (A:=aB Tryz.f16 G N) (aj _) ?_;delta m2;kernel_rfl
def m5(G:ai)(e f:aa)(H:af):O:=aK H (bl (H).next e) λi a=>ad (ah P a 27 i) λj=>aw a (G 45 [j,f] a) λc b=>ad (al P .eql 81 V c aa.fC) λg=>ay (D g) (D (aa.ao,b)) (aw b (G 48 [c] b) λh d=>D (h,d))
def ajJ(G:ai)(N:Nat)(a:aa)(b:aa)(H:af):aB Tryz.f19 G N (aO [a,b]) H=m5 G a b H:=by
 refine aT (A:=aB Tryz.f19 G N) (aj _) ?_;delta m5;kernel_rfl
def wo(G:ai)(N:Nat)(b d:aa)(H:af):O:=ad (ah P H 69 d) λc=>aF H (aC P H 69 b c) λa=>ad (ah P a 69 b) λr=>D (r,a)
def apj(G:ai)(N:Nat):∀C H,aD P G N (ae (ae (ae (ae (ae (ae (ae (ae (aG Tryz.f37))))))))) (ax Tryz.f37) [] (ax Tryz.f37) C H=wo G N (C 2) (C 6) H:=by
 refine aI (aj _) λC H=> ?_
 delta wo;kernel_rfl
def HF(G:ai)(N:Nat)(k:aa->aa->aa->aa->aa->af->O)(h i:aa)(b j f:aa)(H:af):O:=ad (al P .lss 3 U f j) λq=>ay (D q) (aw H (G 81 [i,f] H) λr a=>ad (ak P 69 b 2) λc=>ad (ah P a 67 c) λd=>aK a (bd P (a).next 67 1 [(0,r)]) λm e=>aw e (bx P e [67,67] d m) λn g=>ad (ak P 69 b 2) λo=>aF g (aC P g 67 o n) λl=>bif ((aJ (ah P H 67 c) d&&(aJ (ah P a 67 c) d&&(aJ (ah P e 67 c) d&&V)))&&V)then(ad (al P .add 3 V f (I J 1)) λp=>k h i b j p l)else Y) (wo G N h b H)
def wq(G:ai)(N:Nat):Nat->aa->aa->aa->aa->aa->af->O
 |0,_,_,_,_,_,_=>Y
 |n+1,a,b,c,d,e,H=>HF G N (wq G N n) a b c d e H
def apb(G:ai)(N:Nat)(b:aa->aa->aa->aa->aa->af->O):∀C H,aD P G N (aq (aq (ae (aq (ae (ae (ae (ae (ae (ae (ae (aG Tryz.f37)))))))))))) (λC H=>b (C 2) (C 3) (C 6) (C 91) (C 92) H) [(6,(λC H=>wo G N (C 2) (C 6) H))] (ax Tryz.f37) C H=HF G N b (C 2) (C 3) (C 6) (C 91) (C 92) H:=by
 refine aI (aj _) λC H=> ?_
 delta HF;generalize wo G N=a;revert a;refine id ?_;intro a;kernel_rfl
def wm(G:ai)(N:Nat)(a b:aa)(c d:aa)(H:af):O:=ad (ak P 27 a 2) λe=>ad (ah P H 24 e) λf=>a1 P .len [24] [f] H λg=>wq G N N b c d g (I J 0) H
def api(G:ai)(N:Nat):∀C H,aD P G N (ae (ae (ae (ae (ae (ae (ae (aG Tryz.f37)))))))) (ax Tryz.f37) [] (ax Tryz.f37) C H=wm G N (C 1) (C 2) (C 3) (C 6) H:=by
 refine aI ((ar j (apj G N) ((ar j ((aX j ((a_ (k:=λm C H=>wq G N m (C 2) (C 3) (C 6) (C 91) (C 92) H) j (λC H=>j) (λm=>apb G N (wq G N m)))))) (aj _))))) λC H=> ?_
 delta wm;generalize wq G N N=a;revert a;refine id ?_;intro a;kernel_rfl
def HG(G:ai)(N:Nat)(K:aa->aa->aa->aa->aa->aa->aa->af->O)(j r:aa)(c g:aa)(s t d:aa)(H:af):O:=ad (al P .lss 3 U d t) λL=>ay (D L) (ad (aH P 23 s d) λM=>ad (ah P H 43 M) λQ=>ba H [I J 0,I J 0,I J 0] λn o=>aF o (aC P o 43 n Q) λa=>ad (ah P a 43 n) λv=>ad (aL c) λw=>ad (ak P 149 w 5) λl=>ad (ah P a 3 l) λx=>ad (ak P 27 j 2) λm=>ad (ah P a 24 m) λh=>bE (a6 P .empty .len [24] [h]) (a6 P a .len [24] [h]) λf=>ad (al P .add 3 U x f.val) λz=>ad (al P .add 3 U z d) λA=>aw (f.heap a) (G 80 [c,v,A] (f.heap a)) λB e=>ad (ak P 69 g 1) λk=>ad (ah P e 35 k) λu=>kW e (bd P (e).next 35 1 [(0,B)]) λC b p=>aw p (bx P p [35,35] u C) λE i=>ad (ak P 69 g 1) λF=>h7 i (aC P i 35 F E) λy q=>bif dF [0,1,0,0,0,16,48,112,0,256,768,2032,0,8176,16380,32764,65535,131071,262143] [2,3,4,5,6,7,8,9,10,11,12,13,14,15,16,17,18] [⟨2,.pure c,λH=>Y⟩,⟨3,.read v,λH=>ah P H 43 n⟩,⟨4,.pure c,λH=>Y⟩,⟨5,.pure w,λH=>Y⟩,⟨6,.pure l,λH=>Y⟩,⟨7,.read x,λH=>ah P H 3 l⟩,⟨8,.pure m,λH=>Y⟩,⟨9,.read h,λH=>ah P H 24 m⟩,⟨10,f,λH=>a6 P H .len [24] [h]⟩,⟨11,.pure z,λH=>Y⟩,⟨12,.pure d,λH=>Y⟩,⟨13,.pure A,λH=>Y⟩,⟨14,.bs B e,λH=>Y⟩,⟨0,.pure k,λH=>Y⟩,⟨1,.read u,λH=>ah P H 35 k⟩,⟨15,.new C b,λH=>Y⟩,⟨16,.bs E i,λH=>Y⟩,⟨17,.pure F,λH=>Y⟩,⟨18,.bs y q,λH=>Y⟩] a then(ad (al P .add 3 V d (I J 1)) λR=>K j r c g s t R q)else Y) (wm G N j r c g H)
def wu(G:ai)(N:Nat):Nat->aa->aa->aa->aa->aa->aa->aa->af->O
 |0,_,_,_,_,_,_,_,_=>Y
 |n+1,a,b,c,d,e,f,g,H=>HG G N (wu G N n) a b c d e f g H
def apc(G:ai)(N:Nat)(b:aa->aa->aa->aa->aa->aa->aa->af->O):∀C H,aD P G N (aq (aq (ae (aq (ae (ae (ae (ae (ae (ae (aG Tryz.f37))))))))))) (λC H=>b (C 1) (C 2) (C 3) (C 6) (C 63) (C 64) (C 65) H) [(4,(λC H=>wm G N (C 1) (C 2) (C 3) (C 6) H))] (ax Tryz.f37) C H=HG G N b (C 1) (C 2) (C 3) (C 6) (C 63) (C 64) (C 65) H:=by
 refine aI (aj _) λC H=> ?_
 delta HG;generalize wm G N=a;revert a;refine id ?_;intro a;kernel_rfl
def wk(G:ai)(N:Nat)(a c:aa)(d e:aa)(H:af):O:=ad (ak P 27 a 1) λf=>ad (ah P H 23 f) λb=>a1 P .len [23] [b] H λg=>wu G N N a c d e b g (I J 0) H
def aph(G:ai)(N:Nat):∀C H,aD P G N (ae (ae (ae (ae (ae (ae (aG Tryz.f37))))))) (ax Tryz.f37) [] (ax Tryz.f37) C H=wk G N (C 1) (C 2) (C 3) (C 6) H:=by
 refine aI ((ar j (api G N) ((ar j ((aX j ((a_ (k:=λm C H=>wu G N m (C 1) (C 2) (C 3) (C 6) (C 63) (C 64) (C 65) H) j (λC H=>j) (λm=>apc G N (wu G N m)))))) (aj _))))) λC H=> ?_
 delta wk;generalize wu G N N=a;revert a;refine id ?_;intro a;kernel_rfl
def HH(G:ai)(N:Nat)(l:aa->aa->aa->aa->aa->aa->af->O)(i j:aa)(f d:aa)(k g:aa)(H:af):O:=ad (al P .lss 3 U g k) λn=>ay (D n) (aw H (G 79 [f,g] H) λo a=>ad (ak P 69 d 0) λb=>ad (ah P a 66 b) λc=>aK a (bd P (a).next 66 1 [(0,o)]) λp e=>aw e (bx P e [66,66] c p) λq h=>ad (ak P 69 d 0) λr=>aF h (aC P h 66 r q) λm=>bif ((aJ (ah P H 66 b) c&&(aJ (ah P a 66 b) c&&(aJ (ah P e 66 b) c&&V)))&&V)then(ad (al P .add 3 V g (I J 1)) λs=>l i j f d k s m)else Y) (wk G N i j f d H)
def wv(G:ai)(N:Nat):Nat->aa->aa->aa->aa->aa->aa->af->O
 |0,_,_,_,_,_,_,_=>Y
 |n+1,a,b,c,f,d,e,H=>HH G N (wv G N n) a b c f d e H
def apd(G:ai)(N:Nat)(b:aa->aa->aa->aa->aa->aa->af->O):∀C H,aD P G N (aq (aq (ae (aq (ae (ae (ae (ae (ae (aG Tryz.f37)))))))))) (λC H=>b (C 1) (C 2) (C 3) (C 6) (C 49) (C 50) H) [(2,(λC H=>wk G N (C 1) (C 2) (C 3) (C 6) H))] (ax Tryz.f37) C H=HH G N b (C 1) (C 2) (C 3) (C 6) (C 49) (C 50) H:=by
 refine aI (aj _) λC H=> ?_
 delta HH;generalize wk G N=a;revert a;refine id ?_;intro a;kernel_rfl
def wj(G:ai)(N:Nat)(c f d:aa)(H:af):O:=ad (ak P 27 c 4) λg=>ad (ah P H 3 g) λh=>ad (bo P 69 [(3,h)]) λi=>ba H [aa.ao,aa.ao,aa.ao,I J 0] λe a=>aF a (aC P a 69 e i) λb=>ad (aL d) λj=>ad (ak P 149 j 1) λk=>ad (ak P 39 k 0) λl=>ad (ah P b 3 l) λm=>wv G N N c f d e m (I J 0) b
def apg(G:ai)(N:Nat):∀C H,aD P G N (ae (ae (ae (ae (aG Tryz.f37))))) (ax Tryz.f37) [] (ax Tryz.f37) C H=wj G N (C 1) (C 2) (C 3) H:=by
 refine aI ((ar j ((ar j (aph G N) ((ar j ((aX j ((a_ (k:=λm C H=>wv G N m (C 1) (C 2) (C 3) (C 6) (C 49) (C 50) H) j (λC H=>j) (λm=>apd G N (wv G N m)))))) (aj _))))) (aj _))) λC H=> ?_
 delta wj;generalize wv G N N=a;revert a;refine id ?_;intro a;kernel_rfl
def HJ(G:ai)(N:Nat)(t:aa->aa->aa->aa->aa->aa->af->O)(j k:aa)(b l:aa)(m e:aa)(H:af):O:=ad (al P .lss 3 U e m) λu=>ay (D u) (ad (aH P 24 l e) λv=>ad (ah P H 46 v) λw=>ba H [I J 0,aa.ao,Z U,I J 0,I J 0,I J 0,aa.ao] λs h=>aF h (aC P h 46 s w) λa=>ad (aL b) λn=>ad (ak P 149 n 5) λf=>ad (ah P a 3 f) λo=>ad (ak P 46 s 1) λg=>ad (ah P a 23 g) λd=>bE (a6 P .empty .len [23] [d]) (a6 P a .len [23] [d]) λc=>ad (al P .add 3 U o c.val) λp=>ad (aL b) λq=>ad (ak P 149 q 5) λr=>h7 (c.heap a) (aC P (c.heap a) 3 r p) λy i=>bif dF [0,1,3,7,0,16,48,127,255,511,1023] [0,1,2,3,4,5,6,7,8,9,10] [⟨0,.pure b,λH=>Y⟩,⟨1,.pure n,λH=>Y⟩,⟨2,.pure f,λH=>Y⟩,⟨3,.read o,λH=>ah P H 3 f⟩,⟨4,.pure g,λH=>Y⟩,⟨5,.read d,λH=>ah P H 23 g⟩,⟨6,c,λH=>a6 P H .len [23] [d]⟩,⟨7,.pure p,λH=>Y⟩,⟨8,.pure q,λH=>Y⟩,⟨9,.pure r,λH=>Y⟩,⟨10,.bs y i,λH=>Y⟩] a then(ad (al P .add 3 V e (I J 1)) λx=>t j k b l m x i)else Y) (wj G N j k b H)
def wy(G:ai)(N:Nat):Nat->aa->aa->aa->aa->aa->aa->af->O
 |0,_,_,_,_,_,_,_=>Y
 |n+1,a,b,f,c,d,e,H=>HJ G N (wy G N n) a b f c d e H
def ape(G:ai)(N:Nat)(b:aa->aa->aa->aa->aa->aa->af->O):∀C H,aD P G N (aq (aq (ae (aq (ae (ae (ae (aG Tryz.f37)))))))) (λC H=>b (C 1) (C 2) (C 3) (C 25) (C 26) (C 27) H) [(0,(λC H=>wj G N (C 1) (C 2) (C 3) H))] (ax Tryz.f37) C H=HJ G N b (C 1) (C 2) (C 3) (C 25) (C 26) (C 27) H:=by
 refine aI (aj _) λC H=> ?_
 delta HJ;generalize wj G N=a;revert a;refine id ?_;intro a;kernel_rfl
def pw(G:ai)(N:Nat)(n:aa)(H:af):O:=aK H (bl (H).next n) λa m=>ba m [aa.ao,aa.ao,aa.ao,I J 0] λk h=>ad (ah P h 27 a) λo=>aw h (G 75 [o] h) λp c=>ad (bu .not p) λq=>ay (D q) (aF c (aC P c 69 k (.agg [aa.ao,aa.ao,aa.ao,I J 0])) λb=>ad (ah P b 69 k) λr=>D (r,b)) (ad (ah P c 27 a) λs=>aw c (G 76 [s] c) λt b=>ad (ah P b 27 a) λj=>aw b (G 77 [j] b) λu d=>ad (ah P d 27 a) λg=>aw d (G 78 [g] d) λv f=>ad (ah P f 27 a) λe=>ad (bo P 149 [(0,e),(1,t),(2,u),(3,v)]) λw=>aK f (bl (f).next w) λx i=>bif ((aJ (ah P c 27 a) j&&(aJ (ah P b 27 a) j&&V))&&((aJ (ah P c 27 a) g&&(aJ (ah P b 27 a) g&&(aJ (ah P d 27 a) g&&V)))&&((aJ (ah P c 27 a) e&&(aJ (ah P b 27 a) e&&(aJ (ah P d 27 a) e&&(aJ (ah P f 27 a) e&&V))))&&V)))then(ad (ak P 27 a 2) λy=>ad (ah P i 24 y) λl=>a1 P .len [24] [l] i λz=>wy G N N a k x l z (I J 0) i)else Y)
def apf(G:ai)(N:Nat)(b:aa)(H:af):aB Tryz.f37 G N (aO [b]) H=pw G N b H:=by
 refine aT (A:=aB Tryz.f37 G N) ((ar j ((ar j ((ar j ((ar j (apg G N) ((ar j ((aX j ((a_ (k:=λm C H=>wy G N m (C 1) (C 2) (C 3) (C 25) (C 26) (C 27) H) j (λC H=>j) (λm=>ape G N (wy G N m)))))) (aj _))))) (aj _))) (aj _))) (aj _))) ?_;delta pw;generalize wy G N N=a;revert a;refine id ?_;intro a;kernel_rfl
def mg(G:ai)(N:Nat)(a:aa)(H:af):O:=some (a,H)
def apx(G:ai)(N:Nat):∀C H,aD P G N (ae (ae (ae (ae (ae (ae (ae (aG Tryz.f45)))))))) (ax Tryz.f45) [] (ax Tryz.f45) C H=mg G N (C 6) H:=by
 refine aI (aj _) λC H=> ?_
 delta mg;kernel_rfl
def nn(G:ai)(N:Nat)(a:aa->aa->aa->aa->aa->af->O)(f g:aa)(c d e:aa)(H:af):O:=ad (al P .add 3 V e (I J 1)) λb=>a f g c d b H
def apy(G:ai)(N:Nat)(a:aa->aa->aa->aa->aa->af->O):∀C H,aD P G N (ae (ae (ae (aq (aq (ae (aq (ae (ae (ae (ae (ae (ae (aG Tryz.f45)))))))))))))) (λC H=>a (C 6) (C 7) (C 55) (C 56) (C 57) H) [(2,(λC H=>mg G N (C 6) H))] (ax Tryz.f45) C H=nn G N a (C 6) (C 7) (C 55) (C 56) (C 57) H:=by
 refine aI (aj _) λC H=> ?_
 delta nn;kernel_rfl
def wC(G:ai)(N:Nat)(j:aa->aa->aa->aa->aa->af->O)(b r:aa)(n o:aa)(p q:aa)(H:af):O:=ad (aL b) λt=>ad (ak P 84 t 2) λu=>ad (ak P 39 u 3) λv=>ad (ah P H 30 v) λw=>aw H (G 95 [w,n] H) λx a=>ad (aL b) λy=>ad (ak P 84 y 3) λg=>ad (ah P a 35 g) λh=>aw a (G 94 [x,h] a) λz e=>ad (aL b) λs=>ad (ak P 84 s 4) λc=>ad (ah P e 30 c) λd=>aK e (bd P (e).next 30 1 [(0,z)]) λA f=>aw f (bx P f [30,30] d A) λB i=>ad (aL b) λl=>ad (ak P 84 l 4) λm=>aF i (aC P i 30 m B) λk=>bif ((aJ (ah P H 35 g) h&&(aJ (ah P a 35 g) h&&V))&&((aJ (ah P H 30 c) d&&(aJ (ah P a 30 c) d&&(aJ (ah P e 30 c) d&&(aJ (ah P f 30 c) d&&V))))&&V))then(nn G N j b r o p q k)else Y
def apz(G:ai)(N:Nat)(a:aa->aa->aa->aa->aa->af->O):∀C H,aD P G N (ae (ae (ae (aq (aq (ae (ae (aq (aq (ae (aq (ae (ae (ae (ae (ae (ae (aG Tryz.f45)))))))))))))))))) (λC H=>nn G N a (C 6) (C 7) (C 55) (C 56) (C 57) H) [(3,(λC H=>nn G N a (C 6) (C 7) (C 55) (C 56) (C 57) H)),(2,(λC H=>mg G N (C 6) H))] (ax Tryz.f45) C H=wC G N a (C 6) (C 7) (C 12) (C 55) (C 56) (C 57) H:=by
 refine aI (aj _) λC H=> ?_
 delta wC;generalize nn G N a=b;revert b;refine id ?_;intro b;kernel_rfl
def HM(G:ai)(N:Nat)(k:aa->aa->aa->aa->aa->af->O)(l:aa->aa->aa->aa->aa->aa->aa->aa->aa->af->O)(a c:aa)(e f:aa)(g h:aa)(i j b:aa)(H:af):O:=ad (al P .lss 3 U b j) λn=>ay (D n) (ad (aH P 35 i b) λo=>ad (ah P H 3 o) λp=>ad (aL a) λq=>ad (ak P 84 q 2) λr=>ad (ak P 39 r 2) λs=>ad (ah P H 35 s) λt=>ad (al P .add 3 U c p) λu=>ad (aH P 35 t u) λv=>ad (ah P H 3 v) λw=>aK H (bd P (H).next 35 1 [(0,w)]) λx d=>aw d (bx P d [35,35] e x) λy m=>ad (al P .add 3 V b (I J 1)) λz=>l a c y f g h i j z m) (wC G N k a c e f g h H)
def wE(G:ai)(N:Nat)(a:aa->aa->aa->aa->aa->af->O):Nat->aa->aa->aa->aa->aa->aa->aa->aa->aa->af->O
 |0,_,_,_,_,_,_,_,_,_,_=>Y
 |n+1,f,j,b,c,d,e,g,h,i,H=>HM G N a (wE G N a n) f j b c d e g h i H
def apt(G:ai)(N:Nat)(a:aa->aa->aa->aa->aa->af->O)(c:aa->aa->aa->aa->aa->aa->aa->aa->aa->af->O):∀C H,aD P G N (aq (aq (ae (aq (ae (ae (aq (aq (ae (ae (aq (aq (ae (aq (ae (ae (ae (ae (ae (ae (aG Tryz.f45))))))))))))))))))))) (λC H=>c (C 6) (C 7) (C 12) (C 55) (C 56) (C 57) (C 61) (C 62) (C 63) H) [(4,(λC H=>wC G N a (C 6) (C 7) (C 12) (C 55) (C 56) (C 57) H)),(3,(λC H=>nn G N a (C 6) (C 7) (C 55) (C 56) (C 57) H)),(2,(λC H=>mg G N (C 6) H))] (ax Tryz.f45) C H=HM G N a c (C 6) (C 7) (C 12) (C 55) (C 56) (C 57) (C 61) (C 62) (C 63) H:=by
 refine aI (aj _) λC H=> ?_
 delta HM;generalize wC G N a=b;revert b;refine id ?_;intro b;kernel_rfl
def HL(G:ai)(N:Nat)(f:aa->aa->aa->aa->aa->af->O)(d j:aa)(b c a:aa)(H:af):O:=ad (al P .lss 3 U a c) λg=>ay (D g) (ad (aH P 30 b a) λh=>ad (ah P H 35 h) λe=>a1 P .len [35] [e] H λi=>wE G N f N d j aa.ao b c a e i (I J 0) H) (mg G N d H)
def wD(G:ai)(N:Nat):Nat->aa->aa->aa->aa->aa->af->O
 |0,_,_,_,_,_,_=>Y
 |n+1,d,e,a,b,c,H=>HL G N (wD G N n) d e a b c H
def aps(G:ai)(N:Nat)(a:aa->aa->aa->aa->aa->af->O):∀C H,aD P G N (aq (aq (ae (aq (ae (ae (ae (ae (ae (ae (aG Tryz.f45))))))))))) (λC H=>a (C 6) (C 7) (C 55) (C 56) (C 57) H) [(2,(λC H=>mg G N (C 6) H))] (ax Tryz.f45) C H=HL G N a (C 6) (C 7) (C 55) (C 56) (C 57) H:=by
 refine aI ((ar j ((ar j ((ar j (apy G N a) ((aX j ((ar j ((ar j ((ar j (apz G N a) ((ar j ((aX j ((a_ (k:=λm C H=>wE G N a m (C 6) (C 7) (C 12) (C 55) (C 56) (C 57) (C 61) (C 62) (C 63) H) j (λC H=>j) (λm=>apt G N a (wE G N a m)))))) (aj _))))) (aj _))) (aj _))))))) (aj _))) (aj _))) λC H=> ?_
 delta HL;generalize mg G N=b;generalize wE G N a N=c;revert b c;refine id ?_;intro b c;kernel_rfl
def wB(G:ai)(N:Nat)(c d:aa)(j k:aa)(H:af):O:=ad (ak P 27 d 2) λe=>ad (ah P H 24 e) λf=>ad (aH P 24 f c) λg=>ad (ah P H 46 g) λh=>aw H (G 93 [h] H) λb a=>a1 P .len [30] [b] a λi=>wD G N N j k b i (I J 0) a
def apw(G:ai)(N:Nat):∀C H,aD P G N (ae (ae (ae (ae (ae (ae (aG Tryz.f45))))))) (ax Tryz.f45) [] (ax Tryz.f45) C H=wB G N (C 1) (C 2) (C 6) (C 7) H:=by
 refine aI ((ar j (apx G N) ((ar j ((aX j ((a_ (k:=λm C H=>wD G N m (C 6) (C 7) (C 55) (C 56) (C 57) H) j (λC H=>j) (λm=>aps G N (wD G N m)))))) (aj _))))) λC H=> ?_
 delta wB;generalize wD G N N=a;revert a;refine id ?_;intro a;kernel_rfl
def HN(G:ai)(N:Nat)(k:aa->aa->aa->aa->aa->aa->aa->af->O)(d e:aa)(h i:aa)(f g b:aa)(H:af):O:=ad (al P .lss 3 U b g) λl=>ay (D l) (ad (aH P 24 f b) λm=>ad (ah P H 46 m) λn=>ba H [I J 0,aa.ao,Z U,I J 0,I J 0,I J 0,aa.ao] λj c=>aF c (aC P c 46 j n) λa=>ad (ak P 46 j 1) λo=>ad (ah P a 23 o) λp=>a1 P .len [23] [p] a λq=>ad (al P .add 3 U i q) λr=>ad (al P .add 3 V b (I J 1)) λs=>k d e h r f g s a) (wB G N d e h i H)
def wF(G:ai)(N:Nat):Nat->aa->aa->aa->aa->aa->aa->aa->af->O
 |0,_,_,_,_,_,_,_,_=>Y
 |n+1,a,b,f,g,c,d,e,H=>HN G N (wF G N n) a b f g c d e H
def apu(G:ai)(N:Nat)(b:aa->aa->aa->aa->aa->aa->aa->af->O):∀C H,aD P G N (aq (aq (ae (aq (ae (ae (ae (ae (ae (aG Tryz.f45)))))))))) (λC H=>b (C 1) (C 2) (C 6) (C 7) (C 38) (C 39) (C 40) H) [(0,(λC H=>wB G N (C 1) (C 2) (C 6) (C 7) H))] (ax Tryz.f45) C H=HN G N b (C 1) (C 2) (C 6) (C 7) (C 38) (C 39) (C 40) H:=by
 refine aI (aj _) λC H=> ?_
 delta HN;generalize wB G N=a;revert a;refine id ?_;intro a;kernel_rfl
def nm(G:ai)(N:Nat)(s d:aa)(H:af):O:=aK H (bl (H).next s) λa f=>ad (ah P f 27 a) λt=>aw f (G 78 [t] f) λl o=>ad (al P .lss 3 V d (I J 0)) λe=>au e U o (aV d) λu p=>au e U p (aV l) λm k=>au e U k (λq=>bE (a6 P .empty .len [30] [m]) (a6 P k .len [30] [m]) q) λv r=>au e U r (aE (al P .geq 3 U u v)) λw b=>ad (aU e (D (Z V)) (D w)) λx=>ay (D x) (D (aa.fC,b)) (ad (ah P b 27 a) λy=>aw b (G 76 [y] b) λz c=>ad (ah P c 27 a) λh=>ad (aH P 30 l d) λi=>ad (ah P c 35 i) λj=>ad (bo P 84 [(0,h),(1,d),(2,z),(3,j)]) λA=>aK c (bl (c).next A) λB g=>bif ((aJ (ah P b 27 a) h&&(aJ (ah P c 27 a) h&&V))&&((aJ (ah P b 35 i) j&&(aJ (ah P c 35 i) j&&V))&&V))then(ad (ak P 27 a 2) λC=>ad (ah P g 24 C) λE=>ad (fK P 24 E Y (D d) Y) λn=>a1 P .len [24] [n] g λF=>wF G N N d a B (I J 0) n F (I J 0) g)else Y)
def apv(G:ai)(N:Nat)(b:aa)(c:aa)(H:af):aB Tryz.f45 G N (aO [b,c]) H=nm G N b c H:=by
 refine aT (A:=aB Tryz.f45 G N) ((ar j ((ar j ((ar j ((ar j ((ar j ((ar j (apw G N) ((ar j ((aX j ((a_ (k:=λm C H=>wF G N m (C 1) (C 2) (C 6) (C 7) (C 38) (C 39) (C 40) H) j (λC H=>j) (λm=>apu G N (wF G N m)))))) (aj _))))) (aj _))) (aj _))) (aj _))) (aj _))) (aj _))) ?_;delta nm;generalize wF G N N=a;revert a;refine id ?_;intro a;kernel_rfl
def px(G:ai)(N:Nat)(a:aa)(H:af):O:=some (a,H)
def apC(G:ai)(N:Nat):∀C H,aD P G N (ae (ae (ae (ae (aG Tryz.f48))))) (ax Tryz.f48) [] (ax Tryz.f48) C H=px G N (C 3) H:=by
 refine aI (aj _) λC H=> ?_
 delta px;kernel_rfl
def wG(G:ai)(N:Nat)(a:aa->aa->aa->aa->aa->aa->af->O)(b f:aa)(g c:aa)(d e:aa)(H:af):O:=ad (al P .add 3 V e (I J 1)) λh=>a b f g c d h H
def apD(G:ai)(N:Nat)(a:aa->aa->aa->aa->aa->aa->af->O):∀C H,aD P G N (ae (ae (ae (aq (aq (ae (aq (ae (ae (ae (aG Tryz.f48))))))))))) (λC H=>a (C 0) (C 3) (C 4) (C 25) (C 26) (C 27) H) [(0,(λC H=>px G N (C 3) H))] (ax Tryz.f48) C H=wG G N a (C 0) (C 3) (C 4) (C 25) (C 26) (C 27) H:=by
 refine aI (aj _) λC H=> ?_
 delta wG;kernel_rfl
def HO(G:ai)(N:Nat)(u:aa->aa->aa->aa->aa->aa->af->O)(e g:aa)(p n:aa)(o c:aa)(H:af):O:=ad (al P .lss 3 U c o) λF=>ay (D F) (ad (aH P 44 n c) λK=>ad (ah P H 75 K) λL=>ba H [I J 0,I J 0,I J 0,I J 0,I J 0,aa.ao] λf v=>aF v (aC P v 75 f L) λx=>ad (ak P 75 f 0) λM=>ad (ah P x 3 M) λQ=>ad (al P .neq 3 V Q (I J 16)) λh=>au h V x (aE (ak P 75 f 0)) λR y=>au h V y (qr (ah P y 3 R)) λS B=>au h V B (aE (al P .neq 3 V S (I J 17))) λT C=>ad (aU h (D T) (D (Z U))) λi=>au i V C (aE (ak P 75 f 0)) λW z=>au i V z (qr (ah P z 3 W)) λab E=>au i V E (aE (al P .neq 3 V ab (I J 18))) λae a=>ad (aU i (D ae) (D (Z U))) λaj=>ay (D aj) (ad (ah P a 75 f) λap=>aw a (G 101 [e,ap,p] a) λaq b=>ad (aL e) λam=>ad (ak P 84 am 4) λq=>ad (ah P b 30 q) λr=>ad (al P .add 3 V c (I J 1)) λan=>ad (aH P 30 r an) λs=>ad (ah P b 35 s) λt=>aw b (G 51 [t,aq] b) λar d=>ad (aL e) λav=>ad (ak P 84 av 4) λj=>ad (ah P d 30 j) λk=>ad (aH P 30 k c) λl=>ad (ah P d 35 l) λm=>aw d (G 50 [ar,m] d) λax w=>ad (aH P 30 g c) λaz=>aF w (aC P w 35 az ax) λA=>bif ((aJ (ah P a 30 q) r&&(aJ (ah P b 30 q) r&&V))&&((aJ (ah P a 35 s) t&&(aJ (ah P b 35 s) t&&V))&&((aJ (ah P a 30 j) k&&(aJ (ah P b 30 j) k&&(aJ (ah P d 30 j) k&&V)))&&((aJ (ah P a 35 l) m&&(aJ (ah P b 35 l) m&&(aJ (ah P d 35 l) m&&V)))&&V))))then(wG G N u e g p n o c A)else Y) (wG G N u e g p n o c a)) (px G N g H)
def wH(G:ai)(N:Nat):Nat->aa->aa->aa->aa->aa->aa->af->O
 |0,_,_,_,_,_,_,_=>Y
 |n+1,a,e,f,b,c,d,H=>HO G N (wH G N n) a e f b c d H
def apA(G:ai)(N:Nat)(a:aa->aa->aa->aa->aa->aa->af->O):∀C H,aD P G N (aq (aq (ae (aq (ae (ae (ae (aG Tryz.f48)))))))) (λC H=>a (C 0) (C 3) (C 4) (C 25) (C 26) (C 27) H) [(0,(λC H=>px G N (C 3) H))] (ax Tryz.f48) C H=HO G N a (C 0) (C 3) (C 4) (C 25) (C 26) (C 27) H:=by
 refine aI ((ar j ((ar j ((ar j (apD G N a) (aj _))) (aj _))) (aj _))) λC H=> ?_
 delta HO;generalize px G N=b;generalize wG G N a=c;revert b c;refine id ?_;intro b c;kernel_rfl
def mh(G:ai)(N:Nat)(b:aa)(H:af):O:=ad (aL b) λs=>ad (ak P 84 s 4) λt=>ad (ah P H 30 t) λf=>a1 P .len [30] [f] H λd=>aK H (fP (gu P ⟨.leaf,(H).next⟩ 30 d d) (H).next) λg c=>aK c (D (.map (c).next,.map [])) λh a=>ad (aL b) λi=>ad (ak P 84 i 0) λj=>ad (ak P 27 j 2) λk=>ad (ah P a 24 k) λl=>ad (aL b) λm=>ad (ak P 84 m 1) λn=>ad (ah P a 3 n) λo=>ad (aH P 24 l o) λp=>ad (ak P 46 p 4) λq=>ad (ah P a 44 q) λe=>a1 P .len [44] [e] a λr=>wH G N N b g h e r (I J 0) a
def apB(G:ai)(N:Nat)(b:aa)(H:af):aB Tryz.f48 G N (aO [b]) H=mh G N b H:=by
 refine aT (A:=aB Tryz.f48 G N) ((ar j ((ar j ((ar j ((ar j (apC G N) ((ar j ((aX j ((a_ (k:=λm C H=>wH G N m (C 0) (C 3) (C 4) (C 25) (C 26) (C 27) H) j (λC H=>j) (λm=>apA G N (wH G N m)))))) (aj _))))) (aj _))) (aj _))) (aj _))) ?_;delta mh;generalize wH G N N=a;revert a;refine id ?_;intro a;kernel_rfl
def mi(G:ai)(d e:aa)(H:af):O:=aK H (bl (H).next e) λf a=>aw a (G 104 [d] a) λg b=>aw b (G 103 [g,(.func (.func 105) [] [f])] b) λh c=>D (h,c)
def apE(G:ai)(N:Nat)(a:aa)(b:aa)(H:af):aB Tryz.f50 G N (aO [a,b]) H=mi G a b H:=by
 refine aT (A:=aB Tryz.f50 G N) (aj _) ?_;delta mi;kernel_rfl
def mj(G:ai)(f g:aa)(H:af):O:=aK H (bd P (H).next 30 2 [(0,f),(1,g)]) λj a=>aw a (G 110 [j] a) λk b=>aw b (G 109 [k] b) λl c=>aw c (G 108 [l] c) λh d=>aw d (G 107 [h] d) λi e=>D (i,e)
def apF(G:ai)(N:Nat)(a:aa)(b:aa)(H:af):aB Tryz.f51 G N (aO [a,b]) H=mj G a b H:=by
 refine aT (A:=aB Tryz.f51 G N) (aj _) ?_;delta mj;kernel_rfl
def ns(G:ai)(N:Nat)(b c:aa)(H:af):O:=ad (ah P H 146 c) λd=>aF H (aC P H 146 b d) λa=>ad (ah P a 146 b) λr=>D (r,a)
def aqw(G:ai)(N:Nat):∀C H,aD P G N (ae (ae (ae (ae (aG Tryz.f79))))) (ax Tryz.f79) [] (ax Tryz.f79) C H=ns G N (C 4) (C 6) H:=by
 refine aI (aj _) λC H=> ?_
 delta ns;kernel_rfl
def pN(G:ai)(N:Nat)(a:aa->aa->aa->aa->aa->aa->aa->af->O)(b c:aa)(g h:aa)(d e f:aa)(H:af):O:=ad (al P .add 3 V f (I J 1)) λi=>a b c g h d e i H
def aqx(G:ai)(N:Nat)(a:aa->aa->aa->aa->aa->aa->aa->af->O):∀C H,aD P G N (ae (ae (ae (aq (aq (ae (aq (ae (ae (ae (aG Tryz.f79))))))))))) (λC H=>a (C 0) (C 1) (C 4) (C 6) (C 34) (C 35) (C 36) H) [(0,(λC H=>ns G N (C 4) (C 6) H))] (ax Tryz.f79) C H=pN G N a (C 0) (C 1) (C 4) (C 6) (C 34) (C 35) (C 36) H:=by
 refine aI (aj _) λC H=> ?_
 delta pN;kernel_rfl
def w9(G:ai)(N:Nat)(d:aa->aa->aa->aa->aa->aa->aa->af->O)(f g:aa)(k a:aa)(q h:aa)(i j:aa)(H:af):O:=ad (ak P 146 a 1) λl=>ad (ah P H 35 l) λm=>aK H (bd P (H).next 35 1 [(0,q)]) λn b=>aw b (bx P b [35,35] m n) λo c=>ad (ak P 146 a 1) λp=>aF c (aC P c 35 p o) λe=>pN G N d f g k a h i j e
def aqy(G:ai)(N:Nat)(a:aa->aa->aa->aa->aa->aa->aa->af->O):∀C H,aD P G N (ae (ae (ae (aq (aq (ae (ae (aq (aq (ae (aq (ae (ae (ae (aG Tryz.f79))))))))))))))) (λC H=>pN G N a (C 0) (C 1) (C 4) (C 6) (C 34) (C 35) (C 36) H) [(1,(λC H=>pN G N a (C 0) (C 1) (C 4) (C 6) (C 34) (C 35) (C 36) H)),(0,(λC H=>ns G N (C 4) (C 6) H))] (ax Tryz.f79) C H=w9 G N a (C 0) (C 1) (C 4) (C 6) (C 9) (C 34) (C 35) (C 36) H:=by
 refine aI (aj _) λC H=> ?_
 delta w9;generalize pN G N a=b;revert b;refine id ?_;intro b;kernel_rfl
def H4(G:ai)(N:Nat)(j:aa->aa->aa->aa->aa->aa->aa->af->O)(d e:aa)(h i:aa)(f g b:aa)(H:af):O:=ad (al P .lss 3 U b g) λm=>ay (D m) (ad (aH P 23 f b) λn=>ad (ah P H 43 n) λo=>ba H [I J 0,I J 0,I J 0] λl k=>aF k (aC P k 43 l o) λc=>ad (ah P c 43 l) λp=>aw c (G 141 [p] c) λq a=>ay (D q) (ad (aL d) λr=>ad (ak P 149 r 1) λs=>ad (ak P 39 s 3) λt=>ad (ah P a 30 t) λu=>ad (aH P 30 u e) λv=>ad (ah P a 35 v) λw=>ad (aH P 35 w b) λx=>ad (ah P a 3 x) λy=>w9 G N j d e h i y f g b a) (w9 G N j d e h i (I J (-2)) f g b a)) (ns G N h i H)
def w_(G:ai)(N:Nat):Nat->aa->aa->aa->aa->aa->aa->aa->af->O
 |0,_,_,_,_,_,_,_,_=>Y
 |n+1,a,b,f,g,c,d,e,H=>H4 G N (w_ G N n) a b f g c d e H
def aqu(G:ai)(N:Nat)(a:aa->aa->aa->aa->aa->aa->aa->af->O):∀C H,aD P G N (aq (aq (ae (aq (ae (ae (ae (aG Tryz.f79)))))))) (λC H=>a (C 0) (C 1) (C 4) (C 6) (C 34) (C 35) (C 36) H) [(0,(λC H=>ns G N (C 4) (C 6) H))] (ax Tryz.f79) C H=H4 G N a (C 0) (C 1) (C 4) (C 6) (C 34) (C 35) (C 36) H:=by
 refine aI ((ar j ((ar j ((ar j (aqx G N a) ((aX j ((ar j ((ar j ((ar j (aqy G N a) (aj _))) (aj _))) (aj _))))))) (aj _))) (aj _))) λC H=> ?_
 delta H4;generalize ns G N=b;generalize w9 G N a=c;revert b c;refine id ?_;intro b c;kernel_rfl
def pM(G:ai)(N:Nat)(a g:aa)(H:af):O:=ba H [Z U,aa.ao] λC b=>ad (aL a) λk=>ad (ak P 149 k 1) λl=>ad (ak P 39 l 1) λm=>ad (ah P b 35 m) λn=>aw b (G 139 [n,g] b) λh c=>ad (aL a) λo=>ad (ak P 149 o 0) λp=>ad (ak P 27 p 3) λq=>ad (ah P c 25 q) λr=>ad (aH P 25 r h) λs=>ad (ak P 161 s 1) λt=>ad (ak P 43 t 2) λu=>ad (ah P c 3 u) λv=>ad (al P .gtr 3 V v (I J 0)) λw=>ad (bo P 146 [(0,w)]) λx=>ba c [Z U,aa.ao] λj e=>aF e (aC P e 146 j x) λd=>ad (aL a) λy=>ad (ak P 149 y 0) λz=>ad (ah P d 27 z) λA=>aw d (G 140 [A,h] d) λi f=>a1 P .len [23] [i] f λB=>w_ G N N a g C j i B (I J 0) f
def aqv(G:ai)(N:Nat)(b:aa)(c:aa)(H:af):aB Tryz.f79 G N (aO [b,c]) H=pM G N b c H:=by
 refine aT (A:=aB Tryz.f79 G N) ((ar j ((ar j ((ar j ((ar j (aqw G N) ((ar j ((aX j ((a_ (k:=λm C H=>w_ G N m (C 0) (C 1) (C 4) (C 6) (C 34) (C 35) (C 36) H) j (λC H=>j) (λm=>aqu G N (w_ G N m)))))) (aj _))))) (aj _))) (aj _))) (aj _))) ?_;delta pM;generalize w_ G N N=a;revert a;refine id ?_;intro a;kernel_rfl
def pO(G:ai)(c d k:aa)(H:af):O:=aK H (bl (H).next d) λl b=>ad (ah P b 43 l) λm=>aw b (G 141 [m] b) λn a=>ad (bu .not n) λo=>ay (D o) (D ((I J (-2)),a)) (ad (aL c) λe=>ad (ak P 149 e 1) λf=>ad (ak P 39 f 2) λg=>ad (ah P a 35 g) λh=>ad (aH P 35 h k) λi=>ad (ah P a 3 i) λj=>D (j,a))
def aqz(G:ai)(N:Nat)(a:aa)(b:aa)(c:aa)(H:af):aB Tryz.f80 G N (aO [a,b,c]) H=pO G a b c H:=by
 refine aT (A:=aB Tryz.f80 G N) (aj _) ?_;delta pO;kernel_rfl
def xc(G:ai)(N:Nat)(h n:aa)(o c p:aa)(H:af):O:=ad (aL h) λx=>ad (ak P 149 x 0) λy=>ad (ah P H 27 y) λz=>aw H (G 16 [z,n] H) λA a=>ad (aL h) λB=>ad (ak P 149 B 0) λi=>ad (ah P a 27 i) λj=>aw a (G 19 [j,n] a) λC b=>ad (ah P b 46 c) λd=>ad (aL h) λv=>ad (ak P 149 v 1) λw=>ad (ak P 39 w 1) λe=>ad (ah P b 35 e) λf=>ad (bo P 220 [(0,d),(1,f),(2,A),(3,C)]) λE=>aK b (bl (b).next E) λq k=>bif ((aJ (ah P H 27 i) j&&(aJ (ah P a 27 i) j&&V))&&((aJ (ah P H 46 c) d&&(aJ (ah P a 46 c) d&&(aJ (ah P b 46 c) d&&V)))&&((aJ (ah P H 35 e) f&&(aJ (ah P a 35 e) f&&(aJ (ah P b 35 e) f&&V)))&&V)))then(aw k (G 142 [q] k) λs l=>ad (ak P 72 p 5) λt=>aF l (aC P l 44 t s) λg=>ad (ah P g 72 p) λu=>aF g (aC P g 72 o u) λm=>ad (ah P m 72 o) λr=>D (r,m))else Y
def aqD(G:ai)(N:Nat):∀C H,aD P G N (ae (ae (ae (ae (ae (ae (aG Tryz.f81))))))) (ax Tryz.f81) [] (ax Tryz.f81) C H=xc G N (C 0) (C 1) (C 4) (C 5) (C 6) H:=by
 refine aI (aj _) λC H=> ?_
 delta xc;kernel_rfl
def xb(G:ai)(N:Nat)(b f:aa)(k c g:aa)(H:af):O:=ad (aL b) λl=>ad (ak P 149 l 4) λh=>ad (ah P H 3 h) λm=>ad (ak P 46 c 1) λi=>ad (ah P H 23 i) λe=>bE (a6 P .empty .len [23] [e]) (a6 P H .len [23] [e]) λd=>ad (al P .add 3 U m d.val) λn=>ad (aL b) λo=>ad (ak P 149 o 4) λp=>h7 (d.heap H) (aC P (d.heap H) 3 p n) λy a=>bif dF [0,1,3,7,0,16,48,127,255,511,1023] [0,1,2,3,4,5,6,7,8,9,10] [⟨0,.pure b,λH=>Y⟩,⟨1,.pure l,λH=>Y⟩,⟨2,.pure h,λH=>Y⟩,⟨3,.read m,λH=>ah P H 3 h⟩,⟨4,.pure i,λH=>Y⟩,⟨5,.read e,λH=>ah P H 23 i⟩,⟨6,d,λH=>a6 P H .len [23] [e]⟩,⟨7,.pure n,λH=>Y⟩,⟨8,.pure o,λH=>Y⟩,⟨9,.pure p,λH=>Y⟩,⟨10,.bs y a,λH=>Y⟩] H then(ad (ak P 46 c 2) λr=>ad (ah P a 4 r) λs=>ay (D s) (ad (ak P 46 c 3) λt=>ad (ah P a 43 t) λu=>ad (aL b) λv=>ad (ak P 149 v 5) λw=>ad (ah P a 3 w) λx=>ad (al P .add 3 U x f) λz=>aw a (G 80 [b,u,z] a) λA j=>ad (ak P 72 g 2) λB=>aF j (aC P j 3 B A) λq=>xc G N b f k c g q) (xc G N b f k c g a))else Y
def aqC(G:ai)(N:Nat):∀C H,aD P G N (ae (ae (ae (ae (aG Tryz.f81))))) (ax Tryz.f81) [] (ax Tryz.f81) C H=xb G N (C 0) (C 1) (C 4) (C 5) (C 6) H:=by
 refine aI ((ar j ((ar j (aqD G N) (aj _))) (aj _))) λC H=> ?_
 delta xb;generalize xc G N=a;revert a;refine id ?_;intro a;kernel_rfl
def H5(G:ai)(N:Nat)(q:aa->aa->aa->aa->aa->aa->aa->aa->af->O)(c k:aa)(n o:aa)(g l:aa)(m d:aa)(H:af):O:=ad (al P .lss 3 U d m) λs=>ay (D s) (ad (aH P 23 l d) λt=>ad (ah P H 43 t) λu=>ba H [I J 0,I J 0,I J 0] λp i=>aF i (aC P i 43 p u) λa=>ad (ah P a 43 p) λv=>ad (aL c) λw=>ad (ak P 149 w 4) λx=>ad (ah P a 3 x) λy=>ad (al P .add 3 U y d) λz=>aw a (G 80 [c,v,z] a) λA b=>ad (ak P 72 g 1) λe=>ad (ah P b 35 e) λf=>aK b (bd P (b).next 35 1 [(0,A)]) λB h=>aw h (bx P h [35,35] f B) λC j=>ad (ak P 72 g 1) λE=>aF j (aC P j 35 E C) λr=>bif ((aJ (ah P a 35 e) f&&(aJ (ah P b 35 e) f&&(aJ (ah P h 35 e) f&&V)))&&V)then(ad (al P .add 3 V d (I J 1)) λF=>q c k n o g l m F r)else Y) (xb G N c k n o g H)
def xd(G:ai)(N:Nat):Nat->aa->aa->aa->aa->aa->aa->aa->aa->af->O
 |0,_,_,_,_,_,_,_,_,_=>Y
 |n+1,a,b,f,g,h,c,d,e,H=>H5 G N (xd G N n) a b f g h c d e H
def aqA(G:ai)(N:Nat)(b:aa->aa->aa->aa->aa->aa->aa->aa->af->O):∀C H,aD P G N (aq (aq (ae (aq (ae (ae (ae (aG Tryz.f81)))))))) (λC H=>b (C 0) (C 1) (C 4) (C 5) (C 6) (C 36) (C 37) (C 38) H) [(0,(λC H=>xb G N (C 0) (C 1) (C 4) (C 5) (C 6) H))] (ax Tryz.f81) C H=H5 G N b (C 0) (C 1) (C 4) (C 5) (C 6) (C 36) (C 37) (C 38) H:=by
 refine aI (aj _) λC H=> ?_
 delta H5;generalize xb G N=a;revert a;refine id ?_;intro a;kernel_rfl
def xa(G:ai)(N:Nat)(c d:aa)(H:af):O:=ba H [I J 0,aa.ao,I J 0,aa.ao,aa.ao,aa.ao] λK f=>ad (aL c) λu=>ad (ak P 149 u 0) λv=>ad (ak P 27 v 2) λw=>ad (ah P f 24 w) λx=>ad (aH P 24 x d) λy=>ad (ah P f 46 y) λz=>ba f [I J 0,aa.ao,Z U,I J 0,I J 0,I J 0,aa.ao] λe r=>aF r (aC P r 46 e z) λa=>ad (ak P 46 e 0) λh=>ad (ah P a 3 h) λi=>ad (aL c) λA=>ad (ak P 149 A 2) λj=>ad (ah P a 30 j) λk=>ad (aH P 30 k d) λl=>ad (ah P a 35 l) λm=>ad (aL c) λB=>ad (ak P 149 B 3) λn=>ad (ah P a 30 n) λo=>ad (aH P 30 o d) λp=>ad (ah P a 35 p) λq=>ad (bo P 72 [(0,i),(2,(I J (-3))),(3,m),(4,q)]) λC=>ba a [I J 0,aa.ao,I J 0,aa.ao,aa.ao,aa.ao] λt b=>aF b (aC P b 72 t C) λg=>bif ((aJ (ah P a 3 h) i&&(aJ (ah P b 3 h) i&&V))&&((aJ (ah P a 30 j) k&&(aJ (ah P b 30 j) k&&V))&&((aJ (ah P a 35 l) m&&(aJ (ah P b 35 l) m&&V))&&((aJ (ah P a 30 n) o&&(aJ (ah P b 30 n) o&&V))&&((aJ (ah P a 35 p) q&&(aJ (ah P b 35 p) q&&V))&&V)))))then(ad (ak P 46 e 1) λE=>ad (ah P g 23 E) λs=>a1 P .len [23] [s] g λF=>xd G N N c d K e t s F (I J 0) g)else Y
def aqB(G:ai)(N:Nat)(b:aa)(c:aa)(H:af):aB Tryz.f81 G N (aO [b,c]) H=xa G N b c H:=by
 refine aT (A:=aB Tryz.f81 G N) ((ar j ((ar j ((ar j ((ar j (aqC G N) ((ar j ((aX j ((a_ (k:=λm C H=>xd G N m (C 0) (C 1) (C 4) (C 5) (C 6) (C 36) (C 37) (C 38) H) j (λC H=>j) (λm=>aqA G N (xd G N m)))))) (aj _))))) (aj _))) (aj _))) (aj _))) ?_;delta xa;generalize xd G N N=a;revert a;refine id ?_;intro a;kernel_rfl
def xh(G:ai)(N:Nat)(a:aa)(H:af):O:=some (a,H)
def aqN(G:ai)(N:Nat):∀C H,aD P G N (ae (ae (ae (ae (ae (aG Tryz.f93)))))) (ax Tryz.f93) [] (ax Tryz.f93) C H=xh G N (C 7) H:=by
 refine aI (aj _) λC H=> ?_
 delta xh;kernel_rfl
def H7(G:ai)(N:Nat)(f:aa->aa->aa->aa->af->O)(d b:aa)(e a:aa)(H:af):O:=ad (al P .lss 3 U a e) λh=>ay (D h) (ad (aH P 230 d a) λi=>aw H (G 156 [i] H) λj c=>ad (aH P 30 b a) λk=>aF c (aC P c 35 k j) λg=>ad (al P .add 3 V a (I J 1)) λl=>f d b e l g) (xh G N b H)
def xj(G:ai)(N:Nat):Nat->aa->aa->aa->aa->af->O
 |0,_,_,_,_,_=>Y
 |n+1,a,d,b,c,H=>H7 G N (xj G N n) a d b c H
def aqI(G:ai)(N:Nat)(b:aa->aa->aa->aa->af->O):∀C H,aD P G N (aq (aq (ae (aq (ae (ae (ae (ae (aG Tryz.f93))))))))) (λC H=>b (C 3) (C 7) (C 41) (C 42) H) [(4,(λC H=>xh G N (C 7) H))] (ax Tryz.f93) C H=H7 G N b (C 3) (C 7) (C 41) (C 42) H:=by
 refine aI (aj _) λC H=> ?_
 delta H7;generalize xh G N=a;revert a;refine id ?_;intro a;kernel_rfl
def nt(G:ai)(N:Nat)(d b:aa)(H:af):O:=ad (ak P 46 d 4) λe=>ad (ah P H 44 e) λf=>a1 P .len [44] [f] H λc=>aK H (fP (gu P ⟨.leaf,(H).next⟩ 30 c c) (H).next) λg a=>a1 P .len [230] [b] a λh=>xj G N N b g h (I J 0) a
def aqM(G:ai)(N:Nat):∀C H,aD P G N (ae (ae (ae (aG Tryz.f93)))) (ax Tryz.f93) [] (ax Tryz.f93) C H=nt G N (C 1) (C 3) H:=by
 refine aI ((ar j ((ar j (aqN G N) ((ar j ((aX j ((a_ (k:=λm C H=>xj G N m (C 3) (C 7) (C 41) (C 42) H) j (λC H=>j) (λm=>aqI G N (xj G N m)))))) (aj _))))) (aj _))) λC H=> ?_
 delta nt;generalize xj G N N=a;revert a;refine id ?_;intro a;kernel_rfl
def xi(G:ai)(N:Nat)(g:aa->aa->aa->af->O)(a:aa->aa->aa->aa->af->O)(b d:aa)(e f:aa)(H:af):O:=ad (al P .sub 3 V f (I J 1)) λc=>a b d e c H
def aqO(G:ai)(N:Nat)(a:aa->aa->aa->af->O)(b:aa->aa->aa->aa->af->O):∀C H,aD P G N (ae (ae (aq (aq (ae (ae (aq (ae (aq (aq (ae (aq (ae (ae (aG Tryz.f93))))))))))))))) (λC H=>b (C 1) (C 3) (C 4) (C 5) H) [(2,(λC H=>a (C 1) (C 3) (C 4) H)),(1,(λC H=>a (C 1) (C 3) (C 4) H)),(0,(λC H=>nt G N (C 1) (C 3) H))] (ax Tryz.f93) C H=xi G N a b (C 1) (C 3) (C 4) (C 5) H:=by
 refine aI (aj _) λC H=> ?_
 delta xi;kernel_rfl
def H9(G:ai)(N:Nat)(e:aa->aa->aa->af->O)(g:aa->aa->aa->aa->af->O)(d b:aa)(i c:aa)(H:af):O:=ad (al P .geq 3 V c (I J 0)) λl=>ay (D l) (ad (ah P H 46 d) λm=>aw H (G 155 [m,b,c] H) λn j=>ba j [I .u64 0,I .u64 0,I .u64 0,I .u64 0,I .u64 0,I .u64 0,I .u64 0,I .u64 0,I .u64 0,I .u64 0,I .u64 0,I .u64 0,I .u64 0,I .u64 0,I .u64 0,I .u64 0,I .u64 0,I .u64 0,I .u64 0,I .u64 0,I .u64 0,I .u64 0,I .u64 0,I .u64 0,I .u64 0,I .u64 0,I .u64 0,I .u64 0,I .u64 0,I .u64 0,I .u64 0,I .u64 0,I .u64 0,I .u64 0,I .u64 0,I .u64 0,I .u64 0,I .u64 0,I .u64 0,I .u64 0,I .u64 0,I .u64 0,I .u64 0,I .u64 0,I .u64 0,I .u64 0,I .u64 0,I .u64 0,I .u64 0,I .u64 0,I .u64 0,I .u64 0,I .u64 0,I .u64 0,I .u64 0,I .u64 0,I .u64 0,I .u64 0,I .u64 0,I .u64 0,I .u64 0,I .u64 0,I .u64 0] λf h=>aF h (aC P h 233 f n) λa=>ad (ah P a 233 f) λo=>ad (aH P 230 b c) λp=>ad (ah P a 233 p) λq=>ad (al P .neq 233 U o q) λr=>ay (D r) (ad (ah P a 233 f) λs=>ad (aH P 230 b c) λt=>aF a (aC P a 233 t s) λk=>xi G N e g d b (Z V) c k) (xi G N e g d b i c a)) (e d b i H)
def xl(G:ai)(N:Nat)(a:aa->aa->aa->af->O):Nat->aa->aa->aa->aa->af->O
 |0,_,_,_,_,_=>Y
 |n+1,b,c,d,e,H=>H9 G N a (xl G N a n) b c d e H
def aqK(G:ai)(N:Nat)(a:aa->aa->aa->af->O)(b:aa->aa->aa->aa->af->O):∀C H,aD P G N (aq (aq (ae (ae (aq (ae (aq (aq (ae (aq (ae (ae (aG Tryz.f93))))))))))))) (λC H=>b (C 1) (C 3) (C 4) (C 5) H) [(2,(λC H=>a (C 1) (C 3) (C 4) H)),(1,(λC H=>a (C 1) (C 3) (C 4) H)),(0,(λC H=>nt G N (C 1) (C 3) H))] (ax Tryz.f93) C H=H9 G N a b (C 1) (C 3) (C 4) (C 5) H:=by
 refine aI ((ar j ((ar j (aqO G N a b) (aj _))) (aj _))) λC H=> ?_
 delta H9;generalize a=c;generalize xi G N a b=d;revert c d;refine id ?_;intro c d;kernel_rfl
def H8(G:ai)(N:Nat)(c:aa->aa->aa->af->O)(a b h:aa)(H:af):O:=ay (D h) (ad (ak P 46 a 4) λd=>ad (ah P H 44 d) λe=>a1 P .len [44] [e] H λf=>ad (al P .sub 3 V f (I J 1)) λg=>xl G N c N a b (Z U) g H) (nt G N a b H)
def xk(G:ai)(N:Nat):Nat->aa->aa->aa->af->O
 |0,_,_,_,_=>Y
 |n+1,a,b,c,H=>H8 G N (xk G N n) a b c H
def aqJ(G:ai)(N:Nat)(a:aa->aa->aa->af->O):∀C H,aD P G N (aq (aq (ae (aq (ae (ae (aG Tryz.f93))))))) (λC H=>a (C 1) (C 3) (C 4) H) [(0,(λC H=>nt G N (C 1) (C 3) H))] (ax Tryz.f93) C H=H8 G N a (C 1) (C 3) (C 4) H:=by
 refine aI ((ar j ((aX j ((ar j ((ar j ((aX j ((a_ (k:=λm C H=>xl G N a m (C 1) (C 3) (C 4) (C 5) H) j (λC H=>j) (λm=>aqK G N a (xl G N a m)))))) (aj _))) (aj _))))) (aj _))) λC H=> ?_
 delta H8;generalize nt G N=b;generalize xl G N a N=c;revert b c;refine id ?_;intro b c;kernel_rfl
def xg(G:ai)(N:Nat)(e:aa)(H:af):O:=aK H (bl (H).next e) λb a=>ad (ak P 46 b 4) λh=>ad (ah P a 44 h) λf=>a1 P .len [44] [f] a λc=>aK a (fP (gu P ⟨.leaf,(a).next⟩ 230 c c) (a).next) λg d=>xk G N N b g (Z V) d
def aqL(G:ai)(N:Nat)(b:aa)(H:af):aB Tryz.f93 G N (aO [b]) H=xg G N b H:=by
 refine aT (A:=aB Tryz.f93 G N) ((ar j ((ar j ((ar j (aqM G N) ((ar j ((aX j ((a_ (k:=λm C H=>xk G N m (C 1) (C 3) (C 4) H) j (λC H=>j) (λm=>aqJ G N (xk G N m)))))) (aj _))))) (aj _))) (aj _))) ?_;delta xg;generalize xk G N N=a;revert a;refine id ?_;intro a;kernel_rfl
def pR(G:ai)(d e:aa)(H:af):O:=aK H (bl (H).next e) λf a=>aw a (G 104 [d] a) λg b=>aw b (G 103 [g,(.func (.func 157) [] [f])] b) λh c=>D (h,c)
def aqP(G:ai)(N:Nat)(a:aa)(b:aa)(H:af):aB Tryz.f94 G N (aO [a,b]) H=pR G a b H:=by
 refine aT (A:=aB Tryz.f94 G N) (aj _) ?_;delta pR;kernel_rfl
def lW(G:ai)(H:af):O:=some (aa.ao,H)
def af4(G:ai)(N:Nat):∀C H,aD P G N (ae (ae (aG Tryz.f101))) (ax Tryz.f101) [] (ax Tryz.f101) C H=lW G H:=by
 refine aI (aj _) λC H=> ?_
 delta lW;kernel_rfl
def ra(G:ai)(b g:aa)(H:af):O:=ad (aL b) λc=>ad (ak P 84 c 3) λd=>ad (ah P H 35 d) λe=>aw H (G 94 [g,e] H) λf a=>D (f,a)
def af6(G:ai)(N:Nat):∀C H,aD P G N (ae (ae (aq (ae (ae (ae (aq (ae (aq (ae (aG Tryz.f101))))))))))) (λC H=>lW G H) [(0,(λC H=>lW G H))] (ax Tryz.f101) C H=ra G (C 0) (C 7) H:=by
 refine aI (aj _) λC H=> ?_
 delta ra;kernel_rfl
def q_(G:ai)(c i:aa)(f m n:aa)(H:af):O:=ay (D n) (ad (aL c) λo=>ad (ak P 84 o 2) λp=>ad (ak P 39 p 3) λg=>ad (ah P H 30 g) λh=>ad (aL c) λq=>ad (ak P 84 q 2) λr=>ad (ak P 39 r 1) λs=>ad (ah P H 35 s) λt=>ad (ak P 75 f 4) λu=>ad (ah P H 3 u) λv=>ad (aH P 35 t v) λw=>ad (ah P H 3 w) λx=>aK H (bd P (H).next 35 1 [(0,x)]) λy a=>aw a (G 95 [h,y] a) λz b=>ad (aL c) λA=>ad (ak P 84 A 3) λd=>ad (ah P b 35 d) λe=>aw b (G 94 [z,e] b) λB l=>bif ((aJ (ah P H 30 g) h&&(aJ (ah P a 30 g) h&&V))&&((aJ (ah P H 35 d) e&&(aJ (ah P a 35 d) e&&(aJ (ah P b 35 d) e&&V)))&&V))then(D (B,l))else Y) (ad (al P .eql 3 V m (I J 13)) λC=>ay (D C) (ad (ak P 75 f 3) λE=>ad (ah P H 3 E) λF=>ad (iG P H 168 i F V) λj=>ad (bJ j 0) λK=>ad (bJ j 1) λL=>ad (bu .not L) λM=>ay (D M) (ad (aL c) λN=>ad (ak P 84 N 0) λQ=>ad (ah P H 27 Q) λR=>ad (ak P 75 f 3) λS=>ad (ah P H 3 S) λT=>aw H (G 161 [R,T] H) λk a=>ad (ak P 75 f 3) λW=>ad (ah P a 3 W) λab=>aF a (kf P a 168 i ab k) λb=>ra G c k b) (ra G c K H)) (lW G H))
def af5(G:ai)(N:Nat):∀C H,aD P G N (ae (aq (ae (aq (ae (aG Tryz.f101)))))) (λC H=>lW G H) [(0,(λC H=>lW G H))] (ax Tryz.f101) C H=q_ G (C 0) (C 2) (C 4) (C 10) (C 11) H:=by
 refine aI ((bz j (aj _) ((ar j ((bz j ((ar j ((ar j (af6 G N) (aj _))) (aj _))) (aj _))) (aj _))))) λC H=> ?_
 delta q_;generalize lW G=a;generalize ra G=b;revert a b;refine id ?_;intro a b;kernel_rfl
def oP(G:ai)(d g f:aa)(H:af):O:=aK H (bl (H).next g) λc b=>ad (ak P 75 c 0) λi=>ad (ah P b 3 i) λa=>ad (al P .eql 3 V a (I J 11)) λe=>ay (D e) (q_ G d f c a e b) (ad (al P .eql 3 V a (I J 12)) λh=>q_ G d f c a h b)
def af3(G:ai)(N:Nat)(b:aa)(c:aa)(d:aa)(H:af):aB Tryz.f101 G N (aO [b,c,d]) H=oP G b c d H:=by
 refine aT (A:=aB Tryz.f101 G N) ((ar j ((ar j (af4 G N) ((ar j ((aX j ((ar j (af5 G N) (aj _))))) (aj _))))) (aj _))) ?_;delta oP;generalize q_ G=a;revert a;refine id ?_;intro a;kernel_rfl
def oR(G:ai)(N:Nat)(a b:aa)(H:af):O:=ad (fK P 35 a (D b) Y Y) λd=>aF H (nA P H [35] d) λc=>ad (fK P 35 a Y (D b) Y) λe=>D (e,c)
def af9(G:ai)(N:Nat):∀C H,aD P G N (ae (ae (ae (ae (aG Tryz.f103))))) (ax Tryz.f103) [] (ax Tryz.f103) C H=oR G N (C 0) (C 5) H:=by
 refine aI (aj _) λC H=> ?_
 delta oR;kernel_rfl
def rb(G:ai)(N:Nat)(a:aa->aa->aa->aa->af->O)(b c:aa)(e f:aa)(H:af):O:=ad (al P .add 3 V f (I J 1)) λd=>a b c e d H
def af_(G:ai)(N:Nat)(a:aa->aa->aa->aa->af->O):∀C H,aD P G N (ae (ae (aq (aq (ae (aq (ae (ae (ae (aG Tryz.f103)))))))))) (λC H=>a (C 0) (C 1) (C 5) (C 6) H) [(0,(λC H=>oR G N (C 0) (C 5) H))] (ax Tryz.f103) C H=rb G N a (C 0) (C 1) (C 5) (C 6) H:=by
 refine aI (aj _) λC H=> ?_
 delta rb;kernel_rfl
def Ft(G:ai)(N:Nat)(f:aa->aa->aa->aa->af->O)(a e:aa)(b c:aa)(H:af):O:=a1 P .len [35] [a] H λi=>ad (al P .lss 3 U c i) λj=>ay (D j) (ad (aH P 35 a c) λk=>ad (ah P H 3 k) λg=>xu G H e [g] λl d=>ad (bu .not l) λm=>ay (D m) (ad (aH P 35 a b) λn=>aF d (aC P d 3 n g) λh=>ad (al P .add 3 V b (I J 1)) λo=>rb G N f a e o c h) (rb G N f a e b c d)) (oR G N a b H)
def re(G:ai)(N:Nat):Nat->aa->aa->aa->aa->af->O
 |0,_,_,_,_,_=>Y
 |n+1,a,b,c,d,H=>Ft G N (re G N n) a b c d H
def af7(G:ai)(N:Nat)(a:aa->aa->aa->aa->af->O):∀C H,aD P G N (aq (aq (ae (aq (ae (ae (ae (aG Tryz.f103)))))))) (λC H=>a (C 0) (C 1) (C 5) (C 6) H) [(0,(λC H=>oR G N (C 0) (C 5) H))] (ax Tryz.f103) C H=Ft G N a (C 0) (C 1) (C 5) (C 6) H:=by
 refine aI ((ar j ((ar j (af_ G N a) (aj _))) (aj _))) λC H=> ?_
 delta Ft;generalize oR G N=b;generalize rb G N a=c;revert b c;refine id ?_;intro b c;kernel_rfl
def oQ(G:ai)(N:Nat)(a d:aa)(H:af):O:=aw H (G 162 [a,d] H) λb c=>ad (al P .eql 3 V b (I J (-1))) λe=>ay (D e) (D (a,c)) (ad (al P .add 3 V b (I J 1)) λf=>re G N N a d b f c)
def af8(G:ai)(N:Nat)(b:aa)(c:aa)(H:af):aB Tryz.f103 G N (aO [b,c]) H=oQ G N b c H:=by
 refine aT (A:=aB Tryz.f103 G N) ((ar j ((ar j ((ar j ((ar j (af9 G N) ((ar j ((aX j ((a_ (k:=λm C H=>re G N m (C 0) (C 1) (C 5) (C 6) H) j (λC H=>j) (λm=>af7 G N (re G N m)))))) (aj _))))) (aj _))) (aj _))) (aj _))) ?_;delta oQ;generalize re G N N=a;revert a;refine id ?_;intro a;kernel_rfl
def oT(G:ai)(b c:aa)(H:af):O:=ad (ah P H 35 c) λd=>aw H (G 106 [d,b] H) λe a=>D (e,a)
def agb(G:ai)(N:Nat)(a:aa)(b:aa)(H:af):aB Tryz.f105 G N (aO [a,b]) H=oT G a b H:=by
 refine aT (A:=aB Tryz.f105 G N) (aj _) ?_;delta oT;kernel_rfl
def kO(G:ai)(N:Nat)(a:aa)(H:af):O:=some (a,H)
def agh(G:ai)(N:Nat):∀C H,aD P G N (ae (ae (ae (aG Tryz.f107)))) (ax Tryz.f107) [] (ax Tryz.f107) C H=kO G N (C 0) H:=by
 refine aI (aj _) λC H=> ?_
 delta kO;kernel_rfl
def lX(G:ai)(N:Nat)(a:aa->aa->af->O)(b d:aa)(H:af):O:=ad (al P .add 3 V d (I J 1)) λc=>a b c H
def agi(G:ai)(N:Nat)(a:aa->aa->af->O):∀C H,aD P G N (ae (ae (aq (aq (ae (aq (ae (ae (aG Tryz.f107))))))))) (λC H=>a (C 0) (C 3) H) [(0,(λC H=>kO G N (C 0) H))] (ax Tryz.f107) C H=lX G N a (C 0) (C 3) H:=by
 refine aI (aj _) λC H=> ?_
 delta lX;kernel_rfl
def oW(G:ai)(N:Nat)(f:aa->aa->af->O)(a b:aa)(H:af):O:=ad (fK P 35 a (D b) Y Y) λd=>aF H (nA P H [35] d) λc=>ad (fK P 35 a Y (D b) Y) λe=>D (e,c)
def agj(G:ai)(N:Nat)(a:aa->aa->af->O):∀C H,aD P G N (ae (ae (aq (ae (aq (aq (ae (aq (aq (ae (aq (ae (ae (aG Tryz.f107)))))))))))))) (λC H=>lX G N a (C 0) (C 3) H) [(1,(λC H=>lX G N a (C 0) (C 3) H)),(0,(λC H=>kO G N (C 0) H))] (ax Tryz.f107) C H=oW G N a (C 0) (C 3) H:=by
 refine aI (aj _) λC H=> ?_
 delta oW;kernel_rfl
def rf(G:ai)(N:Nat)(g:aa->aa->af->O)(a:aa->aa->aa->aa->af->O)(b c:aa)(e f:aa)(H:af):O:=ad (al P .add 3 V f (I J 1)) λd=>a b c e d H
def agk(G:ai)(N:Nat)(a:aa->aa->af->O)(b:aa->aa->aa->aa->af->O):∀C H,aD P G N (ae (ae (aq (aq (ae (aq (ae (aq (ae (aq (aq (ae (aq (aq (ae (aq (ae (ae (aG Tryz.f107))))))))))))))))))) (λC H=>b (C 0) (C 3) (C 4) (C 5) H) [(2,(λC H=>oW G N a (C 0) (C 3) H)),(1,(λC H=>lX G N a (C 0) (C 3) H)),(0,(λC H=>kO G N (C 0) H))] (ax Tryz.f107) C H=rf G N a b (C 0) (C 3) (C 4) (C 5) H:=by
 refine aI (aj _) λC H=> ?_
 delta rf;kernel_rfl
def Fv(G:ai)(N:Nat)(e:aa->aa->af->O)(f:aa->aa->aa->aa->af->O)(c d:aa)(a b:aa)(H:af):O:=a1 P .len [35] [a] H λh=>ad (al P .lss 3 U b h) λi=>ay (D i) (ad (aH P 35 a b) λj=>ad (ah P H 3 j) λk=>ad (al P .sub 3 V b (I J 1)) λl=>ad (aH P 35 a l) λm=>ad (ah P H 3 m) λn=>ad (al P .neq 3 U k n) λo=>ay (D o) (ad (aH P 35 a b) λp=>ad (ah P H 3 p) λq=>ad (aH P 35 c d) λr=>aF H (aC P H 3 r q) λg=>ad (al P .add 3 V d (I J 1)) λs=>rf G N e f c s a b g) (rf G N e f c d a b H)) (oW G N e c d H)
def ri(G:ai)(N:Nat)(a:aa->aa->af->O):Nat->aa->aa->aa->aa->af->O
 |0,_,_,_,_,_=>Y
 |n+1,b,c,d,e,H=>Fv G N a (ri G N a n) b c d e H
def age(G:ai)(N:Nat)(a:aa->aa->af->O)(b:aa->aa->aa->aa->af->O):∀C H,aD P G N (aq (aq (ae (aq (ae (aq (ae (aq (aq (ae (aq (aq (ae (aq (ae (ae (aG Tryz.f107))))))))))))))))) (λC H=>b (C 0) (C 3) (C 4) (C 5) H) [(2,(λC H=>oW G N a (C 0) (C 3) H)),(1,(λC H=>lX G N a (C 0) (C 3) H)),(0,(λC H=>kO G N (C 0) H))] (ax Tryz.f107) C H=Fv G N a b (C 0) (C 3) (C 4) (C 5) H:=by
 refine aI ((ar j ((ar j (agk G N a b) (aj _))) (aj _))) λC H=> ?_
 delta Fv;generalize oW G N a=c;generalize rf G N a b=d;revert c d;refine id ?_;intro c d;kernel_rfl
def Fu(G:ai)(N:Nat)(c:aa->aa->af->O)(a b:aa)(H:af):O:=a1 P .len [35] [a] H λd=>ad (al P .lss 3 U b d) λe=>ay (D e) (ad (aH P 35 a b) λf=>ad (ah P H 3 f) λg=>ad (al P .sub 3 V b (I J 1)) λh=>ad (aH P 35 a h) λi=>ad (ah P H 3 i) λj=>ad (al P .eql 3 U g j) λk=>ay (D k) (ad (fK P 35 a (D b) Y Y) λl=>ri G N c N a b l (I J 1) H) (lX G N c a b H)) (kO G N a H)
def rh(G:ai)(N:Nat):Nat->aa->aa->af->O
 |0,_,_,_=>Y
 |n+1,a,b,H=>Fu G N (rh G N n) a b H
def agd(G:ai)(N:Nat)(a:aa->aa->af->O):∀C H,aD P G N (aq (aq (ae (aq (ae (ae (aG Tryz.f107))))))) (λC H=>a (C 0) (C 3) H) [(0,(λC H=>kO G N (C 0) H))] (ax Tryz.f107) C H=Fu G N a (C 0) (C 3) H:=by
 refine aI ((ar j ((ar j (agi G N a) ((aX j ((ar j ((bz j ((ar j ((ar j (agj G N a) ((ar j ((aX j ((a_ (k:=λm C H=>ri G N a m (C 0) (C 3) (C 4) (C 5) H) j (λC H=>j) (λm=>age G N a (ri G N a m)))))) (aj _))))) (aj _))) (aj _))) (aj _))))))) (aj _))) λC H=> ?_
 delta Fu;generalize kO G N=b;generalize lX G N a=c;generalize ri G N a N=d;revert b c d;refine id ?_;intro b c d;kernel_rfl
def oV(G:ai)(N:Nat)(a:aa)(H:af):O:=a1 P .len [35] [a] H λb=>ad (al P .lss 3 V b (I J 2)) λc=>ay (D c) (D (a,H)) (rh G N N a (I J 1) H)
def agf(G:ai)(N:Nat)(b:aa)(H:af):aB Tryz.f107 G N (aO [b]) H=oV G N b H:=by
 refine aT (A:=aB Tryz.f107 G N) ((ar j ((ar j ((ar j (agh G N) ((ar j ((aX j ((a_ (k:=λm C H=>rh G N m (C 0) (C 3) H) j (λC H=>j) (λm=>agd G N (rh G N m)))))) (aj _))))) (aj _))) (aj _))) ?_;delta oV;generalize rh G N N=a;revert a;refine id ?_;intro a;kernel_rfl
def rj(G:ai)(N:Nat)(a:aa)(H:af):O:=some (a,H)
def agr(G:ai)(N:Nat):∀C H,aD P G N (ae (ae (ae (ae (ae (aG Tryz.f110)))))) (ax Tryz.f110) [] (ax Tryz.f110) C H=rj G N (C 6) H:=by
 refine aI (aj _) λC H=> ?_
 delta rj;kernel_rfl
def Fw(G:ai)(N:Nat)(e:aa->aa->aa->aa->af->O)(d b:aa)(c a:aa)(H:af):O:=ad (al P .lss 3 U a c) λg=>ay (D g) (ad (aH P 30 b a) λh=>ad (ah P H 35 h) λi=>aw H (bx P H [35,35] d i) λj f=>ad (al P .add 3 V a (I J 1)) λk=>e j b c k f) (rj G N d H)
def rl(G:ai)(N:Nat):Nat->aa->aa->aa->aa->af->O
 |0,_,_,_,_,_=>Y
 |n+1,d,a,b,c,H=>Fw G N (rl G N n) d a b c H
def agn(G:ai)(N:Nat)(b:aa->aa->aa->aa->af->O):∀C H,aD P G N (aq (aq (ae (aq (ae (ae (ae (ae (aG Tryz.f110))))))))) (λC H=>b (C 6) (C 25) (C 26) (C 27) H) [(2,(λC H=>rj G N (C 6) H))] (ax Tryz.f110) C H=Fw G N b (C 6) (C 25) (C 26) (C 27) H:=by
 refine aI (aj _) λC H=> ?_
 delta Fw;generalize rj G N=a;revert a;refine id ?_;intro a;kernel_rfl
def o0(G:ai)(N:Nat)(b e:aa)(H:af):O:=aw H (G 166 [aa.ao,e] H) λc a=>a1 P .len [30] [b] a λd=>rl G N N c b d (I J 0) a
def agq(G:ai)(N:Nat):∀C H,aD P G N (ae (ae (ae (aG Tryz.f110)))) (ax Tryz.f110) [] (ax Tryz.f110) C H=o0 G N (C 0) (C 3) H:=by
 refine aI ((ar j ((ar j (agr G N) ((ar j ((aX j ((a_ (k:=λm C H=>rl G N m (C 6) (C 25) (C 26) (C 27) H) j (λC H=>j) (λm=>agn G N (rl G N m)))))) (aj _))))) (aj _))) λC H=> ?_
 delta o0;generalize rl G N N=a;revert a;refine id ?_;intro a;kernel_rfl
def rk(G:ai)(N:Nat)(a:aa->aa->aa->aa->aa->af->O)(b f:aa)(g c d:aa)(H:af):O:=ad (al P .add 3 V d (I J 1)) λe=>a b f g c e H
def ags(G:ai)(N:Nat)(a:aa->aa->aa->aa->aa->af->O):∀C H,aD P G N (ae (ae (ae (aq (aq (ae (aq (ae (ae (aG Tryz.f110)))))))))) (λC H=>a (C 0) (C 3) (C 9) (C 10) (C 11) H) [(0,(λC H=>o0 G N (C 0) (C 3) H))] (ax Tryz.f110) C H=rk G N a (C 0) (C 3) (C 9) (C 10) (C 11) H:=by
 refine aI (aj _) λC H=> ?_
 delta rk;kernel_rfl
def Fx(G:ai)(N:Nat)(f:aa->aa->aa->aa->aa->af->O)(b g:aa)(e c a:aa)(H:af):O:=ad (al P .lss 3 U a c) λh=>ay (D h) (ad (aH P 30 e a) λi=>ad (ah P H 35 i) λj=>a1 P .len [35] [j] H λk=>ad (al P .add 3 U g k) λd=>ad (al P .lss 3 V d (I J 0)) λl=>ay (D l) (ad (jF P 9 (X [108,101,110,32,111,117,116,32,111,102,32,114,97,110,103,101])) λm=>ad ((Y:Option aa)) λy=>rk G N f b d e c a H) (rk G N f b d e c a H)) (o0 G N b g H)
def rm(G:ai)(N:Nat):Nat->aa->aa->aa->aa->aa->af->O
 |0,_,_,_,_,_,_=>Y
 |n+1,a,d,e,b,c,H=>Fx G N (rm G N n) a d e b c H
def ago(G:ai)(N:Nat)(a:aa->aa->aa->aa->aa->af->O):∀C H,aD P G N (aq (aq (ae (aq (ae (ae (aG Tryz.f110))))))) (λC H=>a (C 0) (C 3) (C 9) (C 10) (C 11) H) [(0,(λC H=>o0 G N (C 0) (C 3) H))] (ax Tryz.f110) C H=Fx G N a (C 0) (C 3) (C 9) (C 10) (C 11) H:=by
 refine aI ((ar j ((ar j ((ar j (ags G N a) (aj _))) (aj _))) (aj _))) λC H=> ?_
 delta Fx;generalize o0 G N=b;generalize rk G N a=c;revert b c;refine id ?_;intro b c;kernel_rfl
def oZ(G:ai)(N:Nat)(a:aa)(H:af):O:=a1 P .len [30] [a] H λb=>rm G N N a (I J 0) a b (I J 0) H
def agp(G:ai)(N:Nat)(b:aa)(H:af):aB Tryz.f110 G N (aO [b]) H=oZ G N b H:=by
 refine aT (A:=aB Tryz.f110 G N) ((ar j ((ar j ((ar j (agq G N) ((ar j ((aX j ((a_ (k:=λm C H=>rm G N m (C 0) (C 3) (C 9) (C 10) (C 11) H) j (λC H=>j) (λm=>ago G N (rm G N m)))))) (aj _))))) (aj _))) (aj _))) ?_;delta oZ;generalize rm G N N=a;revert a;refine id ?_;intro a;kernel_rfl
def se(G:ai)(N:Nat)(a:aa)(H:af):O:=some (a,H)
def ahS(G:ai)(N:Nat):∀C H,aD P G N (ae (ae (ae (ae (ae (ae (aG Tryz.f140))))))) (ax Tryz.f140) [] (ax Tryz.f140) C H=se G N (C 6) H:=by
 refine aI (aj _) λC H=> ?_
 delta se;kernel_rfl
def F1(G:ai)(N:Nat)(i:aa->aa->aa->aa->af->O)(g e:aa)(f b:aa)(H:af):O:=ad (al P .lss 3 U b f) λk=>ay (D k) (ad (aH P 123 e b) λl=>ad (ah P H 135 l) λm=>ba H [X [],I J 0,I J 0,I J 0] λh c=>aF c (aC P c 135 h m) λa=>ad (ak P 135 h 1) λn=>ad (ah P a 43 n) λo=>aK a (bd P (a).next 23 1 [(0,o)]) λp d=>aw d (bx P d [23,23] g p) λq j=>ad (al P .add 3 V b (I J 1)) λr=>i q e f r j) (se G N g H)
def sf(G:ai)(N:Nat):Nat->aa->aa->aa->aa->af->O
 |0,_,_,_,_,_=>Y
 |n+1,d,a,b,c,H=>F1 G N (sf G N n) d a b c H
def ahQ(G:ai)(N:Nat)(b:aa->aa->aa->aa->af->O):∀C H,aD P G N (aq (aq (ae (aq (ae (ae (ae (ae (ae (aG Tryz.f140)))))))))) (λC H=>b (C 6) (C 44) (C 45) (C 46) H) [(0,(λC H=>se G N (C 6) H))] (ax Tryz.f140) C H=F1 G N b (C 6) (C 44) (C 45) (C 46) H:=by
 refine aI (aj _) λC H=> ?_
 delta F1;generalize se G N=a;revert a;refine id ?_;intro a;kernel_rfl
def z6(G:ai)(N:Nat)(v h:aa)(H:af):O:=aK H (bl (H).next v) λe f=>ad (ah P f 27 e) λaB=>aw f (G 75 [aB] f) λw p=>ad (bu .not w) λi=>au i U p (aV h) λx r=>au i U r (aE (al P .lss 3 V x (I J 0))) λy s=>ad (aU i (D (Z V)) (D y)) λb=>au b U s (aV h) λz t=>au b U t (aE (ak P 27 e 3)) λA k=>au b U k (qr (ah P k 25 A)) λm l=>au b U l (λq=>bE (a6 P .empty .len [25] [m]) (a6 P l .len [25] [m]) q) λB u=>au b U u (aE (al P .geq 3 U z B)) λC d=>ad (aU b (D (Z V)) (D C)) λE=>ay (D E) (D (aa.ao,d)) (ad (ak P 27 e 3) λF=>ad (ah P d 25 F) λK=>ad (aH P 25 K h) λL=>ad (ak P 161 L 1) λM=>ad (ah P d 43 M) λQ=>ba d [I J 0,I J 0,I J 0] λc j=>aF j (aC P j 43 c Q) λa=>ad (ak P 43 c 2) λR=>ad (ah P a 3 R) λS=>ad (al P .gtr 3 V S (I J 0)) λT=>ay (D T) (ad (ak P 43 c 2) λW=>ad (ah P a 3 W) λab=>ad (al P .sub 3 V ab (I J 1)) λae=>ad (ak P 43 c 2) λaj=>aF a (aC P a 3 aj ae) λg=>ad (ah P g 43 c) λam=>aK g (bd P (g).next 23 1 [(0,am)]) λan o=>D (an,o)) (ad (ak P 27 e 0) λap=>ad (ah P a 22 ap) λaq=>ad (ak P 43 c 1) λar=>ad (ah P a 3 ar) λav=>ad (aH P 22 aq av) λax=>ad (ak P 158 ax 1) λaz=>ad (ah P a 123 az) λn=>a1 P .len [123] [n] a λaA=>sf G N N aa.ao n aA (I J 0) a))
def ahR(G:ai)(N:Nat)(b:aa)(c:aa)(H:af):aB Tryz.f140 G N (aO [b,c]) H=z6 G N b c H:=by
 refine aT (A:=aB Tryz.f140 G N) ((ar j ((ar j ((ar j ((ar j ((ar j ((ar j (ahS G N) ((ar j ((aX j ((a_ (k:=λm C H=>sf G N m (C 6) (C 44) (C 45) (C 46) H) j (λC H=>j) (λm=>ahQ G N (sf G N m)))))) (aj _))))) (aj _))) (aj _))) (aj _))) (aj _))) (aj _))) ?_;delta z6;generalize sf G N N=a;revert a;refine id ?_;intro a;kernel_rfl
def z7(G:ai)(g:aa)(H:af):O:=aK H (bl (H).next g) λd b=>ad (ak P 43 d 0) λi=>ad (ah P b 3 i) λj=>ad (al P .eql 3 V j (I J 3)) λa=>au a U b (aE (ak P 43 d 2)) λk c=>au a U c (qr (ah P c 3 k)) λl e=>au a U e (aE (al P .gtr 3 V l (I J 0))) λm f=>ad (aU a (D (Z V)) (D m)) λh=>D (h,f)
def ahT(G:ai)(N:Nat)(a:aa)(H:af):aB Tryz.f141 G N (aO [a]) H=z7 G a H:=by
 refine aT (A:=aB Tryz.f141 G N) (aj _) ?_;delta z7;kernel_rfl
def sh(G:ai)(N:Nat)(a:aa)(H:af):O:=ad (aL a) λb=>ad (ak P 220 b 4) λc=>ad (ah P H 44 c) λd=>D (d,H)
def ahY(G:ai)(N:Nat):∀C H,aD P G N (ae (ae (ae (ae (aG Tryz.f142))))) (ax Tryz.f142) [] (ax Tryz.f142) C H=sh G N (C 0) H:=by
 refine aI (aj _) λC H=> ?_
 delta sh;kernel_rfl
def F2(G:ai)(N:Nat)(f:aa->aa->aa->aa->af->O)(a c:aa)(d b:aa)(H:af):O:=ad (al P .lss 3 U b d) λh=>ay (D h) (ad (aH P 35 c b) λi=>ad (ah P H 3 i) λe=>ad (aL a) λj=>ad (ak P 220 j 4) λk=>ad (ah P H 44 k) λl=>ad (aL a) λm=>ad (ak P 220 m 5) λn=>ad (ah P H 35 n) λo=>ad (aL a) λp=>ad (ak P 220 p 4) λq=>ad (ah P H 44 q) λr=>ad (aH P 44 r e) λs=>ad (ak P 75 s 4) λt=>ad (ah P H 3 t) λu=>ad (aH P 35 o u) λv=>ad (ah P H 3 v) λw=>ad (aH P 44 l e) λx=>ad (ak P 75 x 4) λy=>aF H (aC P H 3 y w) λg=>ad (al P .add 3 V b (I J 1)) λz=>f a c d z g) (sh G N a H)
def si(G:ai)(N:Nat):Nat->aa->aa->aa->aa->af->O
 |0,_,_,_,_,_=>Y
 |n+1,a,b,c,d,H=>F2 G N (si G N n) a b c d H
def ahU(G:ai)(N:Nat)(b:aa->aa->aa->aa->af->O):∀C H,aD P G N (aq (aq (ae (aq (ae (ae (ae (aG Tryz.f142)))))))) (λC H=>b (C 0) (C 48) (C 49) (C 50) H) [(2,(λC H=>sh G N (C 0) H))] (ax Tryz.f142) C H=F2 G N b (C 0) (C 48) (C 49) (C 50) H:=by
 refine aI (aj _) λC H=> ?_
 delta F2;generalize sh G N=a;revert a;refine id ?_;intro a;kernel_rfl
def sg(G:ai)(N:Nat)(a:aa)(H:af):O:=ad (aL a) λc=>ad (ak P 220 c 6) λd=>ad (ah P H 35 d) λb=>a1 P .len [35] [b] H λe=>si G N N a b e (I J 0) H
def ahX(G:ai)(N:Nat):∀C H,aD P G N (ae (ae (ae (aG Tryz.f142)))) (ax Tryz.f142) [] (ax Tryz.f142) C H=sg G N (C 0) H:=by
 refine aI ((ar j (ahY G N) ((ar j ((aX j ((a_ (k:=λm C H=>si G N m (C 0) (C 48) (C 49) (C 50) H) j (λC H=>j) (λm=>ahU G N (si G N m)))))) (aj _))))) λC H=> ?_
 delta sg;generalize si G N N=a;revert a;refine id ?_;intro a;kernel_rfl
def F3(G:ai)(N:Nat)(w:aa->aa->aa->aa->af->O)(a m:aa)(n f:aa)(H:af):O:=ad (al P .lss 3 U f n) λz=>ay (D z) (ad (aH P 44 m f) λA=>ad (ah P H 75 A) λB=>ba H [I J 0,I J 0,I J 0,I J 0,I J 0,aa.ao] λv k=>aF k (aC P k 75 v B) λc=>ad (aL a) λo=>ad (ak P 220 o 5) λi=>ad (ah P c 35 i) λp=>ad (aL a) λq=>ad (ak P 220 q 4) λj=>ad (ah P c 44 j) λg=>bE (a6 P .empty .len [44] [g]) (a6 P c .len [44] [g]) λe=>kW (e.heap c) (bd P ((e.heap c)).next 35 1 [(0,e.val)]) λr b l=>aw l (bx P l [35,35] p r) λs h=>ad (aL a) λt=>ad (ak P 220 t 5) λu=>h7 h (aC P h 35 u s) λy d=>bif dF [0,0,2,6,14,0,32,96,224,480,992,2046,4095,8191,16383] [5,6,7,8,9,10,11,12,13,14] [⟨1,.pure a,λH=>Y⟩,⟨2,.pure o,λH=>Y⟩,⟨3,.pure i,λH=>Y⟩,⟨4,.read p,λH=>ah P H 35 i⟩,⟨5,.pure a,λH=>Y⟩,⟨6,.pure q,λH=>Y⟩,⟨7,.pure j,λH=>Y⟩,⟨8,.read g,λH=>ah P H 44 j⟩,⟨9,e,λH=>a6 P H .len [44] [g]⟩,⟨10,.new r b,λH=>Y⟩,⟨11,.bs s h,λH=>Y⟩,⟨0,.pure a,λH=>Y⟩,⟨12,.pure t,λH=>Y⟩,⟨13,.pure u,λH=>Y⟩,⟨14,.bs y d,λH=>Y⟩] c then(ad (ah P d 75 v) λC=>aw d (G 208 [a,f,C] d) λF x=>ad (al P .add 3 V f (I J 1)) λE=>w a m n E x)else Y) (sg G N a H)
def sj(G:ai)(N:Nat):Nat->aa->aa->aa->aa->af->O
 |0,_,_,_,_,_=>Y
 |n+1,a,b,c,d,H=>F3 G N (sj G N n) a b c d H
def ahV(G:ai)(N:Nat)(b:aa->aa->aa->aa->af->O):∀C H,aD P G N (aq (aq (ae (aq (ae (ae (aG Tryz.f142))))))) (λC H=>b (C 0) (C 19) (C 20) (C 21) H) [(0,(λC H=>sg G N (C 0) H))] (ax Tryz.f142) C H=F3 G N b (C 0) (C 19) (C 20) (C 21) H:=by
 refine aI (aj _) λC H=> ?_
 delta F3;generalize sg G N=a;revert a;refine id ?_;intro a;kernel_rfl
def z8(G:ai)(N:Nat)(a:aa)(H:af):O:=ad (aL a) λl=>ad (ak P 220 l 2) λd=>ad (ah P H 30 d) λe=>ad (aH P 30 e (I J 0)) λf=>ad (ah P H 35 f) λg=>aw H (G 207 [a,I J 21,g] H) λm b=>ad (aL a) λh=>ad (ak P 220 h 0) λi=>ad (ak P 46 i 4) λj=>ad (ah P b 44 j) λc=>a1 P .len [44] [c] b λk=>sj G N N a c k (I J 0) b
def ahW(G:ai)(N:Nat)(b:aa)(H:af):aB Tryz.f142 G N (aO [b]) H=z8 G N b H:=by
 refine aT (A:=aB Tryz.f142 G N) ((ar j ((ar j ((ar j (ahX G N) ((ar j ((aX j ((a_ (k:=λm C H=>sj G N m (C 0) (C 19) (C 20) (C 21) H) j (λC H=>j) (λm=>ahV G N (sj G N m)))))) (aj _))))) (aj _))) (aj _))) ?_;delta z8;generalize sj G N N=a;revert a;refine id ?_;intro a;kernel_rfl
def sm(G:ai)(N:Nat)(b d:aa)(H:af):O:=ad (ah P H 233 d) λc=>aF H (aC P H 233 b c) λa=>ad (ah P a 233 b) λr=>D (r,a)
def ah4(G:ai)(N:Nat):∀C H,aD P G N (ae (ae (ae (ae (ae (aG Tryz.f155)))))) (ax Tryz.f155) [] (ax Tryz.f155) C H=sm G N (C 6) (C 7) H:=by
 refine aI (aj _) λC H=> ?_
 delta sm;kernel_rfl
def F4(G:ai)(N:Nat)(f:aa->aa->aa->aa->aa->af->O)(e b:aa)(c d a:aa)(H:af):O:=ad (al P .lss 3 U a d) λh=>ay (D h) (ad (aH P 35 c a) λi=>ad (ah P H 3 i) λj=>aw H (G 214 [b,j] H) λl g=>ad (al P .add 3 V a (I J 1)) λk=>f e b c d k g) (sm G N e b H)
def sn(G:ai)(N:Nat):Nat->aa->aa->aa->aa->aa->af->O
 |0,_,_,_,_,_,_=>Y
 |n+1,d,e,a,b,c,H=>F4 G N (sn G N n) d e a b c H
def ahZ(G:ai)(N:Nat)(b:aa->aa->aa->aa->aa->af->O):∀C H,aD P G N (aq (aq (ae (aq (ae (ae (ae (ae (aG Tryz.f155))))))))) (λC H=>b (C 6) (C 7) (C 41) (C 42) (C 43) H) [(2,(λC H=>sm G N (C 6) (C 7) H))] (ax Tryz.f155) C H=F4 G N b (C 6) (C 7) (C 41) (C 42) (C 43) H:=by
 refine aI (aj _) λC H=> ?_
 delta F4;generalize sm G N=a;revert a;refine id ?_;intro a;kernel_rfl
def sl(G:ai)(N:Nat)(c d:aa)(j k:aa)(H:af):O:=ad (ak P 46 d 4) λe=>ad (ah P H 44 e) λf=>ad (aH P 44 f c) λg=>ad (ah P H 75 g) λh=>aw H (G 213 [h] H) λb a=>a1 P .len [35] [b] a λi=>sn G N N j k b i (I J 0) a
def ah3(G:ai)(N:Nat):∀C H,aD P G N (ae (ae (ae (ae (aG Tryz.f155))))) (ax Tryz.f155) [] (ax Tryz.f155) C H=sl G N (C 2) (C 3) (C 6) (C 7) H:=by
 refine aI ((ar j (ah4 G N) ((ar j ((aX j ((a_ (k:=λm C H=>sn G N m (C 6) (C 7) (C 41) (C 42) (C 43) H) j (λC H=>j) (λm=>ahZ G N (sn G N m)))))) (aj _))))) λC H=> ?_
 delta sl;generalize sn G N N=a;revert a;refine id ?_;intro a;kernel_rfl
def sk(G:ai)(N:Nat)(b c:aa)(f d:aa)(H:af):O:=ad (ak P 46 c 4) λh=>ad (ah P H 44 h) λi=>ad (aH P 44 i b) λj=>ad (ah P H 75 j) λk=>aw H (G 211 [k] H) λe a=>ad (al P .geq 3 V e (I J 0)) λl=>ay (D l) (aw a (G 212 [d,e] a) λm g=>sl G N b c f d g) (sl G N b c f d a)
def ah2(G:ai)(N:Nat):∀C H,aD P G N (ae (ae (ae (aG Tryz.f155)))) (ax Tryz.f155) [] (ax Tryz.f155) C H=sk G N (C 2) (C 3) (C 6) (C 7) H:=by
 refine aI ((ar j (ah3 G N) (aj _))) λC H=> ?_
 delta sk;generalize sl G N=a;revert a;refine id ?_;intro a;kernel_rfl
def F5(G:ai)(N:Nat)(i:aa->aa->aa->aa->aa->aa->aa->aa->af->O)(c f:aa)(g h:aa)(b d:aa)(e a:aa)(H:af):O:=ad (al P .lss 3 U a e) λk=>ay (D k) (ad (aH P 35 d a) λl=>ad (ah P H 3 l) λm=>ad (aH P 230 c m) λn=>aw H (G 210 [b,n] H) λp j=>ad (al P .add 3 V a (I J 1)) λo=>i c f g h b d e o j) (sk G N f g h b H)
def so(G:ai)(N:Nat):Nat->aa->aa->aa->aa->aa->aa->aa->aa->af->O
 |0,_,_,_,_,_,_,_,_,_=>Y
 |n+1,a,e,f,g,h,b,c,d,H=>F5 G N (so G N n) a e f g h b c d H
def ah0(G:ai)(N:Nat)(b:aa->aa->aa->aa->aa->aa->aa->aa->af->O):∀C H,aD P G N (aq (aq (ae (aq (ae (ae (aG Tryz.f155))))))) (λC H=>b (C 1) (C 2) (C 3) (C 6) (C 7) (C 15) (C 16) (C 17) H) [(0,(λC H=>sk G N (C 2) (C 3) (C 6) (C 7) H))] (ax Tryz.f155) C H=F5 G N b (C 1) (C 2) (C 3) (C 6) (C 7) (C 15) (C 16) (C 17) H:=by
 refine aI (aj _) λC H=> ?_
 delta F5;generalize sk G N=a;revert a;refine id ?_;intro a;kernel_rfl
def z_(G:ai)(N:Nat)(h i d:aa)(H:af):O:=aK H (bl (H).next h) λe f=>ba f [I .u64 0,I .u64 0,I .u64 0,I .u64 0,I .u64 0,I .u64 0,I .u64 0,I .u64 0,I .u64 0,I .u64 0,I .u64 0,I .u64 0,I .u64 0,I .u64 0,I .u64 0,I .u64 0,I .u64 0,I .u64 0,I .u64 0,I .u64 0,I .u64 0,I .u64 0,I .u64 0,I .u64 0,I .u64 0,I .u64 0,I .u64 0,I .u64 0,I .u64 0,I .u64 0,I .u64 0,I .u64 0,I .u64 0,I .u64 0,I .u64 0,I .u64 0,I .u64 0,I .u64 0,I .u64 0,I .u64 0,I .u64 0,I .u64 0,I .u64 0,I .u64 0,I .u64 0,I .u64 0,I .u64 0,I .u64 0,I .u64 0,I .u64 0,I .u64 0,I .u64 0,I .u64 0,I .u64 0,I .u64 0,I .u64 0,I .u64 0,I .u64 0,I .u64 0,I .u64 0,I .u64 0,I .u64 0,I .u64 0] λl g=>ba g [I .u64 0,I .u64 0,I .u64 0,I .u64 0,I .u64 0,I .u64 0,I .u64 0,I .u64 0,I .u64 0,I .u64 0,I .u64 0,I .u64 0,I .u64 0,I .u64 0,I .u64 0,I .u64 0,I .u64 0,I .u64 0,I .u64 0,I .u64 0,I .u64 0,I .u64 0,I .u64 0,I .u64 0,I .u64 0,I .u64 0,I .u64 0,I .u64 0,I .u64 0,I .u64 0,I .u64 0,I .u64 0,I .u64 0,I .u64 0,I .u64 0,I .u64 0,I .u64 0,I .u64 0,I .u64 0,I .u64 0,I .u64 0,I .u64 0,I .u64 0,I .u64 0,I .u64 0,I .u64 0,I .u64 0,I .u64 0,I .u64 0,I .u64 0,I .u64 0,I .u64 0,I .u64 0,I .u64 0,I .u64 0,I .u64 0,I .u64 0,I .u64 0,I .u64 0,I .u64 0,I .u64 0,I .u64 0,I .u64 0] λm a=>ad (ah P a 46 e) λj=>aw a (G 209 [j,d] a) λc b=>a1 P .len [35] [c] b λk=>so G N N i d e l m c k (I J 0) b
def ah1(G:ai)(N:Nat)(b:aa)(c:aa)(d:aa)(H:af):aB Tryz.f155 G N (aO [b,c,d]) H=z_ G N b c d H:=by
 refine aT (A:=aB Tryz.f155 G N) ((ar j ((ar j ((ar j (ah2 G N) ((ar j ((aX j ((a_ (k:=λm C H=>so G N m (C 1) (C 2) (C 3) (C 6) (C 7) (C 15) (C 16) (C 17) H) j (λC H=>j) (λm=>ah0 G N (so G N m)))))) (aj _))))) (aj _))) (aj _))) ?_;delta z_;generalize so G N N=a;revert a;refine id ?_;intro a;kernel_rfl
def l0(G:ai)(N:Nat)(a:aa)(H:af):O:=some (a,H)
def ah8(G:ai)(N:Nat):∀C H,aD P G N (ae (ae (ae (aG Tryz.f156)))) (ax Tryz.f156) [] (ax Tryz.f156) C H=l0 G N (C 3) H:=by
 refine aI (aj _) λC H=> ?_
 delta l0;kernel_rfl
def l1(G:ai)(N:Nat)(a:aa->aa->aa->af->O)(c d e:aa)(H:af):O:=ad (al P .add 3 V e (I J 1)) λb=>a c d b H
def ah9(G:ai)(N:Nat)(a:aa->aa->aa->af->O):∀C H,aD P G N (ae (ae (ae (aq (aq (ae (aq (ae (ae (aG Tryz.f156)))))))))) (λC H=>a (C 3) (C 7) (C 8) H) [(0,(λC H=>l0 G N (C 3) H))] (ax Tryz.f156) C H=l1 G N a (C 3) (C 7) (C 8) H:=by
 refine aI (aj _) λC H=> ?_
 delta l1;kernel_rfl
def sq(G:ai)(N:Nat)(i:aa->aa->aa->af->O)(a:aa->aa->aa->aa->aa->af->O)(d e:aa)(f g h:aa)(H:af):O:=ad (al P .add 3 V f (I J 1)) λb=>ad (al P .shr 231 V e (I .u64 1)) λc=>a d c b g h H
def ah_(G:ai)(N:Nat)(a:aa->aa->aa->af->O)(b:aa->aa->aa->aa->aa->af->O):∀C H,aD P G N (ae (ae (aq (aq (ae (ae (aq (aq (ae (ae (aq (aq (ae (aq (ae (ae (aG Tryz.f156))))))))))))))))) (λC H=>b (C 3) (C 5) (C 6) (C 7) (C 8) H) [(2,(λC H=>l1 G N a (C 3) (C 7) (C 8) H)),(1,(λC H=>l1 G N a (C 3) (C 7) (C 8) H)),(0,(λC H=>l0 G N (C 3) H))] (ax Tryz.f156) C H=sq G N a b (C 3) (C 5) (C 6) (C 7) (C 8) H:=by
 refine aI (aj _) λC H=> ?_
 delta sq;kernel_rfl
def F7(G:ai)(N:Nat)(b:aa->aa->aa->af->O)(g:aa->aa->aa->aa->aa->af->O)(c a:aa)(d e f:aa)(H:af):O:=ad (al P .neq 231 V a (I .u64 0)) λj=>ay (D j) (ad (al P .and 231 V a (I .u64 1)) λk=>ad (al P .eql 231 V k (I .u64 1)) λl=>ay (D l) (aK H (bd P (H).next 35 1 [(0,d)]) λm h=>aw h (bx P h [35,35] c m) λn i=>sq G N b g n a d e f i) (sq G N b g c a d e f H)) (l1 G N b c e f H)
def ss(G:ai)(N:Nat)(a:aa->aa->aa->af->O):Nat->aa->aa->aa->aa->aa->af->O
 |0,_,_,_,_,_,_=>Y
 |n+1,b,c,d,e,f,H=>F7 G N a (ss G N a n) b c d e f H
def ah6(G:ai)(N:Nat)(a:aa->aa->aa->af->O)(b:aa->aa->aa->aa->aa->af->O):∀C H,aD P G N (aq (aq (ae (ae (aq (aq (ae (ae (aq (aq (ae (aq (ae (ae (aG Tryz.f156))))))))))))))) (λC H=>b (C 3) (C 5) (C 6) (C 7) (C 8) H) [(2,(λC H=>l1 G N a (C 3) (C 7) (C 8) H)),(1,(λC H=>l1 G N a (C 3) (C 7) (C 8) H)),(0,(λC H=>l0 G N (C 3) H))] (ax Tryz.f156) C H=F7 G N a b (C 3) (C 5) (C 6) (C 7) (C 8) H:=by
 refine aI ((ar j ((ar j (ah_ G N a b) (aj _))) (aj _))) λC H=> ?_
 delta F7;generalize l1 G N a=c;generalize sq G N a b=d;revert c d;refine id ?_;intro c d;kernel_rfl
def F6(G:ai)(N:Nat)(d:aa->aa->aa->af->O)(b c a:aa)(H:af):O:=ad (al P .lss 3 V a (I J 63)) λi=>ay (D i) (ad (aL c) λe=>ad (aH P 233 e a) λf=>ad (ah P H 231 f) λg=>ad (al P .mul 3 V (I J 64) a) λh=>ss G N d N b g h c a H) (l0 G N b H)
def sr(G:ai)(N:Nat):Nat->aa->aa->aa->af->O
 |0,_,_,_,_=>Y
 |n+1,a,b,c,H=>F6 G N (sr G N n) a b c H
def ah5(G:ai)(N:Nat)(a:aa->aa->aa->af->O):∀C H,aD P G N (aq (aq (ae (aq (ae (ae (aG Tryz.f156))))))) (λC H=>a (C 3) (C 7) (C 8) H) [(0,(λC H=>l0 G N (C 3) H))] (ax Tryz.f156) C H=F6 G N a (C 3) (C 7) (C 8) H:=by
 refine aI ((ar j ((ar j ((ar j (ah9 G N a) ((aX j ((ar j ((ar j ((aX j ((a_ (k:=λm C H=>ss G N a m (C 3) (C 5) (C 6) (C 7) (C 8) H) j (λC H=>j) (λm=>ah6 G N a (ss G N a m)))))) (aj _))) (aj _))))))) (aj _))) (aj _))) λC H=> ?_
 delta F6;generalize l0 G N=b;generalize ss G N a N=c;revert b c;refine id ?_;intro b c;kernel_rfl
def Aa(G:ai)(N:Nat)(a:aa)(H:af):O:=sr G N N aa.ao a (I J 0) H
def ah7(G:ai)(N:Nat)(b:aa)(H:af):aB Tryz.f156 G N (aO [b]) H=Aa G N b H:=by
 refine aT (A:=aB Tryz.f156 G N) ((ar j ((ar j ((ar j (ah8 G N) ((ar j ((aX j ((a_ (k:=λm C H=>sr G N m (C 3) (C 7) (C 8) H) j (λC H=>j) (λm=>ah5 G N (sr G N m)))))) (aj _))))) (aj _))) (aj _))) ?_;delta Aa;generalize sr G N N=a;revert a;refine id ?_;intro a;kernel_rfl
def Ab(G:ai)(b c:aa)(H:af):O:=ad (ah P H 35 c) λd=>aw H (G 106 [d,b] H) λe a=>ad (bu .not e) λf=>D (f,a)
def aia(G:ai)(N:Nat)(a:aa)(b:aa)(H:af):aB Tryz.f157 G N (aO [a,b]) H=Ab G a b H:=by
 refine aT (A:=aB Tryz.f157 G N) (aj _) ?_;delta Ab;kernel_rfl
def sy(G:ai)(a:aa)(H:af):O:=some (a,H)
def aim(G:ai)(N:Nat):∀C H,aD P G N (ae (ae (ae (aG Tryz.f166)))) (ax Tryz.f166) [] (ax Tryz.f166) C H=sy G (C 0) H:=by
 refine aI (aj _) λC H=> ?_
 delta sy;kernel_rfl
def sx(G:ai)(a d:aa)(H:af):O:=a1 P .cap [35] [a] H λe=>a1 P .len [35] [a] H λf=>ad (al P .sub 3 U e f) λg=>ad (al P .sub 3 U d g) λc=>ad (al P .gtr 3 V c (I J 0)) λh=>ay (D h) (a1 P .cap [35] [a] H λi=>ad (fK P 35 a Y (D i) Y) λj=>aw H (bx P H [35,3] j c) λk b=>a1 P .len [35] [a] b λl=>ad (fK P 35 k Y (D l) Y) λm=>sy G m b) (sy G a H)
def ail(G:ai)(N:Nat):∀C H,aD P G N (ae (ae (aG Tryz.f166))) (ax Tryz.f166) [] (ax Tryz.f166) C H=sx G (C 0) (C 1) H:=by
 refine aI ((ar j (aim G N) (aj _))) λC H=> ?_
 delta sx;generalize sy G=a;revert a;refine id ?_;intro a;kernel_rfl
def Ah(G:ai)(b a:aa)(H:af):O:=ad (al P .lss 3 V a (I J 0)) λc=>ay (D c) (ad (jF P 9 (X [99,97,110,110,111,116,32,98,101,32,110,101,103,97,116,105,118,101])) λd=>ad ((Y:Option aa)) λy=>sx G b a H) (sx G b a H)
def aik(G:ai)(N:Nat)(b:aa)(c:aa)(H:af):aB Tryz.f166 G N (aO [b,c]) H=Ah G b c H:=by
 refine aT (A:=aB Tryz.f166 G N) ((ar j ((ar j (ail G N) (aj _))) (aj _))) ?_;delta Ah;generalize sx G=a;revert a;refine id ?_;intro a;kernel_rfl
def AR(G:ai)(f i g:aa)(H:af):O:=a1 P .len [35] [g] H λq=>ad (al P .gtr 3 V q (I J 0)) λr=>ay (D r) (aw H (G 104 [g] H) λk a=>ad (aL f) λj=>ad (ak P 220 j 4) λb=>ad (ah P a 44 b) λc=>ad (bo P 75 [(0,i),(5,k)]) λl=>aK a (bd P (a).next 44 1 [(0,l)]) λm d=>aw d (bx P d [44,44] c m) λn e=>ad (aL f) λo=>ad (ak P 220 o 4) λp=>aF e (aC P e 44 p n) λh=>bif ((aJ (ah P H 44 b) c&&(aJ (ah P a 44 b) c&&(aJ (ah P d 44 b) c&&V)))&&V)then(D (.tuple [],h))else Y) (D (.tuple [],H))
def ajV(G:ai)(N:Nat)(a:aa)(b:aa)(c:aa)(H:af):aB Tryz.f207 G N (aO [a,b,c]) H=AR G a b c H:=by
 refine aT (A:=aB Tryz.f207 G N) (aj _) ?_;delta AR;kernel_rfl
def AS(G:ai)(c e p:aa)(H:af):O:=aK H (bl (H).next p) λd a=>ad (ak P 75 d 0) λF=>ad (ah P a 3 F) λi=>ad (al P .eql 3 V i (I J 16)) λm=>ay (D m) (ad (ak P 75 d 4) λn=>ad (ah P a 3 n) λo=>aw a (G 242 [c,e,o] a) λL b=>D (.tuple [],b)) (ad (al P .eql 3 V i (I J 17)) λq=>ay (D q) (ad (ah P a 75 d) λr=>aw a (G 243 [c,e,r] a) λM b=>D (.tuple [],b)) (ad (al P .eql 3 V i (I J 18)) λs=>ay (D s) (ad (aL c) λt=>ad (ak P 220 t 2) λu=>ad (ah P a 30 u) λv=>ad (aH P 30 v e) λw=>ad (ah P a 35 w) λx=>aw a (G 207 [c,I J 22,x] a) λN b=>ad (aL c) λy=>ad (ak P 220 y 4) λg=>ad (ah P b 44 g) λh=>ad (ah P b 75 d) λz=>aK b (bd P (b).next 44 1 [(0,z)]) λA f=>aw f (bx P f [44,44] h A) λB j=>ad (aL c) λC=>ad (ak P 220 C 4) λE=>aF j (aC P j 44 E B) λk=>bif ((aJ (ah P b 44 g) h&&(aJ (ah P f 44 g) h&&V))&&V)then(D (.tuple [],k))else Y) (ad (ah P a 75 d) λl=>aw a (G 244 [c,e,l] a) λK b=>D (.tuple [],b))))
def ajW(G:ai)(N:Nat)(a:aa)(b:aa)(c:aa)(H:af):aB Tryz.f208 G N (aO [a,b,c]) H=AS G a b c H:=by
 refine aT (A:=aB Tryz.f208 G N) (aj _) ?_;delta AS;kernel_rfl
def pa(G:ai)(e g:aa)(H:af):O:=aw H (G 103 [g,(.func (.func 245) [] [e])] H) λc a=>aw a (G 164 [c] a) λh b=>aw b (G 107 [c] b) λf d=>D (f,d)
def ajY(G:ai)(N:Nat):∀C H,aD P G N (ae (ae (ae (ae (aG Tryz.f209))))) (ax Tryz.f209) [] (ax Tryz.f209) C H=pa G (C 2) (C 5) H:=by
 refine aI (aj _) λC H=> ?_
 delta pa;kernel_rfl
def AT(G:ai)(r e:aa)(H:af):O:=aK H (bl (H).next r) λc n=>ad (al P .lss 3 V e (I J 0)) λb=>au b U n (aV e) λs o=>au b U o (aE (ak P 46 c 4)) λt j=>au b U j (qr (ah P j 44 t)) λm k=>au b U k (λq=>bE (a6 P .empty .len [44] [m]) (a6 P k .len [44] [m]) q) λu p=>au b U p (aE (al P .geq 3 U s u)) λv g=>ad (aU b (D (Z V)) (D v)) λw=>ay (D w) (D (aa.ao,g)) (ad (al P .add 3 V e (I J 1)) λx=>aK g (bd P (g).next 35 1 [(0,x)]) λy h=>ad (ak P 46 c 4) λz=>ad (ah P h 44 z) λA=>ad (aH P 44 A e) λB=>ad (ah P h 75 B) λC=>ba h [I J 0,I J 0,I J 0,I J 0,I J 0,aa.ao] λd l=>aF l (aC P l 75 d C) λa=>ad (ak P 75 d 0) λE=>ad (ah P a 3 E) λi=>ad (al P .eql 3 V i (I J 18)) λF=>ay (D F) (D (aa.ao,a)) (ad (al P .eql 3 V i (I J 16)) λK=>ay (D K) (ad (ak P 75 d 4) λL=>ad (ah P a 3 L) λM=>aK a (bd P (a).next 35 1 [(0,M)]) λN f=>pa G c N f) (ad (al P .eql 3 V i (I J 17)) λQ=>ay (D Q) (ad (ak P 75 d 4) λR=>ad (ah P a 3 R) λS=>ad (ak P 75 d 3) λT=>ad (ah P a 3 T) λW=>aK a (bd P (a).next 35 2 [(0,S),(1,W)]) λab f=>pa G c ab f) (pa G c y a))))
def ajX(G:ai)(N:Nat)(b:aa)(c:aa)(H:af):aB Tryz.f209 G N (aO [b,c]) H=AT G b c H:=by
 refine aT (A:=aB Tryz.f209 G N) ((ar j ((ar j ((ar j ((ar j (ajY G N) (aj _))) (aj _))) (aj _))) (aj _))) ?_;delta AT;generalize pa G=a;revert a;refine id ?_;intro a;kernel_rfl
def Gv(G:ai)(N:Nat)(d:aa->aa->aa->af->O)(b c a:aa)(H:af):O:=ad (al P .lss 3 V a (I J 63)) λp=>ay (D p) (ad (aL c) λf=>ad (aH P 233 f a) λg=>ad (ah P H 231 g) λh=>ad (aL b) λi=>ad (aH P 233 i a) λj=>ad (ah P H 231 j) λk=>ad (al P .or 231 U k h) λl=>ad (aL b) λm=>ad (aH P 233 m a) λn=>aF H (aC P H 231 n l) λe=>ad (al P .add 3 V a (I J 1)) λo=>d b c o e) (D (.tuple [],H))
def tt(G:ai)(N:Nat):Nat->aa->aa->aa->af->O
 |0,_,_,_,_=>Y
 |n+1,a,b,c,H=>Gv G N (tt G N n) a b c H
def ajZ(G:ai)(N:Nat)(a:aa->aa->aa->af->O):∀C H,aD P G N (aq (aq (ae (aG Tryz.f210)))) (λC H=>a (C 0) (C 6) (C 7) H) [(0,(ax Tryz.f210))] (ax Tryz.f210) C H=Gv G N a (C 0) (C 6) (C 7) H:=by
 refine aI (aj _) λC H=> ?_
 delta Gv;kernel_rfl
def AU(G:ai)(N:Nat)(a b:aa)(H:af):O:=tt G N N a b (I J 0) H
def aj0(G:ai)(N:Nat)(b:aa)(c:aa)(H:af):aB Tryz.f210 G N (aO [b,c]) H=AU G N b c H:=by
 refine aT (A:=aB Tryz.f210 G N) ((ar j ((aX j ((a_ (k:=λm C H=>tt G N m (C 0) (C 6) (C 7) H) j (λC H=>j) (λm=>ajZ G N (tt G N m)))))) (aj _))) ?_;delta AU;generalize tt G N N=a;revert a;refine id ?_;intro a;kernel_rfl
def m7(G:ai)(H:af):O:=some ((I J (-1)),H)
def aj2(G:ai)(N:Nat):∀C H,aD P G N (ae (ae (aG Tryz.f211))) (ax Tryz.f211) [] (ax Tryz.f211) C H=m7 G H:=by
 refine aI (aj _) λC H=> ?_
 delta m7;kernel_rfl
def h3(G:ai)(b h:aa)(H:af):O:=ay (D h) (ad (ak P 75 b 1) λc=>ad (ah P H 3 c) λd=>aw H (G 246 [d] H) λe a=>ay (D e) (ad (ak P 75 b 1) λf=>ad (ah P a 3 f) λg=>D (g,a)) (m7 G a)) (m7 G H)
def aj3(G:ai)(N:Nat):∀C H,aD P G N (ae (aq (ae (aq (ae (aG Tryz.f211)))))) (λC H=>m7 G H) [(0,(λC H=>m7 G H))] (ax Tryz.f211) C H=h3 G (C 1) (C 5) H:=by
 refine aI (aj _) λC H=> ?_
 delta h3;generalize m7 G=a;revert a;refine id ?_;intro a;kernel_rfl
def AV(G:ai)(p:aa)(H:af):O:=aK H (bl (H).next p) λb a=>ad (ak P 75 b 0) λr=>ad (ah P a 3 r) λc=>ad (al P .eql 3 V c (I J 1)) λl=>ay (D l) (h3 G b l a) (ad (al P .eql 3 V c (I J 2)) λm=>ay (D m) (h3 G b m a) (ad (al P .eql 3 V c (I J 3)) λn=>ay (D n) (h3 G b n a) (ad (al P .eql 3 V c (I J 4)) λo=>ay (D o) (h3 G b o a) (ad (al P .eql 3 V c (I J 5)) λd=>ay (D d) (h3 G b d a) (ad (al P .eql 3 V c (I J 6)) λe=>ay (D e) (h3 G b e a) (ad (al P .eql 3 V c (I J 8)) λf=>ay (D f) (h3 G b f a) (ad (al P .eql 3 V c (I J 10)) λg=>ay (D g) (h3 G b g a) (ad (al P .eql 3 V c (I J 11)) λh=>ay (D h) (h3 G b h a) (ad (al P .eql 3 V c (I J 12)) λi=>ay (D i) (h3 G b i a) (ad (al P .eql 3 V c (I J 13)) λj=>ay (D j) (h3 G b j a) (ad (al P .eql 3 V c (I J 14)) λk=>ay (D k) (h3 G b k a) (ad (al P .eql 3 V c (I J 19)) λq=>h3 G b q a))))))))))))
def aj1(G:ai)(N:Nat)(b:aa)(H:af):aB Tryz.f211 G N (aO [b]) H=AV G b H:=by
 refine aT (A:=aB Tryz.f211 G N) ((ar j ((ar j (aj2 G N) ((ar j ((aX j ((ar j (aj3 G N) (aj _))))) (aj _))))) (aj _))) ?_;delta AV;generalize h3 G=a;revert a;refine id ?_;intro a;kernel_rfl
def AW(G:ai)(a b:aa)(H:af):O:=ad (al P .quo 3 V b (I J 64)) λc=>ad (aL a) λj=>ad (aH P 233 j c) λk=>ad (ah P H 231 k) λl=>ad (al P .rem 3 V b (I J 64)) λe=>ad (al P .shl 231 V (I .u64 1) e) λf=>ad (al P .andNot 231 U l f) λg=>ad (aL a) λh=>ad (aH P 233 h c) λi=>aF H (aC P H 231 i g) λd=>D (.tuple [],d)
def aj4(G:ai)(N:Nat)(a:aa)(b:aa)(H:af):aB Tryz.f212 G N (aO [a,b]) H=AW G a b H:=by
 refine aT (A:=aB Tryz.f212 G N) (aj _) ?_;delta AW;kernel_rfl
def AX(G:ai)(g:aa)(H:af):O:=aK H (bl (H).next g) λh a=>ad (ah P a 75 h) λj=>aw a (G 247 [j] a) λk b=>aw b (G 103 [k,(.func (.func 248) [] [])] b) λe c=>aw c (G 164 [e] c) λl d=>aw d (G 107 [e] d) λi f=>D (i,f)
def aj5(G:ai)(N:Nat)(a:aa)(H:af):aB Tryz.f213 G N (aO [a]) H=AX G a H:=by
 refine aT (A:=aB Tryz.f213 G N) (aj _) ?_;delta AX;kernel_rfl
def AY(G:ai)(a b:aa)(H:af):O:=ad (al P .quo 3 V b (I J 64)) λc=>ad (aL a) λj=>ad (aH P 233 j c) λk=>ad (ah P H 231 k) λl=>ad (al P .rem 3 V b (I J 64)) λe=>ad (al P .shl 231 V (I .u64 1) e) λf=>ad (al P .or 231 U l f) λg=>ad (aL a) λh=>ad (aH P 233 h c) λi=>aF H (aC P H 231 i g) λd=>D (.tuple [],d)
def aj6(G:ai)(N:Nat)(a:aa)(b:aa)(H:af):aB Tryz.f214 G N (aO [a,b]) H=AY G a b H:=by
 refine aT (A:=aB Tryz.f214 G N) (aj _) ?_;delta AY;kernel_rfl
def Bl(G:ai)(a w q:aa)(H:af):O:=aw H (G 290 [a,w,q] H) λx j=>aw j (G 207 [a,I J 22,x] j) λM c=>ad (aL a) λn=>ad (ak P 220 n 6) λh=>ad (ah P c 35 h) λo=>ad (aL a) λp=>ad (ak P 220 p 4) λi=>ad (ah P c 44 i) λf=>bE (a6 P .empty .len [44] [f]) (a6 P c .len [44] [f]) λe=>kW (e.heap c) (bd P ((e.heap c)).next 35 1 [(0,e.val)]) λr b k=>aw k (bx P k [35,35] o r) λs g=>ad (aL a) λt=>ad (ak P 220 t 6) λu=>h7 g (aC P g 35 u s) λy d=>bif dF [0,0,2,6,14,0,32,96,224,480,992,2046,4095,8191,16383] [5,6,7,8,9,10,11,12,13,14] [⟨1,.pure a,λH=>Y⟩,⟨2,.pure n,λH=>Y⟩,⟨3,.pure h,λH=>Y⟩,⟨4,.read o,λH=>ah P H 35 h⟩,⟨5,.pure a,λH=>Y⟩,⟨6,.pure p,λH=>Y⟩,⟨7,.pure i,λH=>Y⟩,⟨8,.read f,λH=>ah P H 44 i⟩,⟨9,e,λH=>a6 P H .len [44] [f]⟩,⟨10,.new r b,λH=>Y⟩,⟨11,.bs s g,λH=>Y⟩,⟨0,.pure a,λH=>Y⟩,⟨12,.pure t,λH=>Y⟩,⟨13,.pure u,λH=>Y⟩,⟨14,.bs y d,λH=>Y⟩] c then(ad (aL a) λz=>ad (ak P 220 z 4) λA=>ad (ah P d 44 A) λB=>ad (bo P 75 [(0,(I J 16)),(4,q)]) λC=>aK d (bd P (d).next 44 1 [(0,C)]) λE l=>aw l (bx P l [44,44] B E) λF m=>ad (aL a) λK=>ad (ak P 220 K 4) λL=>aF m (aC P m 44 L F) λv=>D (.tuple [],v))else Y
def alh(G:ai)(N:Nat)(a:aa)(b:aa)(c:aa)(H:af):aB Tryz.f242 G N (aO [a,b,c]) H=Bl G a b c H:=by
 refine aT (A:=aB Tryz.f242 G N) (aj _) ?_;delta Bl;kernel_rfl
def Bm(G:ai)(a p B:aa)(H:af):O:=aK H (bl (H).next B) λn b=>ad (aL a) λT=>ad (ak P 220 T 4) λW=>ad (ah P b 44 W) λw=>a1 P .len [44] [w] b λi=>ad (aL a) λx=>ad (ak P 220 x 4) λj=>ad (ah P b 44 j) λk=>ad (ak P 75 n 1) λz=>ad (ah P b 3 z) λA=>ad (al P .add 3 V i (I J 1)) λC=>ad (bo P 75 [(0,(I J 17)),(1,A),(4,C)]) λE=>aK b (bd P (b).next 44 1 [(0,E)]) λF g=>aw g (bx P g [44,44] k F) λK o=>ad (aL a) λL=>ad (ak P 220 L 4) λM=>aF o (aC P o 44 M K) λh=>bif ((aJ (ah P b 44 j) k&&(aJ (ah P g 44 j) k&&V))&&V)then(ad (ak P 75 n 4) λN=>ad (ah P h 3 N) λQ=>aw h (G 242 [a,p,Q] h) λab c=>ad (aL a) λq=>ad (ak P 220 q 4) λl=>ad (ah P c 44 l) λr=>ad (aL a) λs=>ad (ak P 220 s 4) λm=>ad (ah P c 44 m) λf=>bE (a6 P .empty .len [44] [f]) (a6 P c .len [44] [f]) λe=>ad (aH P 44 r i) λt=>ad (ak P 75 t 3) λu=>h7 (e.heap c) (aC P (e.heap c) 3 u e.val) λy d=>bif dF [0,1,3,7,0,0,32,96,224,480,1023,2047,4095] [0,1,2,3,4,5,6,7,8,9,10,11,12] [⟨0,.pure a,λH=>Y⟩,⟨1,.pure q,λH=>Y⟩,⟨2,.pure l,λH=>Y⟩,⟨3,.read r,λH=>ah P H 44 l⟩,⟨4,.pure i,λH=>Y⟩,⟨5,.pure a,λH=>Y⟩,⟨6,.pure s,λH=>Y⟩,⟨7,.pure m,λH=>Y⟩,⟨8,.read f,λH=>ah P H 44 m⟩,⟨9,e,λH=>a6 P H .len [44] [f]⟩,⟨10,.pure t,λH=>Y⟩,⟨11,.pure u,λH=>Y⟩,⟨12,.bs y d,λH=>Y⟩] c then(ad (ak P 75 n 3) λR=>ad (ah P d 3 R) λS=>aw d (G 242 [a,p,S] d) λae v=>D (.tuple [],v))else Y)else Y
def ali(G:ai)(N:Nat)(a:aa)(b:aa)(c:aa)(H:af):aB Tryz.f243 G N (aO [a,b,c]) H=Bm G a b c H:=by
 refine aT (A:=aB Tryz.f243 G N) (aj _) ?_;delta Bm;kernel_rfl
def uo(G:ai)(b k f:aa)(H:af):O:=ad (ak P 75 f 5) λm=>ad (ah P H 35 m) λn=>aw H (G 104 [n] H) λo g=>ad (ak P 75 f 5) λp=>aF g (aC P g 35 p o) λa=>ad (aL b) λq=>ad (ak P 220 q 4) λd=>ad (ah P a 44 d) λe=>ad (ah P a 75 f) λr=>aK a (bd P (a).next 44 1 [(0,r)]) λs c=>aw c (bx P c [44,44] e s) λt h=>ad (aL b) λu=>ad (ak P 220 u 4) λv=>aF h (aC P h 44 v t) λi=>bif ((aJ (ah P a 44 d) e&&(aJ (ah P c 44 d) e&&V))&&V)then(ad (al P .add 3 V k (I J 1)) λw=>aw i (G 290 [b,k,w] i) λx j=>aw j (G 207 [b,I J 22,x] j) λy l=>D (.tuple [],l))else Y
def alk(G:ai)(N:Nat):∀C H,aD P G N (ae (ae (ae (aG Tryz.f244)))) (ax Tryz.f244) [] (ax Tryz.f244) C H=uo G (C 0) (C 1) (C 5) H:=by
 refine aI (aj _) λC H=> ?_
 delta uo;kernel_rfl
def Bn(G:ai)(c f q:aa)(H:af):O:=aK H (bl (H).next q) λb d=>ad (aL c) λC=>ad (ak P 220 C 3) λE=>ad (ah P d 30 E) λk=>ad (aH P 30 k f) λl=>ad (ah P d 35 l) λm=>aw d (G 207 [c,I J 21,m] d) λF g=>ad (ak P 75 b 0) λn=>ad (ah P g 3 n) λo=>ad (al P .eql 3 V o (I J 11)) λe=>au e U g (aE (ak P 75 b 0)) λp h=>au e U h (qr (ah P h 3 p)) λr i=>au e U i (aE (al P .eql 3 V r (I J 12))) λs a=>ad (aU e (D (Z V)) (D s)) λt=>ay (D t) (ad (aL c) λu=>ad (ak P 220 u 1) λv=>ad (ah P a 35 v) λw=>ad (ak P 75 b 4) λx=>ad (ah P a 3 x) λy=>ad (aH P 35 w y) λz=>ad (ah P a 3 z) λA=>ad (ak P 75 b 4) λB=>aF a (aC P a 3 B A) λj=>uo G c f b j) (uo G c f b a)
def alj(G:ai)(N:Nat)(b:aa)(c:aa)(d:aa)(H:af):aB Tryz.f244 G N (aO [b,c,d]) H=Bn G b c d H:=by
 refine aT (A:=aB Tryz.f244 G N) ((ar j ((ar j ((ar j (alk G N) (aj _))) (aj _))) (aj _))) ?_;delta Bn;generalize uo G=a;revert a;refine id ?_;intro a;kernel_rfl
def Bo(G:ai)(d i:aa)(H:af):O:=ad (al P .lss 3 V d (I J 0)) λa=>au a U H (aV d) λm f=>au a U f (aE (ak P 46 i 4)) λn b=>au a U b (qr (ah P b 44 n)) λe c=>au a U c (λq=>bE (a6 P .empty .len [44] [e]) (a6 P c .len [44] [e]) q) λj g=>au a U g (aE (al P .geq 3 U m j)) λk h=>ad (aU a (D (Z V)) (D k)) λl=>D (l,h)
def alm(G:ai)(N:Nat)(a:aa)(b:aa)(H:af):aB Tryz.f245 G N (aO [a,b]) H=Bo G a b H:=by
 refine aT (A:=aB Tryz.f245 G N) (aj _) ?_;delta Bo;kernel_rfl
def Bp(G:ai)(b:aa)(H:af):O:=ad (al P .geq 3 V b (I J 0)) λa=>au a V H (aV b) λe c=>au a V c (aE (al P .lss 3 V e (I J 4000))) λf d=>ad (aU a (D f) (D (Z U))) λg=>D (g,d)
def aln(G:ai)(N:Nat)(a:aa)(H:af):aB Tryz.f246 G N (aO [a]) H=Bp G a H:=by
 refine aT (A:=aB Tryz.f246 G N) (aj _) ?_;delta Bp;kernel_rfl
def j6(G:ai)(H:af):O:=some (aa.ao,H)
def alp(G:ai)(N:Nat):∀C H,aD P G N (ae (ae (aG Tryz.f247))) (ax Tryz.f247) [] (ax Tryz.f247) C H=j6 G H:=by
 refine aI (aj _) λC H=> ?_
 delta j6;kernel_rfl
def na(G:ai)(b c:aa)(H:af):O:=ay (D c) (ad (ak P 75 b 1) λd=>ad (ah P H 3 d) λe=>aK H (bd P (H).next 35 1 [(0,e)]) λf a=>D (f,a)) (j6 G H)
def als(G:ai)(N:Nat):∀C H,aD P G N (ae (ae (ae (ae (ae (ae (ae (ae (ae (ae (ae (aq (ae (aq (ae (aG Tryz.f247)))))))))))))))) (λC H=>j6 G H) [(0,(λC H=>j6 G H))] (ax Tryz.f247) C H=na G (C 1) (C 43) H:=by
 refine aI (aj _) λC H=> ?_
 delta na;generalize j6 G=a;revert a;refine id ?_;intro a;kernel_rfl
def uq(G:ai)(a c g:aa)(H:af):O:=ay (D g) (ad (ak P 75 a 2) λh=>ad (ah P H 3 h) λi=>ad (ak P 75 a 3) λj=>ad (ah P H 3 j) λk=>aK H (bd P (H).next 35 2 [(0,i),(1,k)]) λl b=>D (l,b)) (ad (al P .eql 3 V c (I J 7)) λm=>ay (D m) (ad (ak P 75 a 1) λn=>ad (ah P H 3 n) λo=>ad (ak P 75 a 2) λp=>ad (ah P H 3 p) λq=>aK H (bd P (H).next 35 2 [(0,o),(1,q)]) λr b=>D (r,b)) (ad (al P .eql 3 V c (I J 9)) λs=>ay (D s) (ad (ak P 75 a 1) λt=>ad (ah P H 3 t) λu=>ad (ak P 75 a 2) λv=>ad (ah P H 3 v) λw=>ad (ak P 75 a 3) λx=>ad (ah P H 3 x) λy=>aK H (bd P (H).next 35 3 [(0,u),(1,w),(2,y)]) λz b=>D (z,b)) (ad (al P .eql 3 V c (I J 13)) λA=>ay (D A) (ad (ak P 75 a 5) λB=>ad (ah P H 35 B) λC=>aw H (G 104 [C] H) λE b=>D (E,b)) (ad (al P .eql 3 V c (I J 15)) λd=>ay (D d) (na G a d H) (ad (al P .eql 3 V c (I J 17)) λe=>ay (D e) (na G a e H) (ad (al P .eql 3 V c (I J 18)) λf=>ay (D f) (na G a f H) (ad (al P .eql 3 V c (I J 20)) λF=>na G a F H)))))))
def alr(G:ai)(N:Nat):∀C H,aD P G N (ae (ae (ae (aq (ae (aq (ae (aG Tryz.f247)))))))) (λC H=>j6 G H) [(0,(λC H=>j6 G H))] (ax Tryz.f247) C H=uq G (C 1) (C 4) (C 14) H:=by
 refine aI ((bz j (aj _) ((ar j ((bz j (aj _) ((ar j ((bz j (aj _) ((ar j ((bz j (aj _) ((ar j (als G N) (aj _))))) (aj _))))) (aj _))))) (aj _))))) λC H=> ?_
 delta uq;generalize na G=a;revert a;refine id ?_;intro a;kernel_rfl
def l4(G:ai)(b a i:aa)(H:af):O:=ay (D i) (ad (ak P 75 b 2) λe=>ad (ah P H 3 e) λf=>aK H (bd P (H).next 35 1 [(0,f)]) λg d=>D (g,d)) (ad (al P .eql 3 V a (I J 4)) λc=>ay (D c) (uq G b a c H) (ad (al P .eql 3 V a (I J 8)) λh=>uq G b a h H))
def alq(G:ai)(N:Nat):∀C H,aD P G N (ae (aq (ae (aq (ae (aG Tryz.f247)))))) (λC H=>j6 G H) [(0,(λC H=>j6 G H))] (ax Tryz.f247) C H=l4 G (C 1) (C 4) (C 5) H:=by
 refine aI ((bz j (aj _) ((ar j (alr G N) (aj _))))) λC H=> ?_
 delta l4;generalize uq G=a;revert a;refine id ?_;intro a;kernel_rfl
def Bq(G:ai)(h:aa)(H:af):O:=aK H (bl (H).next h) λc b=>ad (ak P 75 c 0) λj=>ad (ah P b 3 j) λa=>ad (al P .eql 3 V a (I J 3)) λd=>ay (D d) (l4 G c a d b) (ad (al P .eql 3 V a (I J 5)) λe=>ay (D e) (l4 G c a e b) (ad (al P .eql 3 V a (I J 6)) λf=>ay (D f) (l4 G c a f b) (ad (al P .eql 3 V a (I J 10)) λg=>ay (D g) (l4 G c a g b) (ad (al P .eql 3 V a (I J 12)) λi=>l4 G c a i b))))
def alo(G:ai)(N:Nat)(b:aa)(H:af):aB Tryz.f247 G N (aO [b]) H=Bq G b H:=by
 refine aT (A:=aB Tryz.f247 G N) ((ar j ((ar j (alp G N) ((ar j ((aX j ((ar j (alq G N) (aj _))))) (aj _))))) (aj _))) ?_;delta Bq;generalize l4 G=a;revert a;refine id ?_;intro a;kernel_rfl
def Br(G:ai)(b:aa)(H:af):O:=aw H (G 246 [b] H) λc a=>ad (bu .not c) λd=>D (d,a)
def alu(G:ai)(N:Nat)(a:aa)(H:af):aB Tryz.f248 G N (aO [a]) H=Br G a H:=by
 refine aT (A:=aB Tryz.f248 G N) (aj _) ?_;delta Br;kernel_rfl
def B8(G:ai)(k i t:aa)(H:af):O:=aK H (bl (H).next k) λb c=>aK c (bl (c).next t) λC a=>ad (ah P a 218 b) λE=>ad (aL E) λF=>ad (ak P 220 F 2) λl=>ad (ah P a 30 l) λm=>ad (aH P 30 m i) λn=>ad (ah P a 35 n) λo=>ad (ah P a 218 b) λp=>ad (aL p) λq=>ad (ak P 220 q 3) λr=>ad (ah P a 30 r) λs=>ad (aH P 30 s i) λu=>ad (ah P a 35 u) λv=>aK a (bd P (a).next 30 2 [(0,o),(1,v)]) λw d=>aw d (G 110 [w] d) λx e=>aw e (G 109 [x] e) λy f=>aw f (G 108 [y] f) λz g=>aw g (G 107 [z] g) λA h=>aw h (G 103 [A,(.func (.func 320) [] [b,C])] h) λB j=>D (B,j)
def anG(G:ai)(N:Nat)(a:aa)(b:aa)(c:aa)(H:af):aB Tryz.f290 G N (aO [a,b,c]) H=B8 G a b c H:=by
 refine aT (A:=aB Tryz.f290 G N) (aj _) ?_;delta B8;kernel_rfl
def CB(G:ai)(b c g:aa)(H:af):O:=ad (ah P H 218 c) λh=>ad (aL h) λi=>ad (ak P 220 i 2) λj=>ad (ah P H 30 j) λk=>ad (ah P H 3 g) λl=>ad (aH P 30 k l) λd=>ad (ah P H 35 d) λe=>aw H (G 106 [e,b] H) λf a=>D (f,a)
def aoC(G:ai)(N:Nat)(a:aa)(b:aa)(c:aa)(H:af):aB Tryz.f320 G N (aO [a,b,c]) H=CB G a b c H:=by
 refine aT (A:=aB Tryz.f320 G N) (aj _) ?_;delta CB;kernel_rfl
