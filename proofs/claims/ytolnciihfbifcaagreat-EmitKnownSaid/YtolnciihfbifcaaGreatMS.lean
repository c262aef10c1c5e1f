/-
  Texts of one proof, laid together: ShS.
-/
import Derived.Test.YtolnciihfbifcaaGreatME
set_option linter.unusedVariables false
set_option linter.unusedSimpArgs false
set_option linter.defProp false
open Option renaming some→D,none→Y
open Bool renaming true→V,false→U
open Go.cV.aa renaming int→I,str→X,bool→Z
open Go.IntKind renaming i64→J
namespace Go.Proofs.YtolnciihfbifcaaGreat
open Go.cV
set_option maxRecDepth 100000
noncomputable section
def Af(G:ai)(b:aa)(H:af):O:=a1 P .len [35] [b] H λc=>ka P 3 281 c H λe=>aw H (G 217 [e] H) λf a=>aw a (G 216 [b,I J 0,c,f] a) λg d=>D (.tuple [],d)
def aih(G:ai)(N:Nat)(a:aa)(H:af):aB Tryz.f164 G N (aO [a]) H=Af G a H:=by
 refine aT (A:=aB Tryz.f164 G N) (aj _) ?_;delta Af;kernel_rfl
def tx(G:ai)(N:Nat)(t:aa->aa->aa->aa->aa->aa->af->O)(j l:aa)(r s:aa)(Q R:aa)(C v:aa)(H:af):O:=ad (al P .gtr 3 V l (I J 0)) λa=>aM a V (aV j) λc=>aM a V (aV l) λd=>aM a V (aE (al P .sub 3 V d.val (I J 1))) λe=>aM a V (aE (aH P 35 c.val e.val)) λb=>aM a V (qr (ah P (b.heap (e.heap (d.heap (c.heap H)))) 3 b.val)) λg=>aM a V (aV j) λh=>aM a V (aV v) λi=>aM a V (aE (aH P 35 h.val i.val)) λf=>aM a V (qr (ah P (f.heap (i.heap (h.heap (g.heap (b.heap (e.heap (d.heap (c.heap H)))))))) 3 f.val)) λk=>aM a V (λq=>bq (k.heap (f.heap (i.heap (h.heap (g.heap (b.heap (e.heap (d.heap (c.heap H))))))))) (G 255 [g.val,k.val] (k.heap (f.heap (i.heap (h.heap (g.heap (b.heap (e.heap (d.heap (c.heap H)))))))))) q) λo=>aM a V (aE (bu .not o.val)) λn=>ad (aU a (D n.val) (D (Z U))) λA=>bif dF [0,1,3,7,7,23,63,127,7,7,775,1799,4095,8191,16383] [0,1,2,3,4,5,6,7,8,9,10,11,12,13,14] [⟨0,.pure l,λH=>Y⟩,⟨1,.pure a,λH=>Y⟩,⟨2,.pure a,λH=>Y⟩,⟨3,c,λH=>Y⟩,⟨4,d,λH=>Y⟩,⟨5,e,λH=>Y⟩,⟨6,b,λH=>Y⟩,⟨7,g,λH=>ah P H 3 b.val⟩,⟨8,h,λH=>Y⟩,⟨9,i,λH=>Y⟩,⟨10,f,λH=>Y⟩,⟨11,k,λH=>ah P H 3 f.val⟩,⟨12,o,λH=>Y⟩,⟨13,n,λH=>Y⟩,⟨14,.pure A,λH=>Y⟩] H then(ay (D A) (aw (n.heap (o.heap (k.heap (f.heap (i.heap (h.heap (g.heap (b.heap (e.heap (d.heap (c.heap H))))))))))) (G 256 [j,l,r,v] (n.heap (o.heap (k.heap (f.heap (i.heap (h.heap (g.heap (b.heap (e.heap (d.heap (c.heap H)))))))))))) λS m=>t j S r s Q R m) (aw (n.heap (o.heap (k.heap (f.heap (i.heap (h.heap (g.heap (b.heap (e.heap (d.heap (c.heap H))))))))))) (G 257 [j,l,r,v] (n.heap (o.heap (k.heap (f.heap (i.heap (h.heap (g.heap (b.heap (e.heap (d.heap (c.heap H)))))))))))) λB m=>ad (bJ B 0) λp=>ad (bJ B 1) λw=>ad (al P .sub 3 U p l) λx=>ad (al P .sub 3 U r p) λy=>ad (al P .quo 3 V C (I J 8)) λz=>ad (al P .lss 3 U x y) λE=>ay (D E) (ad (al P .geq 3 U x z) λF=>aw m (G 216 [j,l,p,s] m) λT u=>ad (al P .add 3 V p (I J 1)) λK=>t j K r s F w u) (ad (al P .geq 3 U y z) λL=>ad (al P .add 3 V p (I J 1)) λM=>aw m (G 216 [j,M,r,s] m) λW u=>t j l p s L w u)))else Y
def aka(G:ai)(N:Nat)(a:aa->aa->aa->aa->aa->aa->af->O):∀C H,aD P G N (ae (ae (ae (ae (ae (ae (ae (aq (aq (aq (ae (ae (aG Tryz.f216))))))))))))) (λC H=>a (C 0) (C 1) (C 2) (C 3) (C 8) (C 9) H) [(1,(λC H=>a (C 0) (C 1) (C 2) (C 3) (C 8) (C 9) H)),(0,(ax Tryz.f216))] (ax Tryz.f216) C H=tx G N a (C 0) (C 1) (C 2) (C 3) (C 8) (C 9) (C 10) (C 11) H:=by
 refine aI (aj _) λC H=> ?_
 delta tx;kernel_rfl
def tw(G:ai)(N:Nat)(h:aa->aa->aa->aa->aa->aa->af->O)(c d:aa)(e l:aa)(a g:aa)(j k o:aa)(H:af):O:=au a V H (aV g) λp m=>ad (aU a (D p) (D (Z U))) λf=>au f V m (aV o) λq n=>au f V n (aE (al P .eql 305 V q (I J 1))) λr b=>ad (aU f (D r) (D (Z U))) λs=>ay (D s) (aw b (G 254 [c,d,e] b) λt i=>ay (D t) (D (.tuple [],i)) (tx G N h c d e l a g j k i)) (tx G N h c d e l a g j k b)
def aj_(G:ai)(N:Nat)(a:aa->aa->aa->aa->aa->aa->af->O):∀C H,aD P G N (ae (ae (ae (ae (ae (ae (aq (aq (aq (ae (ae (aG Tryz.f216)))))))))))) (λC H=>a (C 0) (C 1) (C 2) (C 3) (C 8) (C 9) H) [(1,(λC H=>a (C 0) (C 1) (C 2) (C 3) (C 8) (C 9) H)),(0,(ax Tryz.f216))] (ax Tryz.f216) C H=tw G N a (C 0) (C 1) (C 2) (C 3) (C 8) (C 9) (C 10) (C 11) (C 12) H:=by
 refine aI ((ar j (aka G N a) (aj _))) λC H=> ?_
 delta tw;generalize tx G N a=b;revert b;refine id ?_;intro b;kernel_rfl
def tv(G:ai)(N:Nat)(e:aa->aa->aa->aa->aa->aa->af->O)(c a:aa)(b g:aa)(k l f:aa)(H:af):O:=aw H (G 252 [c,a,b] H) λh d=>ad (bJ h 0) λi=>ad (bJ h 1) λj=>ad (al P .eql 305 V j (I J 2)) λn=>ay (D n) (aw d (G 253 [c,a,b] d) λr m=>ad (al P .sub 3 V b (I J 1)) λo=>ad (al P .sub 3 U i a) λp=>ad (al P .sub 3 U o p) λq=>tw G N e c a b g k l f q (I J 1) m) (tw G N e c a b g k l f i j d)
def aj9(G:ai)(N:Nat)(a:aa->aa->aa->aa->aa->aa->af->O):∀C H,aD P G N (ae (ae (ae (ae (aq (aq (aq (ae (ae (aG Tryz.f216)))))))))) (λC H=>a (C 0) (C 1) (C 2) (C 3) (C 8) (C 9) H) [(1,(λC H=>a (C 0) (C 1) (C 2) (C 3) (C 8) (C 9) H)),(0,(ax Tryz.f216))] (ax Tryz.f216) C H=tv G N a (C 0) (C 1) (C 2) (C 3) (C 8) (C 9) (C 10) H:=by
 refine aI ((ar j ((ar j (aj_ G N a) (aj _))) (aj _))) λC H=> ?_
 delta tv;generalize tw G N a=b;revert b;refine id ?_;intro b;kernel_rfl
def Gw(G:ai)(N:Nat)(h:aa->aa->aa->aa->aa->aa->af->O)(d a:aa)(b f:aa)(g i:aa)(H:af):O:=ad (al P .sub 3 U b a) λe=>ad (al P .leq 3 V e (I J 12)) λj=>ay (D j) (aw H (G 249 [d,a,b] H) λn c=>D (.tuple [],c)) (ad (al P .eql 3 V f (I J 0)) λk=>ay (D k) (aw H (G 250 [d,a,b] H) λo c=>D (.tuple [],c)) (ad (bu .not g) λl=>ay (D l) (aw H (G 251 [d,a,b] H) λp c=>ad (al P .sub 3 V f (I J 1)) λm=>tv G N h d a b m g i e c) (tv G N h d a b f g i e H)))
def tz(G:ai)(N:Nat):Nat->aa->aa->aa->aa->aa->aa->af->O
 |0,_,_,_,_,_,_,_=>Y
 |n+1,a,b,c,d,e,f,H=>Gw G N (tz G N n) a b c d e f H
def aj7(G:ai)(N:Nat)(a:aa->aa->aa->aa->aa->aa->af->O):∀C H,aD P G N (aq (aq (ae (ae (aG Tryz.f216))))) (λC H=>a (C 0) (C 1) (C 2) (C 3) (C 8) (C 9) H) [(0,(ax Tryz.f216))] (ax Tryz.f216) C H=Gw G N a (C 0) (C 1) (C 2) (C 3) (C 8) (C 9) H:=by
 refine aI ((aX j ((ar j ((ar j ((ar j ((ar j (aj9 G N a) (aj _))) (aj _))) (aj _))) (aj _))))) λC H=> ?_
 delta Gw;generalize tv G N a=b;revert b;refine id ?_;intro b;kernel_rfl
def AZ(G:ai)(N:Nat)(a b:aa)(c d:aa)(H:af):O:=tz G N N a b c d (Z V) (Z V) H
def aj8(G:ai)(N:Nat)(b:aa)(c:aa)(d:aa)(e:aa)(H:af):aB Tryz.f216 G N (aO [b,c,d,e]) H=AZ G N b c d e H:=by
 refine aT (A:=aB Tryz.f216 G N) ((ar j ((ar j ((aX j ((a_ (k:=λm C H=>tz G N m (C 0) (C 1) (C 2) (C 3) (C 8) (C 9) H) j (λC H=>j) (λm=>aj7 G N (tz G N m)))))) (aj _))) (aj _))) ?_;delta AZ;generalize tz G N N=a;revert a;refine id ?_;intro a;kernel_rfl
def pd(G:ai)(N:Nat)(a:aa->aa->aa->aa->af->O)(b c:aa)(e f:aa)(H:af):O:=ad (al P .add 3 V f (I J 1)) λd=>a b c e d H
def aly(G:ai)(N:Nat)(a:aa->aa->aa->aa->af->O):∀C H,aD P G N (ae (ae (aq (aq (ae (aG Tryz.f249)))))) (λC H=>a (C 0) (C 1) (C 2) (C 6) H) [(0,(ax Tryz.f249))] (ax Tryz.f249) C H=pd G N a (C 0) (C 1) (C 2) (C 6) H:=by
 refine aI (aj _) λC H=> ?_
 delta pd;kernel_rfl
def GS(G:ai)(N:Nat)(t:aa->aa->aa->aa->af->O)(u:aa->aa->aa->aa->aa->af->O)(l n:aa)(p s k:aa)(H:af):O:=ad (al P .gtr 3 U k n) λa=>aM a V (aV l) λc=>aM a V (aV k) λd=>aM a V (aE (aH P 35 c.val d.val)) λb=>aM a V (qr (ah P (b.heap (d.heap (c.heap H))) 3 b.val)) λf=>aM a V (aV l) λg=>aM a V (aV k) λh=>aM a V (aE (al P .sub 3 V h.val (I J 1))) λi=>aM a V (aE (aH P 35 g.val i.val)) λe=>aM a V (qr (ah P (e.heap (i.heap (h.heap (g.heap (f.heap (b.heap (d.heap (c.heap H)))))))) 3 e.val)) λj=>aM a V (λq=>bq (j.heap (e.heap (i.heap (h.heap (g.heap (f.heap (b.heap (d.heap (c.heap H))))))))) (G 255 [f.val,j.val] (j.heap (e.heap (i.heap (h.heap (g.heap (f.heap (b.heap (d.heap (c.heap H)))))))))) q) λm=>ad (aU a (D m.val) (D (Z U))) λr=>bif dF [0,0,3,7,15,15,63,127,15,15,527,1807,3855,8191,16383] [0,1,2,3,4,5,6,7,8,9,10,11,12,13,14] [⟨0,.pure k,λH=>Y⟩,⟨1,.pure n,λH=>Y⟩,⟨2,.pure a,λH=>Y⟩,⟨3,.pure a,λH=>Y⟩,⟨4,c,λH=>Y⟩,⟨5,d,λH=>Y⟩,⟨6,b,λH=>Y⟩,⟨7,f,λH=>ah P H 3 b.val⟩,⟨8,g,λH=>Y⟩,⟨9,h,λH=>Y⟩,⟨10,i,λH=>Y⟩,⟨11,e,λH=>Y⟩,⟨12,j,λH=>ah P H 3 e.val⟩,⟨13,m,λH=>Y⟩,⟨14,.pure r,λH=>Y⟩] H then(ay (D r) (ad (al P .sub 3 V k (I J 1)) λy=>ad (aH P 35 l y) λz=>ad (ah P (m.heap (j.heap (e.heap (i.heap (h.heap (g.heap (f.heap (b.heap (d.heap (c.heap H)))))))))) 3 z) λA=>ad (aH P 35 l k) λB=>ad (ah P (m.heap (j.heap (e.heap (i.heap (h.heap (g.heap (f.heap (b.heap (d.heap (c.heap H)))))))))) 3 B) λC=>ad (aH P 35 l k) λE=>aF (m.heap (j.heap (e.heap (i.heap (h.heap (g.heap (f.heap (b.heap (d.heap (c.heap H)))))))))) (aC P (m.heap (j.heap (e.heap (i.heap (h.heap (g.heap (f.heap (b.heap (d.heap (c.heap H)))))))))) 3 E A) λo=>ad (al P .sub 3 V k (I J 1)) λx=>ad (aH P 35 l x) λF=>aF o (aC P o 3 F C) λv=>ad (al P .sub 3 V k (I J 1)) λw=>u l n p s w v) (pd G N t l n p s (m.heap (j.heap (e.heap (i.heap (h.heap (g.heap (f.heap (b.heap (d.heap (c.heap H))))))))))))else Y
def uu(G:ai)(N:Nat)(a:aa->aa->aa->aa->af->O):Nat->aa->aa->aa->aa->aa->af->O
 |0,_,_,_,_,_,_=>Y
 |n+1,b,c,d,e,f,H=>GS G N a (uu G N a n) b c d e f H
def alw(G:ai)(N:Nat)(a:aa->aa->aa->aa->af->O)(c:aa->aa->aa->aa->aa->af->O):∀C H,aD P G N (aq (aq (ae (aq (aq (ae (aq (aq (ae (aG Tryz.f249)))))))))) (λC H=>c (C 0) (C 1) (C 2) (C 6) (C 7) H) [(2,(λC H=>pd G N a (C 0) (C 1) (C 2) (C 6) H)),(1,(λC H=>pd G N a (C 0) (C 1) (C 2) (C 6) H)),(0,(ax Tryz.f249))] (ax Tryz.f249) C H=GS G N a c (C 0) (C 1) (C 2) (C 6) (C 7) H:=by
 refine aI (aj _) λC H=> ?_
 delta GS;generalize pd G N a=b;revert b;refine id ?_;intro b;kernel_rfl
def GR(G:ai)(N:Nat)(c:aa->aa->aa->aa->af->O)(d e:aa)(b a:aa)(H:af):O:=ad (al P .lss 3 U a b) λf=>ay (D f) (uu G N c N d e b a a H) (D (.tuple [],H))
def ur(G:ai)(N:Nat):Nat->aa->aa->aa->aa->af->O
 |0,_,_,_,_,_=>Y
 |n+1,a,b,c,d,H=>GR G N (ur G N n) a b c d H
def alv(G:ai)(N:Nat)(a:aa->aa->aa->aa->af->O):∀C H,aD P G N (aq (aq (ae (aG Tryz.f249)))) (λC H=>a (C 0) (C 1) (C 2) (C 6) H) [(0,(ax Tryz.f249))] (ax Tryz.f249) C H=GR G N a (C 0) (C 1) (C 2) (C 6) H:=by
 refine aI ((ar j ((ar j (aly G N a) ((aX j ((ar j ((aX j ((a_ (k:=λm C H=>uu G N a m (C 0) (C 1) (C 2) (C 6) (C 7) H) j (λC H=>j) (λm=>alw G N a (uu G N a m)))))) (aj _))))))) (aj _))) λC H=> ?_
 delta GR;generalize uu G N a N=b;revert b;refine id ?_;intro b;kernel_rfl
def Bs(G:ai)(N:Nat)(b a c:aa)(H:af):O:=ad (al P .add 3 V a (I J 1)) λd=>ur G N N b a c d H
def alx(G:ai)(N:Nat)(b:aa)(c:aa)(d:aa)(H:af):aB Tryz.f249 G N (aO [b,c,d]) H=Bs G N b c d H:=by
 refine aT (A:=aB Tryz.f249 G N) ((ar j ((aX j ((a_ (k:=λm C H=>ur G N m (C 0) (C 1) (C 2) (C 6) H) j (λC H=>j) (λm=>alv G N (ur G N m)))))) (aj _))) ?_;delta Bs;generalize ur G N N=a;revert a;refine id ?_;intro a;kernel_rfl
def GU(G:ai)(N:Nat)(g:aa->aa->aa->aa->af->O)(a b:aa)(f c:aa)(H:af):O:=ad (al P .geq 3 V c (I J 0)) λi=>ay (D i) (ad (al P .add 3 U b c) λl=>ad (aH P 35 a l) λm=>ad (ah P H 3 m) λn=>ad (aH P 35 a b) λo=>ad (ah P H 3 o) λp=>ad (aH P 35 a b) λq=>aF H (aC P H 3 q n) λd=>ad (al P .add 3 U b c) λk=>ad (aH P 35 a k) λr=>aF d (aC P d 3 r p) λe=>aw e (G 291 [a,f,c,b] e) λs h=>ad (al P .sub 3 V c (I J 1)) λj=>g a b f j h) (D (.tuple [],H))
def ux(G:ai)(N:Nat):Nat->aa->aa->aa->aa->af->O
 |0,_,_,_,_,_=>Y
 |n+1,a,c,d,b,H=>GU G N (ux G N n) a c d b H
def alz(G:ai)(N:Nat)(a:aa->aa->aa->aa->af->O):∀C H,aD P G N (aq (aq (ae (ae (ae (ae (ae (aG Tryz.f250)))))))) (λC H=>a (C 0) (C 6) (C 7) (C 10) H) [(2,(ax Tryz.f250))] (ax Tryz.f250) C H=GU G N a (C 0) (C 6) (C 7) (C 10) H:=by
 refine aI (aj _) λC H=> ?_
 delta GU;kernel_rfl
def uw(G:ai)(N:Nat)(a c:aa)(d e:aa)(H:af):O:=ad (al P .sub 3 V e (I J 1)) λb=>ux G N N a c d b H
def alC(G:ai)(N:Nat):∀C H,aD P G N (ae (ae (ae (ae (aG Tryz.f250))))) (ax Tryz.f250) [] (ax Tryz.f250) C H=uw G N (C 0) (C 6) (C 7) (C 8) H:=by
 refine aI ((ar j ((aX j ((a_ (k:=λm C H=>ux G N m (C 0) (C 6) (C 7) (C 10) H) j (λC H=>j) (λm=>alz G N (ux G N m)))))) (aj _))) λC H=> ?_
 delta uw;generalize ux G N N=a;revert a;refine id ?_;intro a;kernel_rfl
def GV(G:ai)(N:Nat)(f:aa->aa->aa->aa->aa->af->O)(a b:aa)(e c d:aa)(H:af):O:=ad (al P .geq 3 V d (I J 0)) λh=>ay (D h) (aw H (G 291 [a,d,c,b] H) λj g=>ad (al P .sub 3 V d (I J 1)) λi=>f a b e c i g) (uw G N a b e c H)
def uy(G:ai)(N:Nat):Nat->aa->aa->aa->aa->aa->af->O
 |0,_,_,_,_,_,_=>Y
 |n+1,a,b,c,d,e,H=>GV G N (uy G N n) a b c d e H
def alA(G:ai)(N:Nat)(b:aa->aa->aa->aa->aa->af->O):∀C H,aD P G N (aq (aq (ae (aq (ae (ae (ae (aG Tryz.f250)))))))) (λC H=>b (C 0) (C 6) (C 7) (C 8) (C 9) H) [(0,(λC H=>uw G N (C 0) (C 6) (C 7) (C 8) H))] (ax Tryz.f250) C H=GV G N b (C 0) (C 6) (C 7) (C 8) (C 9) H:=by
 refine aI (aj _) λC H=> ?_
 delta GV;generalize uw G N=a;revert a;refine id ?_;intro a;kernel_rfl
def Bt(G:ai)(N:Nat)(c a f:aa)(H:af):O:=ad (al P .sub 3 U f a) λb=>ad (al P .sub 3 V b (I J 1)) λd=>ad (al P .quo 3 V d (I J 2)) λe=>uy G N N c a (I J 0) b e H
def alB(G:ai)(N:Nat)(b:aa)(c:aa)(d:aa)(H:af):aB Tryz.f250 G N (aO [b,c,d]) H=Bt G N b c d H:=by
 refine aT (A:=aB Tryz.f250 G N) ((ar j ((ar j ((ar j ((ar j (alC G N) ((ar j ((aX j ((a_ (k:=λm C H=>uy G N m (C 0) (C 6) (C 7) (C 8) (C 9) H) j (λC H=>j) (λm=>alA G N (uy G N m)))))) (aj _))))) (aj _))) (aj _))) (aj _))) ?_;delta Bt;generalize uy G N N=a;revert a;refine id ?_;intro a;kernel_rfl
def pe(G:ai)(N:Nat)(a:aa->aa->aa->aa->aa->aa->af->O)(b c:aa)(e f:aa)(g h:aa)(H:af):O:=ad (al P .add 3 V h (I J 1)) λd=>a b c e f g d H
def alF(G:ai)(N:Nat)(a:aa->aa->aa->aa->aa->aa->af->O):∀C H,aD P G N (ae (ae (aq (aq (ae (ae (ae (aq (ae (ae (aG Tryz.f251))))))))))) (λC H=>a (C 0) (C 1) (C 6) (C 7) (C 8) (C 9) H) [(0,(ax Tryz.f251))] (ax Tryz.f251) C H=pe G N a (C 0) (C 1) (C 6) (C 7) (C 8) (C 9) H:=by
 refine aI (aj _) λC H=> ?_
 delta pe;kernel_rfl
def uz(G:ai)(N:Nat)(f:aa->aa->aa->aa->aa->aa->af->O)(a b:aa)(l q:aa)(r c e:aa)(H:af):O:=ad (al P .add 3 U b e) λi=>ad (aH P 35 a i) λj=>ad (ah P H 3 j) λk=>ad (aH P 35 a c) λm=>ad (ah P H 3 m) λn=>ad (aH P 35 a c) λo=>aF H (aC P H 3 o k) λd=>ad (al P .add 3 U b e) λh=>ad (aH P 35 a h) λp=>aF d (aC P d 3 p n) λg=>pe G N f a b l q r c g
def alG(G:ai)(N:Nat)(a:aa->aa->aa->aa->aa->aa->af->O):∀C H,aD P G N (ae (ae (aq (aq (ae (aq (aq (ae (ae (ae (aq (ae (ae (aG Tryz.f251)))))))))))))) (λC H=>pe G N a (C 0) (C 1) (C 6) (C 7) (C 8) (C 9) H) [(1,(λC H=>pe G N a (C 0) (C 1) (C 6) (C 7) (C 8) (C 9) H)),(0,(ax Tryz.f251))] (ax Tryz.f251) C H=uz G N a (C 0) (C 1) (C 6) (C 7) (C 8) (C 9) (C 10) H:=by
 refine aI (aj _) λC H=> ?_
 delta uz;generalize pe G N a=b;revert b;refine id ?_;intro b;kernel_rfl
def GW(G:ai)(N:Nat)(h:aa->aa->aa->aa->aa->aa->af->O)(i c:aa)(a e:aa)(f g:aa)(H:af):O:=ad (al P .quo 3 V a (I J 4)) λj=>ad (al P .mul 3 V j (I J 2)) λk=>ad (al P .add 3 U c k) λl=>ad (al P .add 3 V l (I J 1)) λm=>ad (al P .leq 3 U g m) λn=>ay (D n) (aw H (G 293 [e] H) λo b=>ad (al P .sub 281 V f (I .u64 1)) λp=>ad (al P .and 281 U o p) λq=>ka P 281 3 q b λd=>ad (al P .geq 3 U d a) λr=>ay (D r) (ad (al P .sub 3 U d a) λs=>uz G N h i c a e f g s b) (uz G N h i c a e f g d b)) (D (.tuple [],H))
def uA(G:ai)(N:Nat):Nat->aa->aa->aa->aa->aa->aa->af->O
 |0,_,_,_,_,_,_,_=>Y
 |n+1,a,b,c,d,e,f,H=>GW G N (uA G N n) a b c d e f H
def alD(G:ai)(N:Nat)(a:aa->aa->aa->aa->aa->aa->af->O):∀C H,aD P G N (aq (aq (ae (ae (ae (aq (ae (ae (aG Tryz.f251))))))))) (λC H=>a (C 0) (C 1) (C 6) (C 7) (C 8) (C 9) H) [(0,(ax Tryz.f251))] (ax Tryz.f251) C H=GW G N a (C 0) (C 1) (C 6) (C 7) (C 8) (C 9) H:=by
 refine aI ((ar j ((ar j (alF G N a) ((aX j ((ar j ((ar j (alG G N a) (aj _))) (aj _))))))) (aj _))) λC H=> ?_
 delta GW;generalize uz G N a=b;revert b;refine id ?_;intro b;kernel_rfl
def Bu(G:ai)(N:Nat)(g b k:aa)(H:af):O:=ad (al P .sub 3 U k b) λa=>ad (al P .geq 3 V a (I J 8)) λh=>ay (D h) (ka P 3 341 a H λi=>ba H [I .u64 0] λe c=>aF c (aC P c 341 e i) λd=>aw d (G 292 [a] d) λj f=>ad (al P .quo 3 V a (I J 4)) λl=>ad (al P .mul 3 V l (I J 2)) λm=>ad (al P .add 3 U b m) λn=>ad (al P .sub 3 V n (I J 1)) λo=>uA G N N g b a e j o f) (D (.tuple [],H))
def alE(G:ai)(N:Nat)(b:aa)(c:aa)(d:aa)(H:af):aB Tryz.f251 G N (aO [b,c,d]) H=Bu G N b c d H:=by
 refine aT (A:=aB Tryz.f251 G N) ((ar j ((ar j ((bz j ((ar j ((ar j ((ar j ((aX j ((a_ (k:=λm C H=>uA G N m (C 0) (C 1) (C 6) (C 7) (C 8) (C 9) H) j (λC H=>j) (λm=>alD G N (uA G N m)))))) (aj _))) (aj _))) (aj _))) (aj _))) (aj _))) (aj _))) ?_;delta Bu;generalize uA G N N=a;revert a;refine id ?_;intro a;kernel_rfl
def nb(G:ai)(e a:aa)(H:af):O:=ad (ah P H 3 e) λb=>ad (al P .eql 3 V b (I J 0)) λc=>ay (D c) (D (.tuple [a,I J 1],H)) (ad (al P .eql 3 V b (I J 12)) λd=>ay (D d) (D (.tuple [a,I J 2],H)) (D (.tuple [a,I J 0],H)))
def alI(G:ai)(N:Nat):∀C H,aD P G N (ae (ae (ae (ae (ae (ae (ae (aG Tryz.f252)))))))) (ax Tryz.f252) [] (ax Tryz.f252) C H=nb G (C 9) (C 11) H:=by
 refine aI (aj _) λC H=> ?_
 delta nb;kernel_rfl
def uB(G:ai)(c a:aa)(d e f:aa)(H:af):O:=aw H (G 295 [c,d,e,f,a] H) λg b=>nb G a g b
def alJ(G:ai)(N:Nat):∀C H,aD P G N (ae (aq (ae (aq (ae (ae (ae (ae (ae (ae (aG Tryz.f252))))))))))) (λC H=>nb G (C 9) (C 11) H) [] (ax Tryz.f252) C H=uB G (C 0) (C 9) (C 10) (C 11) (C 12) H:=by
 refine aI (aj _) λC H=> ?_
 delta uB;generalize nb G=a;revert a;refine id ?_;intro a;kernel_rfl
def Bv(G:ai)(b e n:aa)(H:af):O:=ad (al P .sub 3 U n e) λc=>ba H [I J 0] λa d=>ad (al P .quo 3 V c (I J 4)) λl=>ad (al P .mul 3 V l (I J 1)) λm=>ad (al P .add 3 U e m) λi=>ad (al P .quo 3 V c (I J 4)) λo=>ad (al P .mul 3 V o (I J 2)) λp=>ad (al P .add 3 U e p) λf=>ad (al P .quo 3 V c (I J 4)) λq=>ad (al P .mul 3 V q (I J 3)) λr=>ad (al P .add 3 U e r) λj=>ad (al P .geq 3 V c (I J 8)) λs=>ay (D s) (ad (al P .geq 3 V c (I J 50)) λt=>ay (D t) (aw d (G 294 [b,i,a] d) λu g=>aw g (G 294 [b,f,a] g) λv h=>aw h (G 294 [b,j,a] h) λw k=>uB G b a u v w k) (uB G b a i f j d)) (nb G a f d)
def alH(G:ai)(N:Nat)(c:aa)(d:aa)(e:aa)(H:af):aB Tryz.f252 G N (aO [c,d,e]) H=Bv G c d e H:=by
 refine aT (A:=aB Tryz.f252 G N) ((ar j ((ar j ((ar j ((ar j ((ar j ((ar j ((ar j (alI G N) ((ar j ((bz j ((ar j (alJ G N) (aj _))) (aj _))) (aj _))))) (aj _))) (aj _))) (aj _))) (aj _))) (aj _))) (aj _))) ?_;delta Bv;generalize nb G=a;generalize uB G=b;revert a b;refine id ?_;intro a b;kernel_rfl
def GX(G:ai)(N:Nat)(e:aa->aa->aa->af->O)(a b c:aa)(H:af):O:=ad (al P .lss 3 U b c) λg=>ay (D g) (ad (aH P 35 a c) λh=>ad (ah P H 3 h) λi=>ad (aH P 35 a b) λj=>ad (ah P H 3 j) λk=>ad (aH P 35 a b) λl=>aF H (aC P H 3 l i) λd=>ad (aH P 35 a c) λm=>aF d (aC P d 3 m k) λf=>ad (al P .add 3 V b (I J 1)) λn=>ad (al P .sub 3 V c (I J 1)) λo=>e a n o f) (D (.tuple [],H))
def uC(G:ai)(N:Nat):Nat->aa->aa->aa->af->O
 |0,_,_,_,_=>Y
 |n+1,a,b,c,H=>GX G N (uC G N n) a b c H
def alK(G:ai)(N:Nat)(a:aa->aa->aa->af->O):∀C H,aD P G N (aq (aq (ae (ae (aG Tryz.f253))))) (λC H=>a (C 0) (C 6) (C 7) H) [(0,(ax Tryz.f253))] (ax Tryz.f253) C H=GX G N a (C 0) (C 6) (C 7) H:=by
 refine aI (aj _) λC H=> ?_
 delta GX;kernel_rfl
def Bw(G:ai)(N:Nat)(a b d:aa)(H:af):O:=ad (al P .sub 3 V d (I J 1)) λc=>uC G N N a b c H
def alL(G:ai)(N:Nat)(b:aa)(c:aa)(d:aa)(H:af):aB Tryz.f253 G N (aO [b,c,d]) H=Bw G N b c d H:=by
 refine aT (A:=aB Tryz.f253 G N) ((ar j ((ar j ((aX j ((a_ (k:=λm C H=>uC G N m (C 0) (C 6) (C 7) H) j (λC H=>j) (λm=>alK G N (uC G N m)))))) (aj _))) (aj _))) ?_;delta Bw;generalize uC G N N=a;revert a;refine id ?_;intro a;kernel_rfl
def jT(G:ai)(N:Nat)(H:af):O:=some ((Z U),H)
def alR(G:ai)(N:Nat):∀C H,aD P G N (ae (ae (ae (aG Tryz.f254)))) (ax Tryz.f254) [] (ax Tryz.f254) C H=jT G N H:=by
 refine aI (aj _) λC H=> ?_
 delta jT;kernel_rfl
def ie(G:ai)(N:Nat)(a:aa->aa->aa->aa->aa->af->O)(b c:aa)(e f g:aa)(H:af):O:=ad (al P .add 3 V g (I J 1)) λd=>a b c e f d H
def alS(G:ai)(N:Nat)(a:aa->aa->aa->aa->aa->af->O):∀C H,aD P G N (ae (ae (aq (aq (ae (aq (ae (ae (aG Tryz.f254))))))))) (λC H=>a (C 0) (C 1) (C 2) (C 7) (C 8) H) [(0,(λC H=>jT G N H))] (ax Tryz.f254) C H=ie G N a (C 0) (C 1) (C 2) (C 7) (C 8) H:=by
 refine aI (aj _) λC H=> ?_
 delta ie;kernel_rfl
def GZ(G:ai)(N:Nat)(h:aa->aa->aa->aa->aa->af->O)(j:aa->aa->aa->aa->aa->aa->af->O)(a e:aa)(d f:aa)(g b:aa)(H:af):O:=ad (al P .lss 3 U b d) λl=>ay (D l) (ad (aH P 35 a b) λn=>ad (ah P H 3 n) λo=>ad (al P .sub 3 V b (I J 1)) λp=>ad (aH P 35 a p) λq=>ad (ah P H 3 q) λr=>aw H (G 255 [o,r] H) λs c=>ad (bu .not s) λt=>ay (D t) (ie G N h a e d f g c) (ad (al P .sub 3 V b (I J 1)) λv=>ad (aH P 35 a v) λw=>ad (ah P c 3 w) λx=>ad (aH P 35 a b) λy=>ad (ah P c 3 y) λz=>ad (aH P 35 a b) λA=>aF c (aC P c 3 A x) λi=>ad (al P .sub 3 V b (I J 1)) λu=>ad (aH P 35 a u) λB=>aF i (aC P i 3 B z) λk=>ad (al P .add 3 V b (I J 1)) λm=>j a e d f g m k)) (ie G N h a e d f g H)
def uF(G:ai)(N:Nat)(a:aa->aa->aa->aa->aa->af->O):Nat->aa->aa->aa->aa->aa->aa->af->O
 |0,_,_,_,_,_,_,_=>Y
 |n+1,b,c,e,f,g,d,H=>GZ G N a (uF G N a n) b c e f g d H
def alN(G:ai)(N:Nat)(a:aa->aa->aa->aa->aa->af->O)(c:aa->aa->aa->aa->aa->aa->af->O):∀C H,aD P G N (aq (aq (ae (aq (ae (ae (ae (ae (ae (ae (aq (aq (ae (aq (aq (ae (aq (ae (ae (aG Tryz.f254)))))))))))))))))))) (λC H=>c (C 0) (C 1) (C 2) (C 7) (C 8) (C 10) H) [(6,(λC H=>ie G N a (C 0) (C 1) (C 2) (C 7) (C 8) H)),(1,(λC H=>ie G N a (C 0) (C 1) (C 2) (C 7) (C 8) H)),(0,(λC H=>jT G N H))] (ax Tryz.f254) C H=GZ G N a c (C 0) (C 1) (C 2) (C 7) (C 8) (C 10) H:=by
 refine aI (aj _) λC H=> ?_
 delta GZ;generalize ie G N a=b;revert b;refine id ?_;intro b;kernel_rfl
def l5(G:ai)(N:Nat)(c:aa->aa->aa->aa->aa->af->O)(d e:aa)(b a f:aa)(H:af):O:=ad (al P .sub 3 U b a) λh=>ad (al P .geq 3 V h (I J 2)) λi=>ay (D i) (ad (al P .add 3 V a (I J 1)) λg=>uF G N c N d e b a f g H) (ie G N c d e b a f H)
def alU(G:ai)(N:Nat)(a:aa->aa->aa->aa->aa->af->O):∀C H,aD P G N (ae (ae (ae (ae (ae (aq (aq (ae (aq (aq (ae (aq (ae (ae (aG Tryz.f254))))))))))))))) (λC H=>ie G N a (C 0) (C 1) (C 2) (C 7) (C 8) H) [(1,(λC H=>ie G N a (C 0) (C 1) (C 2) (C 7) (C 8) H)),(0,(λC H=>jT G N H))] (ax Tryz.f254) C H=l5 G N a (C 0) (C 1) (C 2) (C 7) (C 8) H:=by
 refine aI ((ar j ((bz j ((ar j ((aX j ((a_ (k:=λm C H=>uF G N a m (C 0) (C 1) (C 2) (C 7) (C 8) (C 10) H) j (λC H=>j) (λm=>alN G N a (uF G N a m)))))) (aj _))) (aj _))) (aj _))) λC H=> ?_
 delta l5;generalize ie G N a=b;generalize uF G N a N=c;revert b c;refine id ?_;intro b c;kernel_rfl
def G0(G:ai)(N:Nat)(h:aa->aa->aa->aa->aa->af->O)(j:aa->aa->aa->aa->aa->aa->af->O)(a d:aa)(e f:aa)(g b:aa)(H:af):O:=ad (al P .geq 3 V b (I J 1)) λl=>ay (D l) (ad (aH P 35 a b) λn=>ad (ah P H 3 n) λo=>ad (al P .sub 3 V b (I J 1)) λp=>ad (aH P 35 a p) λq=>ad (ah P H 3 q) λr=>aw H (G 255 [o,r] H) λs c=>ad (bu .not s) λt=>ay (D t) (l5 G N h a d e f g c) (ad (al P .sub 3 V b (I J 1)) λv=>ad (aH P 35 a v) λw=>ad (ah P c 3 w) λx=>ad (aH P 35 a b) λy=>ad (ah P c 3 y) λz=>ad (aH P 35 a b) λA=>aF c (aC P c 3 A x) λi=>ad (al P .sub 3 V b (I J 1)) λu=>ad (aH P 35 a u) λB=>aF i (aC P i 3 B z) λk=>ad (al P .sub 3 V b (I J 1)) λm=>j a d e f g m k)) (l5 G N h a d e f g H)
def uG(G:ai)(N:Nat)(a:aa->aa->aa->aa->aa->af->O):Nat->aa->aa->aa->aa->aa->aa->af->O
 |0,_,_,_,_,_,_,_=>Y
 |n+1,b,c,d,e,f,g,H=>G0 G N a (uG G N a n) b c d e f g H
def alO(G:ai)(N:Nat)(a:aa->aa->aa->aa->aa->af->O)(c:aa->aa->aa->aa->aa->aa->af->O):∀C H,aD P G N (aq (aq (ae (aq (ae (aq (ae (ae (ae (ae (aq (aq (ae (aq (aq (ae (aq (ae (ae (aG Tryz.f254)))))))))))))))))))) (λC H=>c (C 0) (C 1) (C 2) (C 7) (C 8) (C 9) H) [(4,(λC H=>l5 G N a (C 0) (C 1) (C 2) (C 7) (C 8) H)),(1,(λC H=>ie G N a (C 0) (C 1) (C 2) (C 7) (C 8) H)),(0,(λC H=>jT G N H))] (ax Tryz.f254) C H=G0 G N a c (C 0) (C 1) (C 2) (C 7) (C 8) (C 9) H:=by
 refine aI (aj _) λC H=> ?_
 delta G0;generalize l5 G N a=b;revert b;refine id ?_;intro b;kernel_rfl
def uD(G:ai)(N:Nat)(e:aa->aa->aa->aa->aa->af->O)(b c:aa)(d a h:aa)(H:af):O:=ad (al P .eql 3 U a d) λi=>ay (D i) (D ((Z V),H)) (ad (al P .sub 3 U d c) λj=>ad (al P .lss 3 V j (I J 50)) λk=>ay (D k) (D ((Z U),H)) (ad (al P .sub 3 V a (I J 1)) λm=>ad (aH P 35 b m) λn=>ad (ah P H 3 n) λo=>ad (aH P 35 b a) λp=>ad (ah P H 3 p) λq=>ad (aH P 35 b a) λr=>aF H (aC P H 3 r o) λf=>ad (al P .sub 3 V a (I J 1)) λl=>ad (aH P 35 b l) λs=>aF f (aC P f 3 s q) λg=>ad (al P .sub 3 U a c) λt=>ad (al P .geq 3 V t (I J 2)) λu=>ay (D u) (ad (al P .sub 3 V a (I J 1)) λv=>uG G N e N b c d a h v g) (l5 G N e b c d a h g)))
def alT(G:ai)(N:Nat)(a:aa->aa->aa->aa->aa->af->O):∀C H,aD P G N (ae (aq (aq (ae (aq (aq (ae (aq (ae (ae (aG Tryz.f254))))))))))) (λC H=>ie G N a (C 0) (C 1) (C 2) (C 7) (C 8) H) [(1,(λC H=>ie G N a (C 0) (C 1) (C 2) (C 7) (C 8) H)),(0,(λC H=>jT G N H))] (ax Tryz.f254) C H=uD G N a (C 0) (C 1) (C 2) (C 7) (C 8) H:=by
 refine aI ((ar j ((ar j ((ar j ((ar j (alU G N a) ((ar j ((bz j ((ar j ((aX j ((a_ (k:=λm C H=>uG G N a m (C 0) (C 1) (C 2) (C 7) (C 8) (C 9) H) j (λC H=>j) (λm=>alO G N a (uG G N a m)))))) (aj _))) (aj _))) (aj _))))) (aj _))) (aj _))) (aj _))) λC H=> ?_
 delta uD;generalize l5 G N a=b;generalize uG G N a N=c;revert b c;refine id ?_;intro b c;kernel_rfl
def G1(G:ai)(N:Nat)(t:aa->aa->aa->aa->aa->af->O)(u:aa->aa->aa->aa->aa->af->O)(n p:aa)(o k s:aa)(H:af):O:=ad (al P .lss 3 U k o) λa=>aM a V (aV n) λc=>aM a V (aV k) λd=>aM a V (aE (aH P 35 c.val d.val)) λb=>aM a V (qr (ah P (b.heap (d.heap (c.heap H))) 3 b.val)) λf=>aM a V (aV n) λg=>aM a V (aV k) λh=>aM a V (aE (al P .sub 3 V h.val (I J 1))) λi=>aM a V (aE (aH P 35 g.val i.val)) λe=>aM a V (qr (ah P (e.heap (i.heap (h.heap (g.heap (f.heap (b.heap (d.heap (c.heap H)))))))) 3 e.val)) λj=>aM a V (λq=>bq (j.heap (e.heap (i.heap (h.heap (g.heap (f.heap (b.heap (d.heap (c.heap H))))))))) (G 255 [f.val,j.val] (j.heap (e.heap (i.heap (h.heap (g.heap (f.heap (b.heap (d.heap (c.heap H)))))))))) q) λm=>aM a V (aE (bu .not m.val)) λl=>ad (aU a (D l.val) (D (Z U))) λr=>bif dF [0,0,3,7,15,15,63,127,15,15,527,1807,3855,8191,16383,32767] [0,1,2,3,4,5,6,7,8,9,10,11,12,13,14,15] [⟨0,.pure k,λH=>Y⟩,⟨1,.pure o,λH=>Y⟩,⟨2,.pure a,λH=>Y⟩,⟨3,.pure a,λH=>Y⟩,⟨4,c,λH=>Y⟩,⟨5,d,λH=>Y⟩,⟨6,b,λH=>Y⟩,⟨7,f,λH=>ah P H 3 b.val⟩,⟨8,g,λH=>Y⟩,⟨9,h,λH=>Y⟩,⟨10,i,λH=>Y⟩,⟨11,e,λH=>Y⟩,⟨12,j,λH=>ah P H 3 e.val⟩,⟨13,m,λH=>Y⟩,⟨14,l,λH=>Y⟩,⟨15,.pure r,λH=>Y⟩] H then(ay (D r) (ad (al P .add 3 V k (I J 1)) λv=>u n p o v s (l.heap (m.heap (j.heap (e.heap (i.heap (h.heap (g.heap (f.heap (b.heap (d.heap (c.heap H)))))))))))) (uD G N t n p o k s (l.heap (m.heap (j.heap (e.heap (i.heap (h.heap (g.heap (f.heap (b.heap (d.heap (c.heap H)))))))))))))else Y
def uH(G:ai)(N:Nat)(a:aa->aa->aa->aa->aa->af->O):Nat->aa->aa->aa->aa->aa->af->O
 |0,_,_,_,_,_,_=>Y
 |n+1,b,c,d,e,f,H=>G1 G N a (uH G N a n) b c d e f H
def alP(G:ai)(N:Nat)(a:aa->aa->aa->aa->aa->af->O)(c:aa->aa->aa->aa->aa->af->O):∀C H,aD P G N (aq (aq (aq (aq (aq (ae (aq (aq (ae (aq (ae (ae (aG Tryz.f254))))))))))))) (λC H=>c (C 0) (C 1) (C 2) (C 7) (C 8) H) [(2,(λC H=>uD G N a (C 0) (C 1) (C 2) (C 7) (C 8) H)),(1,(λC H=>ie G N a (C 0) (C 1) (C 2) (C 7) (C 8) H)),(0,(λC H=>jT G N H))] (ax Tryz.f254) C H=G1 G N a c (C 0) (C 1) (C 2) (C 7) (C 8) H:=by
 refine aI (aj _) λC H=> ?_
 delta G1;generalize uD G N a=b;revert b;refine id ?_;intro b;kernel_rfl
def GY(G:ai)(N:Nat)(b:aa->aa->aa->aa->aa->af->O)(c d:aa)(f g a:aa)(H:af):O:=ad (al P .lss 3 V a (I J 5)) λe=>ay (D e) (uH G N b N c d f g a H) (jT G N H)
def uE(G:ai)(N:Nat):Nat->aa->aa->aa->aa->aa->af->O
 |0,_,_,_,_,_,_=>Y
 |n+1,a,b,c,d,e,H=>GY G N (uE G N n) a b c d e H
def alM(G:ai)(N:Nat)(a:aa->aa->aa->aa->aa->af->O):∀C H,aD P G N (aq (aq (ae (aq (ae (ae (aG Tryz.f254))))))) (λC H=>a (C 0) (C 1) (C 2) (C 7) (C 8) H) [(0,(λC H=>jT G N H))] (ax Tryz.f254) C H=GY G N a (C 0) (C 1) (C 2) (C 7) (C 8) H:=by
 refine aI ((ar j ((ar j (alS G N a) ((aX j ((ar j (alT G N a) ((aX j ((a_ (k:=λm C H=>uH G N a m (C 0) (C 1) (C 2) (C 7) (C 8) H) j (λC H=>j) (λm=>alP G N a (uH G N a m)))))))))))) (aj _))) λC H=> ?_
 delta GY;generalize jT G N=b;generalize uH G N a N=c;revert b c;refine id ?_;intro b c;kernel_rfl
def Bx(G:ai)(N:Nat)(b a d:aa)(H:af):O:=ad (al P .add 3 V a (I J 1)) λc=>uE G N N b a d c (I J 0) H
def alQ(G:ai)(N:Nat)(b:aa)(c:aa)(d:aa)(H:af):aB Tryz.f254 G N (aO [b,c,d]) H=Bx G N b c d H:=by
 refine aT (A:=aB Tryz.f254 G N) ((ar j ((ar j ((ar j (alR G N) ((ar j ((aX j ((a_ (k:=λm C H=>uE G N m (C 0) (C 1) (C 2) (C 7) (C 8) H) j (λC H=>j) (λm=>alM G N (uE G N m)))))) (aj _))))) (aj _))) (aj _))) ?_;delta Bx;generalize uE G N N=a;revert a;refine id ?_;intro a;kernel_rfl
def By(G:ai)(d e:aa)(H:af):O:=aw H (G 296 [d] H) λb f=>au b V f (aV e) λr c=>au b V c (λq=>bq c (G 296 [r] c) q) λs g=>au b V g (aE (bu .not s)) λl h=>ad (aU b (D l) (D (Z U))) λa=>au a U h (aV d) λm i=>au a U i (aV e) λn j=>au a U j (aE (al P .lss 3 U m n)) λo k=>ad (aU a (D (Z V)) (D o)) λp=>D (p,k)
def alV(G:ai)(N:Nat)(a:aa)(b:aa)(H:af):aB Tryz.f255 G N (aO [a,b]) H=By G a b H:=by
 refine aT (A:=aB Tryz.f255 G N) (aj _) ?_;delta By;kernel_rfl
def kQ(G:ai)(N:Nat)(a:aa)(H:af):O:=some (a,H)
def al0(G:ai)(N:Nat):∀C H,aD P G N (ae (ae (ae (ae (aG Tryz.f256))))) (ax Tryz.f256) [] (ax Tryz.f256) C H=kQ G N (C 9) H:=by
 refine aI (aj _) λC H=> ?_
 delta kQ;kernel_rfl
def uJ(G:ai)(N:Nat)(e:aa->aa->aa->aa->af->O)(a g:aa)(b c:aa)(H:af):O:=ad (al P .gtr 3 U b c) λh=>ay (D h) (kQ G N b H) (ad (aH P 35 a c) λi=>ad (ah P H 3 i) λj=>ad (aH P 35 a b) λk=>ad (ah P H 3 k) λl=>ad (aH P 35 a b) λm=>aF H (aC P H 3 m j) λd=>ad (aH P 35 a c) λn=>aF d (aC P d 3 n l) λf=>ad (al P .add 3 V b (I J 1)) λo=>ad (al P .sub 3 V c (I J 1)) λp=>e a g o p f)
def al2(G:ai)(N:Nat)(a:aa->aa->aa->aa->af->O):∀C H,aD P G N (ae (ae (aq (aq (aq (aq (ae (ae (ae (aG Tryz.f256)))))))))) (λC H=>a (C 0) (C 1) (C 9) (C 10) H) [(1,(λC H=>a (C 0) (C 1) (C 9) (C 10) H)),(0,(λC H=>kQ G N (C 9) H))] (ax Tryz.f256) C H=uJ G N a (C 0) (C 1) (C 9) (C 10) H:=by
 refine aI (aj _) λC H=> ?_
 delta uJ;generalize kQ G N=b;revert b;refine id ?_;intro b;kernel_rfl
def G3(G:ai)(N:Nat)(p:aa->aa->aa->aa->af->O)(r:aa->aa->aa->aa->af->O)(l n:aa)(m j:aa)(H:af):O:=ad (al P .leq 3 U m j) λa=>aM a V (aV l) λc=>aM a V (aV n) λd=>aM a V (aE (aH P 35 c.val d.val)) λb=>aM a V (qr (ah P (b.heap (d.heap (c.heap H))) 3 b.val)) λf=>aM a V (aV l) λg=>aM a V (aV j) λh=>aM a V (aE (aH P 35 g.val h.val)) λe=>aM a V (qr (ah P (e.heap (h.heap (g.heap (f.heap (b.heap (d.heap (c.heap H))))))) 3 e.val)) λi=>aM a V (λq=>bq (i.heap (e.heap (h.heap (g.heap (f.heap (b.heap (d.heap (c.heap H)))))))) (G 255 [f.val,i.val] (i.heap (e.heap (h.heap (g.heap (f.heap (b.heap (d.heap (c.heap H))))))))) q) λk=>ad (aU a (D k.val) (D (Z U))) λo=>bif dF [0,0,3,7,15,15,63,127,15,15,783,1807,4095,8191] [0,1,2,3,4,5,6,7,8,9,10,11,12,13] [⟨0,.pure m,λH=>Y⟩,⟨1,.pure j,λH=>Y⟩,⟨2,.pure a,λH=>Y⟩,⟨3,.pure a,λH=>Y⟩,⟨4,c,λH=>Y⟩,⟨5,d,λH=>Y⟩,⟨6,b,λH=>Y⟩,⟨7,f,λH=>ah P H 3 b.val⟩,⟨8,g,λH=>Y⟩,⟨9,h,λH=>Y⟩,⟨10,e,λH=>Y⟩,⟨11,i,λH=>ah P H 3 e.val⟩,⟨12,k,λH=>Y⟩,⟨13,.pure o,λH=>Y⟩] H then(ay (D o) (ad (al P .sub 3 V j (I J 1)) λs=>r l n m s (k.heap (i.heap (e.heap (h.heap (g.heap (f.heap (b.heap (d.heap (c.heap H)))))))))) (uJ G N p l n m j (k.heap (i.heap (e.heap (h.heap (g.heap (f.heap (b.heap (d.heap (c.heap H)))))))))))else Y
def uL(G:ai)(N:Nat)(a:aa->aa->aa->aa->af->O):Nat->aa->aa->aa->aa->af->O
 |0,_,_,_,_,_=>Y
 |n+1,b,c,e,d,H=>G3 G N a (uL G N a n) b c e d H
def alX(G:ai)(N:Nat)(a:aa->aa->aa->aa->af->O)(c:aa->aa->aa->aa->af->O):∀C H,aD P G N (aq (aq (aq (ae (aq (aq (aq (aq (ae (ae (ae (aG Tryz.f256)))))))))))) (λC H=>c (C 0) (C 1) (C 9) (C 10) H) [(4,(λC H=>uJ G N a (C 0) (C 1) (C 9) (C 10) H)),(1,(λC H=>a (C 0) (C 1) (C 9) (C 10) H)),(0,(λC H=>kQ G N (C 9) H))] (ax Tryz.f256) C H=G3 G N a c (C 0) (C 1) (C 9) (C 10) H:=by
 refine aI (aj _) λC H=> ?_
 delta G3;generalize uJ G N a=b;revert b;refine id ?_;intro b;kernel_rfl
def uI(G:ai)(N:Nat)(a:aa->aa->aa->aa->af->O)(b c:aa)(e d:aa)(H:af):O:=uL G N a N b c e d H
def al1(G:ai)(N:Nat)(a:aa->aa->aa->aa->af->O):∀C H,aD P G N (ae (aq (aq (aq (aq (ae (ae (ae (aG Tryz.f256))))))))) (λC H=>a (C 0) (C 1) (C 9) (C 10) H) [(1,(λC H=>a (C 0) (C 1) (C 9) (C 10) H)),(0,(λC H=>kQ G N (C 9) H))] (ax Tryz.f256) C H=uI G N a (C 0) (C 1) (C 9) (C 10) H:=by
 refine aI ((ar j (al2 G N a) ((aX j ((a_ (k:=λm C H=>uL G N a m (C 0) (C 1) (C 9) (C 10) H) j (λC H=>j) (λm=>alX G N a (uL G N a m)))))))) λC H=> ?_
 delta uI;generalize uL G N a N=b;revert b;refine id ?_;intro b;kernel_rfl
def G4(G:ai)(N:Nat)(r:aa->aa->aa->aa->af->O)(s:aa->aa->aa->aa->af->O)(m o:aa)(j n:aa)(H:af):O:=ad (al P .leq 3 U j n) λa=>aM a V (aV m) λc=>aM a V (aV o) λd=>aM a V (aE (aH P 35 c.val d.val)) λb=>aM a V (qr (ah P (b.heap (d.heap (c.heap H))) 3 b.val)) λf=>aM a V (aV m) λg=>aM a V (aV j) λh=>aM a V (aE (aH P 35 g.val h.val)) λe=>aM a V (qr (ah P (e.heap (h.heap (g.heap (f.heap (b.heap (d.heap (c.heap H))))))) 3 e.val)) λi=>aM a V (λq=>bq (i.heap (e.heap (h.heap (g.heap (f.heap (b.heap (d.heap (c.heap H)))))))) (G 255 [f.val,i.val] (i.heap (e.heap (h.heap (g.heap (f.heap (b.heap (d.heap (c.heap H))))))))) q) λk=>aM a V (aE (bu .not k.val)) λl=>ad (aU a (D l.val) (D (Z U))) λp=>bif dF [0,0,3,7,15,15,63,127,15,15,783,1807,4095,8191,16383] [0,1,2,3,4,5,6,7,8,9,10,11,12,13,14] [⟨0,.pure j,λH=>Y⟩,⟨1,.pure n,λH=>Y⟩,⟨2,.pure a,λH=>Y⟩,⟨3,.pure a,λH=>Y⟩,⟨4,c,λH=>Y⟩,⟨5,d,λH=>Y⟩,⟨6,b,λH=>Y⟩,⟨7,f,λH=>ah P H 3 b.val⟩,⟨8,g,λH=>Y⟩,⟨9,h,λH=>Y⟩,⟨10,e,λH=>Y⟩,⟨11,i,λH=>ah P H 3 e.val⟩,⟨12,k,λH=>Y⟩,⟨13,l,λH=>Y⟩,⟨14,.pure p,λH=>Y⟩] H then(ay (D p) (ad (al P .add 3 V j (I J 1)) λt=>s m o t n (l.heap (k.heap (i.heap (e.heap (h.heap (g.heap (f.heap (b.heap (d.heap (c.heap H))))))))))) (uI G N r m o j n (l.heap (k.heap (i.heap (e.heap (h.heap (g.heap (f.heap (b.heap (d.heap (c.heap H))))))))))))else Y
def uM(G:ai)(N:Nat)(a:aa->aa->aa->aa->af->O):Nat->aa->aa->aa->aa->af->O
 |0,_,_,_,_,_=>Y
 |n+1,b,c,e,d,H=>G4 G N a (uM G N a n) b c e d H
def alY(G:ai)(N:Nat)(a:aa->aa->aa->aa->af->O)(c:aa->aa->aa->aa->af->O):∀C H,aD P G N (aq (aq (aq (aq (aq (aq (aq (ae (ae (ae (aG Tryz.f256))))))))))) (λC H=>c (C 0) (C 1) (C 9) (C 10) H) [(2,(λC H=>uI G N a (C 0) (C 1) (C 9) (C 10) H)),(1,(λC H=>a (C 0) (C 1) (C 9) (C 10) H)),(0,(λC H=>kQ G N (C 9) H))] (ax Tryz.f256) C H=G4 G N a c (C 0) (C 1) (C 9) (C 10) H:=by
 refine aI (aj _) λC H=> ?_
 delta G4;generalize uI G N a=b;revert b;refine id ?_;intro b;kernel_rfl
def G2(G:ai)(N:Nat)(a:aa->aa->aa->aa->af->O)(b c:aa)(e d:aa)(H:af):O:=uM G N a N b c e d H
def uK(G:ai)(N:Nat):Nat->aa->aa->aa->aa->af->O
 |0,_,_,_,_,_=>Y
 |n+1,a,b,d,c,H=>G2 G N (uK G N n) a b d c H
def alW(G:ai)(N:Nat)(a:aa->aa->aa->aa->af->O):∀C H,aD P G N (aq (aq (aq (ae (ae (ae (aG Tryz.f256))))))) (λC H=>a (C 0) (C 1) (C 9) (C 10) H) [(0,(λC H=>kQ G N (C 9) H))] (ax Tryz.f256) C H=G2 G N a (C 0) (C 1) (C 9) (C 10) H:=by
 refine aI ((aX j ((ar j (al1 G N a) ((aX j ((a_ (k:=λm C H=>uM G N a m (C 0) (C 1) (C 9) (C 10) H) j (λC H=>j) (λm=>alY G N a (uM G N a m)))))))))) λC H=> ?_
 delta G2;generalize uM G N a N=b;revert b;refine id ?_;intro b;kernel_rfl
def Bz(G:ai)(N:Nat)(a b:aa)(h d:aa)(H:af):O:=ad (aH P 35 a d) λf=>ad (ah P H 3 f) λg=>ad (aH P 35 a b) λi=>ad (ah P H 3 i) λj=>ad (aH P 35 a b) λk=>aF H (aC P H 3 k g) λc=>ad (aH P 35 a d) λl=>aF c (aC P c 3 l j) λe=>ad (al P .add 3 V b (I J 1)) λm=>ad (al P .sub 3 V h (I J 1)) λn=>uK G N N a b m n e
def alZ(G:ai)(N:Nat)(b:aa)(c:aa)(d:aa)(e:aa)(H:af):aB Tryz.f256 G N (aO [b,c,d,e]) H=Bz G N b c d e H:=by
 refine aT (A:=aB Tryz.f256 G N) ((ar j ((ar j ((ar j ((ar j (al0 G N) ((aX j ((a_ (k:=λm C H=>uK G N m (C 0) (C 1) (C 9) (C 10) H) j (λC H=>j) (λm=>alW G N (uK G N m)))))))) (aj _))) (aj _))) (aj _))) ?_;delta Bz;generalize uK G N N=a;revert a;refine id ?_;intro a;kernel_rfl
def kR(G:ai)(N:Nat)(a d b:aa)(H:af):O:=ad (aH P 35 a d) λf=>ad (ah P H 3 f) λg=>ad (aH P 35 a b) λh=>ad (ah P H 3 h) λi=>ad (aH P 35 a b) λj=>aF H (aC P H 3 j g) λc=>ad (aH P 35 a d) λk=>aF c (aC P c 3 k i) λe=>D (.tuple [b,Z U],e)
def ama(G:ai)(N:Nat):∀C H,aD P G N (ae (ae (ae (ae (ae (ae (ae (ae (ae (ae (aG Tryz.f257))))))))))) (ax Tryz.f257) [] (ax Tryz.f257) C H=kR G N (C 0) (C 1) (C 11) H:=by
 refine aI (aj _) λC H=> ?_
 delta kR;kernel_rfl
def uQ(G:ai)(N:Nat)(f:aa->aa->aa->aa->af->O)(a e:aa)(c b:aa)(H:af):O:=ad (al P .gtr 3 U c b) λh=>ay (D h) (kR G N a e b H) (ad (aH P 35 a b) λi=>ad (ah P H 3 i) λj=>ad (aH P 35 a c) λk=>ad (ah P H 3 k) λl=>ad (aH P 35 a c) λm=>aF H (aC P H 3 m j) λd=>ad (aH P 35 a b) λn=>aF d (aC P d 3 n l) λg=>ad (al P .add 3 V c (I J 1)) λo=>ad (al P .sub 3 V b (I J 1)) λp=>f a e o p g)
def amc(G:ai)(N:Nat)(a:aa->aa->aa->aa->af->O):∀C H,aD P G N (ae (ae (aq (aq (aq (aq (ae (ae (ae (ae (ae (ae (ae (ae (ae (aG Tryz.f257)))))))))))))))) (λC H=>a (C 0) (C 1) (C 10) (C 11) H) [(5,(λC H=>a (C 0) (C 1) (C 10) (C 11) H)),(4,(λC H=>kR G N (C 0) (C 1) (C 11) H))] (ax Tryz.f257) C H=uQ G N a (C 0) (C 1) (C 10) (C 11) H:=by
 refine aI (aj _) λC H=> ?_
 delta uQ;generalize kR G N=b;revert b;refine id ?_;intro b;kernel_rfl
def G6(G:ai)(N:Nat)(r:aa->aa->aa->aa->af->O)(s:aa->aa->aa->aa->af->O)(m o:aa)(n j:aa)(H:af):O:=ad (al P .leq 3 U n j) λa=>aM a V (aV m) λc=>aM a V (aV j) λd=>aM a V (aE (aH P 35 c.val d.val)) λb=>aM a V (qr (ah P (b.heap (d.heap (c.heap H))) 3 b.val)) λf=>aM a V (aV m) λg=>aM a V (aV o) λh=>aM a V (aE (aH P 35 g.val h.val)) λe=>aM a V (qr (ah P (e.heap (h.heap (g.heap (f.heap (b.heap (d.heap (c.heap H))))))) 3 e.val)) λi=>aM a V (λq=>bq (i.heap (e.heap (h.heap (g.heap (f.heap (b.heap (d.heap (c.heap H)))))))) (G 255 [f.val,i.val] (i.heap (e.heap (h.heap (g.heap (f.heap (b.heap (d.heap (c.heap H))))))))) q) λk=>aM a V (aE (bu .not k.val)) λl=>ad (aU a (D l.val) (D (Z U))) λp=>bif dF [0,0,3,7,15,15,63,127,15,15,783,1807,4095,8191,16383] [0,1,2,3,4,5,6,7,8,9,10,11,12,13,14] [⟨0,.pure n,λH=>Y⟩,⟨1,.pure j,λH=>Y⟩,⟨2,.pure a,λH=>Y⟩,⟨3,.pure a,λH=>Y⟩,⟨4,c,λH=>Y⟩,⟨5,d,λH=>Y⟩,⟨6,b,λH=>Y⟩,⟨7,f,λH=>ah P H 3 b.val⟩,⟨8,g,λH=>Y⟩,⟨9,h,λH=>Y⟩,⟨10,e,λH=>Y⟩,⟨11,i,λH=>ah P H 3 e.val⟩,⟨12,k,λH=>Y⟩,⟨13,l,λH=>Y⟩,⟨14,.pure p,λH=>Y⟩] H then(ay (D p) (ad (al P .sub 3 V j (I J 1)) λt=>s m o n t (l.heap (k.heap (i.heap (e.heap (h.heap (g.heap (f.heap (b.heap (d.heap (c.heap H))))))))))) (uQ G N r m o n j (l.heap (k.heap (i.heap (e.heap (h.heap (g.heap (f.heap (b.heap (d.heap (c.heap H))))))))))))else Y
def uS(G:ai)(N:Nat)(a:aa->aa->aa->aa->af->O):Nat->aa->aa->aa->aa->af->O
 |0,_,_,_,_,_=>Y
 |n+1,b,c,d,e,H=>G6 G N a (uS G N a n) b c d e H
def al4(G:ai)(N:Nat)(a:aa->aa->aa->aa->af->O)(c:aa->aa->aa->aa->af->O):∀C H,aD P G N (aq (aq (aq (ae (aq (aq (aq (aq (ae (ae (ae (ae (ae (ae (ae (ae (ae (aG Tryz.f257)))))))))))))))))) (λC H=>c (C 0) (C 1) (C 10) (C 11) H) [(8,(λC H=>uQ G N a (C 0) (C 1) (C 10) (C 11) H)),(5,(λC H=>a (C 0) (C 1) (C 10) (C 11) H)),(4,(λC H=>kR G N (C 0) (C 1) (C 11) H))] (ax Tryz.f257) C H=G6 G N a c (C 0) (C 1) (C 10) (C 11) H:=by
 refine aI (aj _) λC H=> ?_
 delta G6;generalize uQ G N a=b;revert b;refine id ?_;intro b;kernel_rfl
def uP(G:ai)(N:Nat)(a:aa->aa->aa->aa->af->O)(b c:aa)(d e:aa)(H:af):O:=uS G N a N b c d e H
def amb(G:ai)(N:Nat)(a:aa->aa->aa->aa->af->O):∀C H,aD P G N (ae (aq (aq (aq (aq (ae (ae (ae (ae (ae (ae (ae (ae (ae (aG Tryz.f257))))))))))))))) (λC H=>a (C 0) (C 1) (C 10) (C 11) H) [(5,(λC H=>a (C 0) (C 1) (C 10) (C 11) H)),(4,(λC H=>kR G N (C 0) (C 1) (C 11) H))] (ax Tryz.f257) C H=uP G N a (C 0) (C 1) (C 10) (C 11) H:=by
 refine aI ((ar j (amc G N a) ((aX j ((a_ (k:=λm C H=>uS G N a m (C 0) (C 1) (C 10) (C 11) H) j (λC H=>j) (λm=>al4 G N a (uS G N a m)))))))) λC H=> ?_
 delta uP;generalize uS G N a N=b;revert b;refine id ?_;intro b;kernel_rfl
def G7(G:ai)(N:Nat)(p:aa->aa->aa->aa->af->O)(r:aa->aa->aa->aa->af->O)(l n:aa)(j m:aa)(H:af):O:=ad (al P .leq 3 U j m) λa=>aM a V (aV l) λc=>aM a V (aV j) λd=>aM a V (aE (aH P 35 c.val d.val)) λb=>aM a V (qr (ah P (b.heap (d.heap (c.heap H))) 3 b.val)) λf=>aM a V (aV l) λg=>aM a V (aV n) λh=>aM a V (aE (aH P 35 g.val h.val)) λe=>aM a V (qr (ah P (e.heap (h.heap (g.heap (f.heap (b.heap (d.heap (c.heap H))))))) 3 e.val)) λi=>aM a V (λq=>bq (i.heap (e.heap (h.heap (g.heap (f.heap (b.heap (d.heap (c.heap H)))))))) (G 255 [f.val,i.val] (i.heap (e.heap (h.heap (g.heap (f.heap (b.heap (d.heap (c.heap H))))))))) q) λk=>ad (aU a (D k.val) (D (Z U))) λo=>bif dF [0,0,3,7,15,15,63,127,15,15,783,1807,4095,8191] [0,1,2,3,4,5,6,7,8,9,10,11,12,13] [⟨0,.pure j,λH=>Y⟩,⟨1,.pure m,λH=>Y⟩,⟨2,.pure a,λH=>Y⟩,⟨3,.pure a,λH=>Y⟩,⟨4,c,λH=>Y⟩,⟨5,d,λH=>Y⟩,⟨6,b,λH=>Y⟩,⟨7,f,λH=>ah P H 3 b.val⟩,⟨8,g,λH=>Y⟩,⟨9,h,λH=>Y⟩,⟨10,e,λH=>Y⟩,⟨11,i,λH=>ah P H 3 e.val⟩,⟨12,k,λH=>Y⟩,⟨13,.pure o,λH=>Y⟩] H then(ay (D o) (ad (al P .add 3 V j (I J 1)) λs=>r l n s m (k.heap (i.heap (e.heap (h.heap (g.heap (f.heap (b.heap (d.heap (c.heap H)))))))))) (uP G N p l n j m (k.heap (i.heap (e.heap (h.heap (g.heap (f.heap (b.heap (d.heap (c.heap H)))))))))))else Y
def uT(G:ai)(N:Nat)(a:aa->aa->aa->aa->af->O):Nat->aa->aa->aa->aa->af->O
 |0,_,_,_,_,_=>Y
 |n+1,b,c,d,e,H=>G7 G N a (uT G N a n) b c d e H
def al5(G:ai)(N:Nat)(a:aa->aa->aa->aa->af->O)(c:aa->aa->aa->aa->af->O):∀C H,aD P G N (aq (aq (aq (aq (aq (aq (aq (ae (ae (ae (ae (ae (ae (ae (ae (ae (aG Tryz.f257))))))))))))))))) (λC H=>c (C 0) (C 1) (C 10) (C 11) H) [(6,(λC H=>uP G N a (C 0) (C 1) (C 10) (C 11) H)),(5,(λC H=>a (C 0) (C 1) (C 10) (C 11) H)),(4,(λC H=>kR G N (C 0) (C 1) (C 11) H))] (ax Tryz.f257) C H=G7 G N a c (C 0) (C 1) (C 10) (C 11) H:=by
 refine aI (aj _) λC H=> ?_
 delta G7;generalize uP G N a=b;revert b;refine id ?_;intro b;kernel_rfl
def G5(G:ai)(N:Nat)(a:aa->aa->aa->aa->af->O)(b c:aa)(d e:aa)(H:af):O:=uT G N a N b c d e H
def uR(G:ai)(N:Nat):Nat->aa->aa->aa->aa->af->O
 |0,_,_,_,_,_=>Y
 |n+1,a,b,c,d,H=>G5 G N (uR G N n) a b c d H
def al3(G:ai)(N:Nat)(a:aa->aa->aa->aa->af->O):∀C H,aD P G N (aq (aq (aq (ae (ae (ae (ae (ae (ae (ae (ae (ae (aG Tryz.f257))))))))))))) (λC H=>a (C 0) (C 1) (C 10) (C 11) H) [(4,(λC H=>kR G N (C 0) (C 1) (C 11) H))] (ax Tryz.f257) C H=G5 G N a (C 0) (C 1) (C 10) (C 11) H:=by
 refine aI ((aX j ((ar j (amb G N a) ((aX j ((a_ (k:=λm C H=>uT G N a m (C 0) (C 1) (C 10) (C 11) H) j (λC H=>j) (λm=>al5 G N a (uT G N a m)))))))))) λC H=> ?_
 delta G5;generalize uT G N a N=b;revert b;refine id ?_;intro b;kernel_rfl
def uO(G:ai)(N:Nat)(a f:aa)(d b:aa)(H:af):O:=ad (al P .gtr 3 U d b) λg=>ay (D g) (ad (aH P 35 a f) λh=>ad (ah P H 3 h) λi=>ad (aH P 35 a b) λj=>ad (ah P H 3 j) λk=>ad (aH P 35 a b) λl=>aF H (aC P H 3 l i) λc=>ad (aH P 35 a f) λm=>aF c (aC P c 3 m k) λe=>D (.tuple [b,Z V],e)) (ad (aH P 35 a b) λn=>ad (ah P H 3 n) λo=>ad (aH P 35 a d) λp=>ad (ah P H 3 p) λq=>ad (aH P 35 a d) λr=>aF H (aC P H 3 r o) λc=>ad (aH P 35 a b) λs=>aF c (aC P c 3 s q) λe=>ad (al P .add 3 V d (I J 1)) λt=>ad (al P .sub 3 V b (I J 1)) λu=>uR G N N a f t u e)
def al_(G:ai)(N:Nat):∀C H,aD P G N (ae (ae (ae (ae (ae (aG Tryz.f257)))))) (ax Tryz.f257) [] (ax Tryz.f257) C H=uO G N (C 0) (C 1) (C 10) (C 11) H:=by
 refine aI ((ar j ((ar j ((ar j ((ar j ((ar j (ama G N) ((aX j ((a_ (k:=λm C H=>uR G N m (C 0) (C 1) (C 10) (C 11) H) j (λC H=>j) (λm=>al3 G N (uR G N m)))))))) (aj _))) (aj _))) (aj _))) (aj _))) λC H=> ?_
 delta uO;generalize uR G N N=a;revert a;refine id ?_;intro a;kernel_rfl
def G8(G:ai)(N:Nat)(r:aa->aa->aa->aa->af->O)(m o:aa)(n j:aa)(H:af):O:=ad (al P .leq 3 U n j) λa=>aM a V (aV m) λc=>aM a V (aV j) λd=>aM a V (aE (aH P 35 c.val d.val)) λb=>aM a V (qr (ah P (b.heap (d.heap (c.heap H))) 3 b.val)) λf=>aM a V (aV m) λg=>aM a V (aV o) λh=>aM a V (aE (aH P 35 g.val h.val)) λe=>aM a V (qr (ah P (e.heap (h.heap (g.heap (f.heap (b.heap (d.heap (c.heap H))))))) 3 e.val)) λi=>aM a V (λq=>bq (i.heap (e.heap (h.heap (g.heap (f.heap (b.heap (d.heap (c.heap H)))))))) (G 255 [f.val,i.val] (i.heap (e.heap (h.heap (g.heap (f.heap (b.heap (d.heap (c.heap H))))))))) q) λk=>aM a V (aE (bu .not k.val)) λl=>ad (aU a (D l.val) (D (Z U))) λp=>bif dF [0,0,3,7,15,15,63,127,15,15,783,1807,4095,8191,16383] [0,1,2,3,4,5,6,7,8,9,10,11,12,13,14] [⟨0,.pure n,λH=>Y⟩,⟨1,.pure j,λH=>Y⟩,⟨2,.pure a,λH=>Y⟩,⟨3,.pure a,λH=>Y⟩,⟨4,c,λH=>Y⟩,⟨5,d,λH=>Y⟩,⟨6,b,λH=>Y⟩,⟨7,f,λH=>ah P H 3 b.val⟩,⟨8,g,λH=>Y⟩,⟨9,h,λH=>Y⟩,⟨10,e,λH=>Y⟩,⟨11,i,λH=>ah P H 3 e.val⟩,⟨12,k,λH=>Y⟩,⟨13,l,λH=>Y⟩,⟨14,.pure p,λH=>Y⟩] H then(ay (D p) (ad (al P .sub 3 V j (I J 1)) λs=>r m o n s (l.heap (k.heap (i.heap (e.heap (h.heap (g.heap (f.heap (b.heap (d.heap (c.heap H))))))))))) (uO G N m o n j (l.heap (k.heap (i.heap (e.heap (h.heap (g.heap (f.heap (b.heap (d.heap (c.heap H))))))))))))else Y
def uU(G:ai)(N:Nat):Nat->aa->aa->aa->aa->af->O
 |0,_,_,_,_,_=>Y
 |n+1,a,b,c,d,H=>G8 G N (uU G N n) a b c d H
def al6(G:ai)(N:Nat)(b:aa->aa->aa->aa->af->O):∀C H,aD P G N (aq (aq (aq (ae (ae (ae (ae (aG Tryz.f257)))))))) (λC H=>b (C 0) (C 1) (C 10) (C 11) H) [(2,(λC H=>uO G N (C 0) (C 1) (C 10) (C 11) H))] (ax Tryz.f257) C H=G8 G N b (C 0) (C 1) (C 10) (C 11) H:=by
 refine aI (aj _) λC H=> ?_
 delta G8;generalize uO G N=a;revert a;refine id ?_;intro a;kernel_rfl
def uN(G:ai)(N:Nat)(a b:aa)(c d:aa)(H:af):O:=uU G N N a b c d H
def al9(G:ai)(N:Nat):∀C H,aD P G N (ae (ae (ae (ae (aG Tryz.f257))))) (ax Tryz.f257) [] (ax Tryz.f257) C H=uN G N (C 0) (C 1) (C 10) (C 11) H:=by
 refine aI ((ar j (al_ G N) ((aX j ((a_ (k:=λm C H=>uU G N m (C 0) (C 1) (C 10) (C 11) H) j (λC H=>j) (λm=>al6 G N (uU G N m)))))))) λC H=> ?_
 delta uN;generalize uU G N N=a;revert a;refine id ?_;intro a;kernel_rfl
def G9(G:ai)(N:Nat)(p:aa->aa->aa->aa->af->O)(l n:aa)(j m:aa)(H:af):O:=ad (al P .leq 3 U j m) λa=>aM a V (aV l) λc=>aM a V (aV j) λd=>aM a V (aE (aH P 35 c.val d.val)) λb=>aM a V (qr (ah P (b.heap (d.heap (c.heap H))) 3 b.val)) λf=>aM a V (aV l) λg=>aM a V (aV n) λh=>aM a V (aE (aH P 35 g.val h.val)) λe=>aM a V (qr (ah P (e.heap (h.heap (g.heap (f.heap (b.heap (d.heap (c.heap H))))))) 3 e.val)) λi=>aM a V (λq=>bq (i.heap (e.heap (h.heap (g.heap (f.heap (b.heap (d.heap (c.heap H)))))))) (G 255 [f.val,i.val] (i.heap (e.heap (h.heap (g.heap (f.heap (b.heap (d.heap (c.heap H))))))))) q) λk=>ad (aU a (D k.val) (D (Z U))) λo=>bif dF [0,0,3,7,15,15,63,127,15,15,783,1807,4095,8191] [0,1,2,3,4,5,6,7,8,9,10,11,12,13] [⟨0,.pure j,λH=>Y⟩,⟨1,.pure m,λH=>Y⟩,⟨2,.pure a,λH=>Y⟩,⟨3,.pure a,λH=>Y⟩,⟨4,c,λH=>Y⟩,⟨5,d,λH=>Y⟩,⟨6,b,λH=>Y⟩,⟨7,f,λH=>ah P H 3 b.val⟩,⟨8,g,λH=>Y⟩,⟨9,h,λH=>Y⟩,⟨10,e,λH=>Y⟩,⟨11,i,λH=>ah P H 3 e.val⟩,⟨12,k,λH=>Y⟩,⟨13,.pure o,λH=>Y⟩] H then(ay (D o) (ad (al P .add 3 V j (I J 1)) λr=>p l n r m (k.heap (i.heap (e.heap (h.heap (g.heap (f.heap (b.heap (d.heap (c.heap H)))))))))) (uN G N l n j m (k.heap (i.heap (e.heap (h.heap (g.heap (f.heap (b.heap (d.heap (c.heap H)))))))))))else Y
def uV(G:ai)(N:Nat):Nat->aa->aa->aa->aa->af->O
 |0,_,_,_,_,_=>Y
 |n+1,a,b,c,d,H=>G9 G N (uV G N n) a b c d H
def al7(G:ai)(N:Nat)(b:aa->aa->aa->aa->af->O):∀C H,aD P G N (aq (aq (aq (ae (ae (ae (aG Tryz.f257))))))) (λC H=>b (C 0) (C 1) (C 10) (C 11) H) [(0,(λC H=>uN G N (C 0) (C 1) (C 10) (C 11) H))] (ax Tryz.f257) C H=G9 G N b (C 0) (C 1) (C 10) (C 11) H:=by
 refine aI (aj _) λC H=> ?_
 delta G9;generalize uN G N=a;revert a;refine id ?_;intro a;kernel_rfl
def BA(G:ai)(N:Nat)(a b:aa)(h d:aa)(H:af):O:=ad (aH P 35 a d) λf=>ad (ah P H 3 f) λg=>ad (aH P 35 a b) λi=>ad (ah P H 3 i) λj=>ad (aH P 35 a b) λk=>aF H (aC P H 3 k g) λc=>ad (aH P 35 a d) λl=>aF c (aC P c 3 l j) λe=>ad (al P .add 3 V b (I J 1)) λm=>ad (al P .sub 3 V h (I J 1)) λn=>uV G N N a b m n e
def al8(G:ai)(N:Nat)(b:aa)(c:aa)(d:aa)(e:aa)(H:af):aB Tryz.f257 G N (aO [b,c,d,e]) H=BA G N b c d e H:=by
 refine aT (A:=aB Tryz.f257 G N) ((ar j ((ar j ((ar j ((ar j (al9 G N) ((aX j ((a_ (k:=λm C H=>uV G N m (C 0) (C 1) (C 10) (C 11) H) j (λC H=>j) (λm=>al7 G N (uV G N m)))))))) (aj _))) (aj _))) (aj _))) ?_;delta BA;generalize uV G N N=a;revert a;refine id ?_;intro a;kernel_rfl
def uX(G:ai)(a f:aa)(H:af):O:=ka P 312 5 a H λb=>ad (fv P 9 (X [0,1,2,2,3,3,3,3,4,4,4,4,4,4,4,4,5,5,5,5,5,5,5,5,5,5,5,5,5,5,5,5,6,6,6,6,6,6,6,6,6,6,6,6,6,6,6,6,6,6,6,6,6,6,6,6,6,6,6,6,6,6,6,6,7,7,7,7,7,7,7,7,7,7,7,7,7,7,7,7,7,7,7,7,7,7,7,7,7,7,7,7,7,7,7,7,7,7,7,7,7,7,7,7,7,7,7,7,7,7,7,7,7,7,7,7,7,7,7,7,7,7,7,7,7,7,7,7,8,8,8,8,8,8,8,8,8,8,8,8,8,8,8,8,8,8,8,8,8,8,8,8,8,8,8,8,8,8,8,8,8,8,8,8,8,8,8,8,8,8,8,8,8,8,8,8,8,8,8,8,8,8,8,8,8,8,8,8,8,8,8,8,8,8,8,8,8,8,8,8,8,8,8,8,8,8,8,8,8,8,8,8,8,8,8,8,8,8,8,8,8,8,8,8,8,8,8,8,8,8,8,8,8,8,8,8,8,8,8,8,8,8,8,8,8,8,8,8,8,8,8,8,8,8,8,8]) b) λc=>ka P 5 3 c H λd=>ad (al P .add 3 U f d) λe=>D (e,H)
def amf(G:ai)(N:Nat):∀C H,aD P G N (ae (ae (ae (aG Tryz.f258)))) (ax Tryz.f258) [] (ax Tryz.f258) C H=uX G (C 0) (C 2) H:=by
 refine aI (aj _) λC H=> ?_
 delta uX;kernel_rfl
def uW(G:ai)(a b:aa)(H:af):O:=ad (al P .geq 312 V a (I .u32 256)) λe=>ay (D e) (ad (al P .shr 312 V a (I .u64 8)) λc=>ad (al P .add 3 V b (I J 8)) λd=>uX G c d H) (uX G a b H)
def ame(G:ai)(N:Nat):∀C H,aD P G N (ae (ae (aG Tryz.f258))) (ax Tryz.f258) [] (ax Tryz.f258) C H=uW G (C 0) (C 2) H:=by
 refine aI ((ar j (amf G N) (aj _))) λC H=> ?_
 delta uW;generalize uX G=a;revert a;refine id ?_;intro a;kernel_rfl
def BB(G:ai)(a:aa)(H:af):O:=ad (al P .geq 312 V a (I .u32 65536)) λb=>ay (D b) (ad (al P .shr 312 V a (I .u64 16)) λc=>uW G c (I J 16) H) (uW G a (I J 0) H)
def amd(G:ai)(N:Nat)(b:aa)(H:af):aB Tryz.f258 G N (aO [b]) H=BB G b H:=by
 refine aT (A:=aB Tryz.f258 G N) ((ar j ((ar j (ame G N) (aj _))) (aj _))) ?_;delta BB;generalize uW G=a;revert a;refine id ?_;intro a;kernel_rfl
def u0(G:ai)(a b:aa)(H:af):O:=ka P 231 5 a H λc=>ad (fv P 9 (X [0,1,2,2,3,3,3,3,4,4,4,4,4,4,4,4,5,5,5,5,5,5,5,5,5,5,5,5,5,5,5,5,6,6,6,6,6,6,6,6,6,6,6,6,6,6,6,6,6,6,6,6,6,6,6,6,6,6,6,6,6,6,6,6,7,7,7,7,7,7,7,7,7,7,7,7,7,7,7,7,7,7,7,7,7,7,7,7,7,7,7,7,7,7,7,7,7,7,7,7,7,7,7,7,7,7,7,7,7,7,7,7,7,7,7,7,7,7,7,7,7,7,7,7,7,7,7,7,8,8,8,8,8,8,8,8,8,8,8,8,8,8,8,8,8,8,8,8,8,8,8,8,8,8,8,8,8,8,8,8,8,8,8,8,8,8,8,8,8,8,8,8,8,8,8,8,8,8,8,8,8,8,8,8,8,8,8,8,8,8,8,8,8,8,8,8,8,8,8,8,8,8,8,8,8,8,8,8,8,8,8,8,8,8,8,8,8,8,8,8,8,8,8,8,8,8,8,8,8,8,8,8,8,8,8,8,8,8,8,8,8,8,8,8,8,8,8,8,8,8,8,8,8,8,8,8]) c) λd=>ka P 5 3 d H λe=>ad (al P .add 3 U b e) λf=>D (f,H)
def amj(G:ai)(N:Nat):∀C H,aD P G N (ae (ae (ae (ae (aG Tryz.f259))))) (ax Tryz.f259) [] (ax Tryz.f259) C H=u0 G (C 0) (C 2) H:=by
 refine aI (aj _) λC H=> ?_
 delta u0;kernel_rfl
def uZ(G:ai)(a b:aa)(H:af):O:=ad (al P .geq 231 V a (I .u64 256)) λc=>ay (D c) (ad (al P .shr 231 V a (I .u64 8)) λd=>ad (al P .add 3 V b (I J 8)) λe=>u0 G d e H) (u0 G a b H)
def ami(G:ai)(N:Nat):∀C H,aD P G N (ae (ae (ae (aG Tryz.f259)))) (ax Tryz.f259) [] (ax Tryz.f259) C H=uZ G (C 0) (C 2) H:=by
 refine aI ((ar j (amj G N) (aj _))) λC H=> ?_
 delta uZ;generalize u0 G=a;revert a;refine id ?_;intro a;kernel_rfl
def uY(G:ai)(a b:aa)(H:af):O:=ad (al P .geq 231 V a (I .u64 65536)) λe=>ay (D e) (ad (al P .shr 231 V a (I .u64 16)) λc=>ad (al P .add 3 V b (I J 16)) λd=>uZ G c d H) (uZ G a b H)
def amh(G:ai)(N:Nat):∀C H,aD P G N (ae (ae (aG Tryz.f259))) (ax Tryz.f259) [] (ax Tryz.f259) C H=uY G (C 0) (C 2) H:=by
 refine aI ((ar j (ami G N) (aj _))) λC H=> ?_
 delta uY;generalize uZ G=a;revert a;refine id ?_;intro a;kernel_rfl
def BD(G:ai)(a:aa)(H:af):O:=ad (al P .geq 231 V a (I .u64 4294967296)) λb=>ay (D b) (ad (al P .shr 231 V a (I .u64 32)) λc=>uY G c (I J 32) H) (uY G a (I J 0) H)
def amg(G:ai)(N:Nat)(b:aa)(H:af):aB Tryz.f259 G N (aO [b]) H=BD G b H:=by
 refine aT (A:=aB Tryz.f259 G N) ((ar j ((ar j (amh G N) (aj _))) (aj _))) ?_;delta BD;generalize uY G=a;revert a;refine id ?_;intro a;kernel_rfl
def vA(G:ai)(N:Nat)(g:aa->aa->aa->aa->af->O)(a i:aa)(b e d:aa)(H:af):O:=ad (al P .add 3 U b e) λj=>ad (aH P 35 a j) λk=>ad (ah P H 3 k) λl=>ad (al P .add 3 U b d) λm=>ad (aH P 35 a m) λn=>ad (ah P H 3 n) λo=>aw H (G 255 [l,o] H) λp c=>ad (bu .not p) λq=>ay (D q) (D (.tuple [],c)) (ad (al P .add 3 U b e) λr=>ad (al P .add 3 U b d) λt=>ad (aH P 35 a t) λu=>ad (ah P c 3 u) λv=>ad (al P .add 3 U b e) λw=>ad (aH P 35 a w) λx=>ad (ah P c 3 x) λy=>ad (aH P 35 a r) λz=>aF c (aC P c 3 z v) λf=>ad (al P .add 3 U b d) λs=>ad (aH P 35 a s) λA=>aF f (aC P f 3 A y) λh=>g a i b d h)
def anJ(G:ai)(N:Nat)(a:aa->aa->aa->aa->af->O):∀C H,aD P G N (ae (ae (ae (aq (aq (aq (ae (aG Tryz.f291)))))))) (λC H=>a (C 0) (C 2) (C 3) (C 8) H) [(1,(λC H=>a (C 0) (C 2) (C 3) (C 8) H)),(0,(ax Tryz.f291))] (ax Tryz.f291) C H=vA G N a (C 0) (C 2) (C 3) (C 8) (C 9) H:=by
 refine aI (aj _) λC H=> ?_
 delta vA;kernel_rfl
def Ho(G:ai)(N:Nat)(v:aa->aa->aa->aa->af->O)(s p:aa)(t u:aa)(H:af):O:=ad (al P .mul 3 V (I J 2) u) λy=>ad (al P .add 3 V y (I J 1)) λn=>ad (al P .geq 3 U n p) λz=>ay (D z) (D (.tuple [],H)) (ad (al P .add 3 V n (I J 1)) λw=>ad (al P .lss 3 U w p) λa=>aM a V (aV s) λc=>aM a V (aV t) λd=>aM a V (aV n) λf=>aM a V (aE (al P .add 3 U d.val f.val)) λg=>aM a V (aE (aH P 35 c.val g.val)) λb=>aM a V (qr (ah P (b.heap (g.heap (f.heap (d.heap (c.heap H))))) 3 b.val)) λi=>aM a V (aV s) λj=>aM a V (aV t) λk=>aM a V (aV n) λl=>aM a V (aE (al P .add 3 U k.val l.val)) λm=>aM a V (aE (al P .add 3 V m.val (I J 1))) λh=>aM a V (aE (aH P 35 j.val h.val)) λe=>aM a V (qr (ah P (e.heap (h.heap (m.heap (l.heap (k.heap (j.heap (i.heap (b.heap (g.heap (f.heap (d.heap (c.heap H)))))))))))) 3 e.val)) λo=>aM a V (λq=>bq (o.heap (e.heap (h.heap (m.heap (l.heap (k.heap (j.heap (i.heap (b.heap (g.heap (f.heap (d.heap (c.heap H))))))))))))) (G 255 [i.val,o.val] (o.heap (e.heap (h.heap (m.heap (l.heap (k.heap (j.heap (i.heap (b.heap (g.heap (f.heap (d.heap (c.heap H)))))))))))))) q) λr=>ad (aU a (D r.val) (D (Z U))) λx=>bif dF [0,1,0,7,15,31,31,31,223,511,1023,31,31,31,12319,28703,63519,129055,262143,524287] [0,1,2,3,4,5,6,7,8,9,10,11,12,13,14,15,16,17,18,19] [⟨0,.pure n,λH=>Y⟩,⟨1,.pure w,λH=>Y⟩,⟨2,.pure p,λH=>Y⟩,⟨3,.pure a,λH=>Y⟩,⟨4,.pure a,λH=>Y⟩,⟨5,c,λH=>Y⟩,⟨6,d,λH=>Y⟩,⟨7,f,λH=>Y⟩,⟨8,g,λH=>Y⟩,⟨9,b,λH=>Y⟩,⟨10,i,λH=>ah P H 3 b.val⟩,⟨11,j,λH=>Y⟩,⟨12,k,λH=>Y⟩,⟨13,l,λH=>Y⟩,⟨14,m,λH=>Y⟩,⟨15,h,λH=>Y⟩,⟨16,e,λH=>Y⟩,⟨17,o,λH=>ah P H 3 e.val⟩,⟨18,r,λH=>Y⟩,⟨19,.pure x,λH=>Y⟩] H then(ay (D x) (ad (al P .add 3 V n (I J 1)) λA=>vA G N v s p t u A (r.heap (o.heap (e.heap (h.heap (m.heap (l.heap (k.heap (j.heap (i.heap (b.heap (g.heap (f.heap (d.heap (c.heap H))))))))))))))) (vA G N v s p t u n (r.heap (o.heap (e.heap (h.heap (m.heap (l.heap (k.heap (j.heap (i.heap (b.heap (g.heap (f.heap (d.heap (c.heap H))))))))))))))))else Y)
def vB(G:ai)(N:Nat):Nat->aa->aa->aa->aa->af->O
 |0,_,_,_,_,_=>Y
 |n+1,a,b,c,d,H=>Ho G N (vB G N n) a b c d H
def anH(G:ai)(N:Nat)(a:aa->aa->aa->aa->af->O):∀C H,aD P G N (aq (aq (ae (aG Tryz.f291)))) (λC H=>a (C 0) (C 2) (C 3) (C 8) H) [(0,(ax Tryz.f291))] (ax Tryz.f291) C H=Ho G N a (C 0) (C 2) (C 3) (C 8) H:=by
 refine aI ((aX j ((ar j ((ar j ((ar j (anJ G N a) (aj _))) (aj _))) (aj _))))) λC H=> ?_
 delta Ho;generalize vA G N a=b;revert b;refine id ?_;intro b;kernel_rfl
def B9(G:ai)(N:Nat)(a b:aa)(c d:aa)(H:af):O:=vB G N N a c d b H
def anI(G:ai)(N:Nat)(b:aa)(c:aa)(d:aa)(e:aa)(H:af):aB Tryz.f291 G N (aO [b,c,d,e]) H=B9 G N b c d e H:=by
 refine aT (A:=aB Tryz.f291 G N) ((ar j ((aX j ((a_ (k:=λm C H=>vB G N m (C 0) (C 2) (C 3) (C 8) H) j (λC H=>j) (λm=>anH G N (vB G N m)))))) (aj _))) ?_;delta B9;generalize vB G N N=a;revert a;refine id ?_;intro a;kernel_rfl
def B_(G:ai)(b:aa)(H:af):O:=ka P 3 281 b H λc=>aw H (G 217 [c] H) λd a=>ad (al P .shl 281 V (I .u64 1) d) λe=>D (e,a)
def anK(G:ai)(N:Nat)(a:aa)(H:af):aB Tryz.f292 G N (aO [a]) H=B_ G a H:=by
 refine aT (A:=aB Tryz.f292 G N) (aj _) ?_;delta B_;kernel_rfl
def Ca(G:ai)(a:aa)(H:af):O:=ad (aL a) λw=>ad (ah P H 341 w) λx=>ad (aL a) λy=>ad (ah P H 341 y) λz=>ad (al P .shl 341 V z (I .u64 13)) λA=>ad (al P .xor 341 U x A) λe=>ad (aL a) λf=>aF H (aC P H 341 f e) λb=>ad (aL a) λg=>ad (ah P b 341 g) λh=>ad (aL a) λi=>ad (ah P b 341 i) λj=>ad (al P .shr 341 V j (I .u64 7)) λk=>ad (al P .xor 341 U h k) λl=>ad (aL a) λm=>aF b (aC P b 341 m l) λc=>ad (aL a) λn=>ad (ah P c 341 n) λo=>ad (aL a) λp=>ad (ah P c 341 p) λq=>ad (al P .shl 341 V q (I .u64 17)) λr=>ad (al P .xor 341 U o r) λs=>ad (aL a) λt=>aF c (aC P c 341 t s) λd=>ad (aL a) λu=>ad (ah P d 341 u) λv=>D (v,d)
def anL(G:ai)(N:Nat)(a:aa)(H:af):aB Tryz.f293 G N (aO [a]) H=Ca G a H:=by
 refine aT (A:=aB Tryz.f293 G N) (aj _) ?_;delta Ca;kernel_rfl
def Cb(G:ai)(c a f:aa)(H:af):O:=ad (al P .sub 3 V a (I J 1)) λg=>ad (al P .add 3 V a (I J 1)) λd=>aw H (G 295 [c,g,a,d,f] H) λe b=>D (e,b)
def anM(G:ai)(N:Nat)(a:aa)(b:aa)(c:aa)(H:af):aB Tryz.f294 G N (aO [a,b,c]) H=Cb G a b c H:=by
 refine aT (A:=aB Tryz.f294 G N) (aj _) ?_;delta Cb;kernel_rfl
def Cc(G:ai)(a i:aa)(l n b:aa)(H:af):O:=aw H (G 321 [a,i,l,b] H) λe c=>ad (bJ e 0) λj=>ad (bJ e 1) λk=>aw c (G 321 [a,k,n,b] c) λf d=>ad (bJ f 0) λm=>ad (bJ f 1) λp=>aw d (G 321 [a,j,m,b] d) λg h=>ad (bJ g 0) λq=>ad (bJ g 1) λo=>D (o,h)
def anN(G:ai)(N:Nat)(a:aa)(b:aa)(c:aa)(d:aa)(e:aa)(H:af):aB Tryz.f295 G N (aO [a,b,c,d,e]) H=Cc G a b c d e H:=by
 refine aT (A:=aB Tryz.f295 G N) (aj _) ?_;delta Cc;kernel_rfl
def Cd(G:ai)(a:aa)(H:af):O:=ad (al P .neq 3 U a a) λb=>D (b,H)
def anO(G:ai)(N:Nat)(a:aa)(H:af):aB Tryz.f296 G N (aO [a]) H=Cd G a H:=by
 refine aT (A:=aB Tryz.f296 G N) (aj _) ?_;delta Cd;kernel_rfl
def CC(G:ai)(d b:aa)(c e:aa)(H:af):O:=ad (aH P 35 d c) λg=>ad (ah P H 3 g) λh=>ad (aH P 35 d b) λi=>ad (ah P H 3 i) λj=>aw H (G 255 [h,j] H) λk a=>ay (D k) (ad (aL e) λl=>ad (ah P a 3 l) λm=>ad (al P .add 3 V m (I J 1)) λn=>ad (aL e) λo=>aF a (aC P a 3 o n) λf=>D (.tuple [c,b],f)) (D (.tuple [b,c],a))
def aoD(G:ai)(N:Nat)(a:aa)(b:aa)(c:aa)(d:aa)(H:af):aB Tryz.f321 G N (aO [a,b,c,d]) H=CC G a b c d H:=by
 refine aT (A:=aB Tryz.f321 G N) (aj _) ?_;delta CC;kernel_rfl
def A0(G:ai)(b:aa)(H:af):O:=ay (D (Z U)) (ka P 281 312 b H λc=>aw H (G 258 [c] H) λd a=>D (d,a)) (aw H (G 259 [b] H) λe a=>D (e,a))
def akb(G:ai)(N:Nat)(a:aa)(H:af):aB Tryz.f217 G N (aO [a]) H=A0 G a H:=by
 refine aT (A:=aB Tryz.f217 G N) (aj _) ?_;delta A0;kernel_rfl
