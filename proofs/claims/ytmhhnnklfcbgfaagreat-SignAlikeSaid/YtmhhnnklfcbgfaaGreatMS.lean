/-
  Texts of one proof, laid together: ShF Ra Rb.
-/
import Derived.Test.YtmhhnnklfcbgfaaGreatMR
set_option linter.unusedVariables false
set_option linter.unusedSimpArgs false
set_option linter.defProp false
open Option renaming some→D,none→I
open Bool renaming true→C,false→Z
namespace Go.Proofs.YtmhhnnklfcbgfaaGreat
open Go.bo
section
set_option maxRecDepth 100000
noncomputable section
def ky(G:an)(N:Nat)(x2 x8:aa)(H:ad):O:=af (aj P H 33 x8) λa=>bY H (bA P H 33 x2 a) λae=>af (aj P ae 33 x2) λr=>D (.tuple [r,.int .i64 0],ae)
def V9(G:an)(N:Nat):∀R H,aX P G N (j (j (j (j (j (j (j (j (j (j (bb Tryz.f132))))))))))) (aR Tryz.f132) [] (aR Tryz.f132) R H=ky G N (R 2) (R 8) H:=by
 refine bj (aw _) λR H=> ?_
 delta ky;kernel_rfl
def mA(G:an)(N:Nat)(L5:aa->aa->aa->aa->aa->aa->ad->O)(x1 x2:aa)(x8 x87:aa)(x88 x89:aa)(H:ad):O:=af (ar P .add 3 C x89 (.int .i64 1)) λa=>L5 x1 x2 x8 x87 x88 a H
def V_(G:an)(N:Nat)(L5:aa->aa->aa->aa->aa->aa->ad->O):∀R H,aX P G N (j (j (j (aE (aE (j (aE (j (j (j (j (j (j (j (j (j (bb Tryz.f132))))))))))))))))) (λR H=>L5 (R 1) (R 2) (R 8) (R 87) (R 88) (R 89) H) [(10,(λR H=>ky G N (R 2) (R 8) H))] (aR Tryz.f132) R H=mA G N L5 (R 1) (R 2) (R 8) (R 87) (R 88) (R 89) H:=by
 refine bj (aw _) λR H=> ?_
 delta mA;kernel_rfl
def oG(G:an)(N:Nat)(L5:aa->aa->aa->aa->aa->aa->ad->O)(x1 x2:aa)(x8 f:aa)(x87 x88 x89:aa)(H:ad):O:=af (av P 33 x8 3) λa=>af (aj P H 31 a) λb=>bx H (cv P (H).next 31 1 [(0,f)]) λc ae=>aU ae (cS P ae [31,31] b c) λd ah=>af (av P 33 x8 3) λe=>bY ah (bA P ah 31 e d) λak=>mA G N L5 x1 x2 x8 x87 x88 x89 ak
def Wa(G:an)(N:Nat)(L5:aa->aa->aa->aa->aa->aa->ad->O):∀R H,aX P G N (j (j (j (aE (aE (j (j (aE (aE (j (aE (j (j (j (j (j (j (j (j (j (bb Tryz.f132))))))))))))))))))))) (λR H=>mA G N L5 (R 1) (R 2) (R 8) (R 87) (R 88) (R 89) H) [(11,(λR H=>mA G N L5 (R 1) (R 2) (R 8) (R 87) (R 88) (R 89) H)),(10,(λR H=>ky G N (R 2) (R 8) H))] (aR Tryz.f132) R H=oG G N L5 (R 1) (R 2) (R 8) (R 17) (R 87) (R 88) (R 89) H:=by
 refine bj (aw _) λR H=> ?_
 delta oG;generalize mA G N L5=a;revert a;refine id ?_;intro a;kernel_rfl
def tK(G:an)(N:Nat)(L5:aa->aa->aa->aa->aa->aa->ad->O)(g:aa->aa->aa->aa->aa->aa->aa->aa->aa->aa->ad->O)(x1 x2:aa)(x8 e:aa)(f x87:aa)(x88 x89:aa)(d a:aa)(H:ad):O:=af (ar P .lss 3 Z a d) λh=>aP (D h) (af (aj P H 154 x1) λi=>aU H (G 191 [i,e,a] H) λj ae=>af (av P 33 x8 1) λb=>af (aj P ae 30 b) λc=>aU ae (G 190 [c,j] ae) λk ah=>bx ah (cv P (ah).next 30 1 [(0,k)]) λl ak=>aU ak (cS P ak [30,30] f l) λm au=>bif ((aV (aj P H 30 b) c&&(aV (aj P ae 30 b) c&&C))&&C)then(af (ar P .add 3 C a (.int .i64 1)) λn=>g x1 x2 x8 e m x87 x88 x89 d n au)else I) (oG G N L5 x1 x2 x8 f x87 x88 x89 H)
def mF(G:an)(N:Nat)(L5:aa->aa->aa->aa->aa->aa->ad->O):Nat->aa->aa->aa->aa->aa->aa->aa->aa->aa->aa->ad->O
 |0,_,_,_,_,_,_,_,_,_,_,_=>I
 |n+1,x1,x2,x8,c,d,x87,x88,x89,a,b,H=>tK G N L5 (mF G N L5 n) x1 x2 x8 c d x87 x88 x89 a b H
def V2(G:an)(N:Nat)(L5:aa->aa->aa->aa->aa->aa->ad->O)(b:aa->aa->aa->aa->aa->aa->aa->aa->aa->aa->ad->O):∀R H,aX P G N (aE (aE (j (aE (j (j (aE (aE (j (j (aE (aE (j (aE (j (j (j (j (j (j (j (j (j (bb Tryz.f132)))))))))))))))))))))))) (λR H=>b (R 1) (R 2) (R 8) (R 16) (R 17) (R 87) (R 88) (R 89) (R 100) (R 101) H) [(12,(λR H=>oG G N L5 (R 1) (R 2) (R 8) (R 17) (R 87) (R 88) (R 89) H)),(11,(λR H=>mA G N L5 (R 1) (R 2) (R 8) (R 87) (R 88) (R 89) H)),(10,(λR H=>ky G N (R 2) (R 8) H))] (aR Tryz.f132) R H=tK G N L5 b (R 1) (R 2) (R 8) (R 16) (R 17) (R 87) (R 88) (R 89) (R 100) (R 101) H:=by
 refine bj (aw _) λR H=> ?_
 delta tK;generalize oG G N L5=a;revert a;refine id ?_;intro a;kernel_rfl
def tJ(G:an)(N:Nat)(L5:aa->aa->aa->aa->aa->aa->ad->O)(x1 x2:aa)(x8 x87:aa)(x88 x89:aa)(H:ad):O:=af (ar P .lss 3 Z x89 x88) λc=>aP (D c) (af (a6 P 31 x87 x89) λd=>af (aj P H 30 d) λa=>af (av P 154 x1 1) λe=>af (aj P H 152 e) λf=>af (a6 P 30 a (.int .i64 0)) λg=>af (aj P H 3 g) λh=>af (a6 P 152 f h) λi=>af (aj P H 31 i) λj=>bf P .len [31] [j] H λb=>mF G N L5 N x1 x2 x8 a aa.aB x87 x88 x89 b (.int .i64 0) H) (ky G N x2 x8 H)
def mE(G:an)(N:Nat):Nat->aa->aa->aa->aa->aa->aa->ad->O
 |0,_,_,_,_,_,_,_=>I
 |n+1,x1,x2,x8,x87,x88,x89,H=>tJ G N (mE G N n) x1 x2 x8 x87 x88 x89 H
def V1(G:an)(N:Nat)(L5:aa->aa->aa->aa->aa->aa->ad->O):∀R H,aX P G N (aE (aE (j (aE (j (j (j (j (j (j (j (j (j (bb Tryz.f132)))))))))))))) (λR H=>L5 (R 1) (R 2) (R 8) (R 87) (R 88) (R 89) H) [(10,(λR H=>ky G N (R 2) (R 8) H))] (aR Tryz.f132) R H=tJ G N L5 (R 1) (R 2) (R 8) (R 87) (R 88) (R 89) H:=by
 refine bj ((aF ag ((aF ag ((aF ag (V_ G N L5) ((bX ag ((aF ag ((aF ag ((aF ag (Wa G N L5) ((aF ag ((bX ag ((cj (k:=λm R H=>mF G N L5 m (R 1) (R 2) (R 8) (R 16) (R 17) (R 87) (R 88) (R 89) (R 100) (R 101) H) ag (λR H=>ag) (λm=>V2 G N L5 (mF G N L5 m)))))) (aw _))))) (aw _))) (aw _))))))) (aw _))) (aw _))) λR H=> ?_
 delta tJ;generalize ky G N=a;generalize mF G N L5 N=b;revert a b;refine id ?_;intro a b;kernel_rfl
def oF(G:an)(N:Nat)(x1 x2:aa)(x7 x8:aa)(H:ad):O:=bf P .len [31] [x7] H λx88=>mE G N N x1 x2 x8 x7 x88 (.int .i64 0) H
def V8(G:an)(N:Nat):∀R H,aX P G N (j (j (j (j (j (j (j (j (j (bb Tryz.f132)))))))))) (aR Tryz.f132) [] (aR Tryz.f132) R H=oF G N (R 1) (R 2) (R 7) (R 8) H:=by
 refine bj ((aF ag (V9 G N) ((aF ag ((bX ag ((cj (k:=λm R H=>mE G N m (R 1) (R 2) (R 8) (R 87) (R 88) (R 89) H) ag (λR H=>ag) (λm=>V1 G N (mE G N m)))))) (aw _))))) λR H=> ?_
 delta oF;generalize mE G N N=a;revert a;refine id ?_;intro a;kernel_rfl
def tL(G:an)(N:Nat)(f:aa->aa->aa->aa->aa->aa->aa->ad->O)(x1 x2:aa)(x7 x8:aa)(d e c:aa)(H:ad):O:=af (ar P .lss 3 Z c e) λg=>aP (D g) (af (a6 P 31 d c) λh=>af (aj P H 30 h) λi=>af (av P 33 x8 1) λj=>af (aj P H 30 j) λk=>aU H (G 190 [k,i] H) λl ae=>af (av P 33 x8 2) λa=>af (aj P ae 30 a) λb=>bx ae (cv P (ae).next 30 1 [(0,l)]) λm ah=>aU ah (cS P ah [30,30] b m) λn ak=>af (av P 33 x8 2) λo=>bY ak (bA P ak 30 o n) λau=>bif ((aV (aj P H 30 a) b&&(aV (aj P ae 30 a) b&&(aV (aj P ah 30 a) b&&C)))&&C)then(af (ar P .add 3 C c (.int .i64 1)) λp=>f x1 x2 x7 x8 d e p au)else I) (oF G N x1 x2 x7 x8 H)
def mG(G:an)(N:Nat):Nat->aa->aa->aa->aa->aa->aa->aa->ad->O
 |0,_,_,_,_,_,_,_,_=>I
 |n+1,x1,x2,x7,x8,a,b,c,H=>tL G N (mG G N n) x1 x2 x7 x8 a b c H
def V3(G:an)(N:Nat)(b:aa->aa->aa->aa->aa->aa->aa->ad->O):∀R H,aX P G N (aE (aE (j (aE (j (j (j (j (j (j (j (j (bb Tryz.f132))))))))))))) (λR H=>b (R 1) (R 2) (R 7) (R 8) (R 71) (R 72) (R 73) H) [(8,(λR H=>oF G N (R 1) (R 2) (R 7) (R 8) H))] (aR Tryz.f132) R H=tL G N b (R 1) (R 2) (R 7) (R 8) (R 71) (R 72) (R 73) H:=by
 refine bj (aw _) λR H=> ?_
 delta tL;generalize oF G N=a;revert a;refine id ?_;intro a;kernel_rfl
def lo(G:an)(N:Nat)(x1 x2:aa)(x7 x8:aa)(H:ad):O:=af (av P 154 x1 0) λb=>af (aj P H 31 b) λa=>bf P .len [31] [a] H λc=>mG G N N x1 x2 x7 x8 a c (.int .i64 0) H
def V7(G:an)(N:Nat):∀R H,aX P G N (j (j (j (j (j (j (j (j (bb Tryz.f132))))))))) (aR Tryz.f132) [] (aR Tryz.f132) R H=lo G N (R 1) (R 2) (R 7) (R 8) H:=by
 refine bj ((aF ag (V8 G N) ((aF ag ((bX ag ((cj (k:=λm R H=>mG G N m (R 1) (R 2) (R 7) (R 8) (R 71) (R 72) (R 73) H) ag (λR H=>ag) (λm=>V3 G N (mG G N m)))))) (aw _))))) λR H=> ?_
 delta lo;generalize mG G N N=a;revert a;refine id ?_;intro a;kernel_rfl
def mz(G:an)(N:Nat)(L10:aa->aa->aa->aa->aa->aa->aa->ad->O)(x1 x2:aa)(x7 x8:aa)(x50 x51 x52:aa)(H:ad):O:=af (ar P .add 3 C x52 (.int .i64 1)) λa=>L10 x1 x2 x7 x8 x50 x51 a H
def V5(G:an)(N:Nat)(L10:aa->aa->aa->aa->aa->aa->aa->ad->O):∀R H,aX P G N (j (j (j (aE (aE (j (aE (j (j (j (j (j (j (j (bb Tryz.f132))))))))))))))) (λR H=>L10 (R 1) (R 2) (R 7) (R 8) (R 50) (R 51) (R 52) H) [(4,(λR H=>lo G N (R 1) (R 2) (R 7) (R 8) H))] (aR Tryz.f132) R H=mz G N L10 (R 1) (R 2) (R 7) (R 8) (R 50) (R 51) (R 52) H:=by
 refine bj (aw _) λR H=> ?_
 delta mz;kernel_rfl
def tH(G:an)(N:Nat)(L10:aa->aa->aa->aa->aa->aa->aa->ad->O)(e:aa->aa->aa->aa->aa->aa->aa->aa->aa->aa->aa->ad->O)(x1 x2:aa)(x7 x8:aa)(d x50:aa)(x51 x52:aa)(b c a:aa)(H:ad):O:=af (ar P .lss 3 Z a c) λf=>aP (D f) (af (a6 P 30 b a) λg=>af (aj P H 3 g) λh=>af (av P 33 x8 1) λi=>af (aj P H 30 i) λj=>af (a6 P 30 j h) λk=>bY H (bA P H 3 k d) λae=>af (ar P .add 3 C a (.int .i64 1)) λl=>e x1 x2 x7 x8 d x50 x51 x52 b c l ae) (mz G N L10 x1 x2 x7 x8 x50 x51 x52 H)
def mC(G:an)(N:Nat)(L10:aa->aa->aa->aa->aa->aa->aa->ad->O):Nat->aa->aa->aa->aa->aa->aa->aa->aa->aa->aa->aa->ad->O
 |0,_,_,_,_,_,_,_,_,_,_,_,_=>I
 |n+1,x1,x2,x7,x8,d,x50,x51,x52,a,b,c,H=>tH G N L10 (mC G N L10 n) x1 x2 x7 x8 d x50 x51 x52 a b c H
def VY(G:an)(N:Nat)(L10:aa->aa->aa->aa->aa->aa->aa->ad->O)(b:aa->aa->aa->aa->aa->aa->aa->aa->aa->aa->aa->ad->O):∀R H,aX P G N (aE (aE (j (j (aE (aE (j (j (aE (aE (j (aE (j (j (j (j (j (j (j (bb Tryz.f132)))))))))))))))))))) (λR H=>b (R 1) (R 2) (R 7) (R 8) (R 9) (R 50) (R 51) (R 52) (R 57) (R 58) (R 59) H) [(6,(λR H=>mz G N L10 (R 1) (R 2) (R 7) (R 8) (R 50) (R 51) (R 52) H)),(5,(λR H=>mz G N L10 (R 1) (R 2) (R 7) (R 8) (R 50) (R 51) (R 52) H)),(4,(λR H=>lo G N (R 1) (R 2) (R 7) (R 8) H))] (aR Tryz.f132) R H=tH G N L10 b (R 1) (R 2) (R 7) (R 8) (R 9) (R 50) (R 51) (R 52) (R 57) (R 58) (R 59) H:=by
 refine bj (aw _) λR H=> ?_
 delta tH;generalize mz G N L10=a;revert a;refine id ?_;intro a;kernel_rfl
def tG(G:an)(N:Nat)(L10:aa->aa->aa->aa->aa->aa->aa->ad->O)(x1 x2:aa)(x7 x8:aa)(x50 x51 x52:aa)(H:ad):O:=af (ar P .lss 3 Z x52 x51) λb=>aP (D b) (af (a6 P 31 x50 x52) λc=>af (aj P H 30 c) λa=>bf P .len [30] [a] H λd=>mC G N L10 N x1 x2 x7 x8 x52 x50 x51 x52 a d (.int .i64 0) H) (lo G N x1 x2 x7 x8 H)
def mB(G:an)(N:Nat):Nat->aa->aa->aa->aa->aa->aa->aa->ad->O
 |0,_,_,_,_,_,_,_,_=>I
 |n+1,x1,x2,x7,x8,x50,x51,x52,H=>tG G N (mB G N n) x1 x2 x7 x8 x50 x51 x52 H
def VX(G:an)(N:Nat)(L10:aa->aa->aa->aa->aa->aa->aa->ad->O):∀R H,aX P G N (aE (aE (j (aE (j (j (j (j (j (j (j (bb Tryz.f132)))))))))))) (λR H=>L10 (R 1) (R 2) (R 7) (R 8) (R 50) (R 51) (R 52) H) [(4,(λR H=>lo G N (R 1) (R 2) (R 7) (R 8) H))] (aR Tryz.f132) R H=tG G N L10 (R 1) (R 2) (R 7) (R 8) (R 50) (R 51) (R 52) H:=by
 refine bj ((aF ag ((aF ag ((aF ag (V5 G N L10) ((bX ag ((aF ag ((aF ag ((bX ag ((cj (k:=λm R H=>mC G N L10 m (R 1) (R 2) (R 7) (R 8) (R 9) (R 50) (R 51) (R 52) (R 57) (R 58) (R 59) H) ag (λR H=>ag) (λm=>VY G N L10 (mC G N L10 m)))))) (aw _))) (aw _))))))) (aw _))) (aw _))) λR H=> ?_
 delta tG;generalize lo G N=a;generalize mC G N L10 N=b;revert a b;refine id ?_;intro a b;kernel_rfl
def oE(G:an)(N:Nat)(x1 x2 x4:aa)(H:ad):O:=aU H (G 189 [x4] H) λa ae=>bf P .len [31] [a] ae λc=>af (av P 154 x1 1) λd=>af (aj P ae 152 d) λe=>bf P .len [152] [e] ae λb=>bx ae (e5 (fw P ⟨.leaf,(ae).next⟩ 30 b b) (ae).next) λf ah=>af (c7 P 33 [(0,c),(1,f)]) λg=>cA ah [.int .i64 0,aa.aB,aa.aB,aa.aB] λx8 ak=>bY ak (bA P ak 33 x8 g) λau=>bf P .len [31] [a] au λx51=>mB G N N x1 x2 a x8 a x51 (.int .i64 0) au
def V6(G:an)(N:Nat):∀R H,aX P G N (j (j (j (j (j (bb Tryz.f132)))))) (aR Tryz.f132) [] (aR Tryz.f132) R H=oE G N (R 1) (R 2) (R 4) H:=by
 refine bj ((aF ag ((aF ag ((aF ag (V7 G N) ((aF ag ((bX ag ((cj (k:=λm R H=>mB G N m (R 1) (R 2) (R 7) (R 8) (R 50) (R 51) (R 52) H) ag (λR H=>ag) (λm=>VX G N (mB G N m)))))) (aw _))))) (aw _))) (aw _))) λR H=> ?_
 delta oE;generalize mB G N N=a;revert a;refine id ?_;intro a;kernel_rfl
def xr(G:an)(N:Nat)(a:aa->aa->aa->ad->O)(x1 x2 x4:aa)(H:ad):O:=af (aj P H 154 x1) λb=>aU H (G 188 [x4,b] H) λc ae=>aP (D c) (a x1 x2 x4 ae) (oE G N x1 x2 x4 ae)
def oH(G:an)(N:Nat):Nat->aa->aa->aa->ad->O
 |0,_,_,_,_=>I
 |n+1,x1,x2,x4,H=>xr G N (oH G N n) x1 x2 x4 H
def VZ(G:an)(N:Nat)(b:aa->aa->aa->ad->O):∀R H,aX P G N (aE (aE (aE (j (j (j (j (bb Tryz.f132)))))))) (λR H=>b (R 1) (R 2) (R 4) H) [(2,(λR H=>oE G N (R 1) (R 2) (R 4) H))] (aR Tryz.f132) R H=xr G N b (R 1) (R 2) (R 4) H:=by
 refine bj (aw _) λR H=> ?_
 delta xr;generalize oE G N=a;revert a;refine id ?_;intro a;kernel_rfl
def oD(G:an)(N:Nat)(x1 x2 x4:aa)(H:ad):O:=oH G N N x1 x2 x4 H
def V4(G:an)(N:Nat):∀R H,aX P G N (j (j (j (j (bb Tryz.f132))))) (aR Tryz.f132) [] (aR Tryz.f132) R H=oD G N (R 1) (R 2) (R 4) H:=by
 refine bj ((aF ag (V6 G N) ((bX ag ((cj (k:=λm R H=>oH G N m (R 1) (R 2) (R 4) H) ag (λR H=>ag) (λm=>VZ G N (oH G N m)))))))) λR H=> ?_
 delta oD;generalize oH G N N=a;revert a;refine id ?_;intro a;kernel_rfl
def tI(G:an)(N:Nat)(d:aa->aa->aa->aa->aa->aa->ad->O)(x1 x2:aa)(x4 b:aa)(c a:aa)(H:ad):O:=af (ar P .lss 3 Z a c) λe=>aP (D e) (af (a6 P 31 b a) λf=>af (aj P H 30 f) λg=>aU H (G 187 [x4,g] H) λi ae=>af (ar P .add 3 C a (.int .i64 1)) λh=>d x1 x2 x4 b c h ae) (oD G N x1 x2 x4 H)
def mD(G:an)(N:Nat):Nat->aa->aa->aa->aa->aa->aa->ad->O
 |0,_,_,_,_,_,_,_=>I
 |n+1,x1,x2,x4,a,b,c,H=>tI G N (mD G N n) x1 x2 x4 a b c H
def V0(G:an)(N:Nat)(b:aa->aa->aa->aa->aa->aa->ad->O):∀R H,aX P G N (aE (aE (j (aE (j (j (j (bb Tryz.f132)))))))) (λR H=>b (R 1) (R 2) (R 4) (R 28) (R 29) (R 30) H) [(0,(λR H=>oD G N (R 1) (R 2) (R 4) H))] (aR Tryz.f132) R H=tI G N b (R 1) (R 2) (R 4) (R 28) (R 29) (R 30) H:=by
 refine bj (aw _) λR H=> ?_
 delta tI;generalize oD G N=a;revert a;refine id ?_;intro a;kernel_rfl
def qv(G:an)(N:Nat)(b:aa)(H:ad):O:=bx H (b0 (H).next b) λx1 ae=>cA ae [.int .i64 0,aa.aB,aa.aB,aa.aB] λx2 ah=>af (aj P ah 154 x1) λc=>aU ah (G 185 [c] ah) λd ak=>af (dg .not d) λe=>aP (D e) (bY ak (bA P ak 33 x2 (.agg [.int .i64 0,aa.aB,aa.aB,aa.aB])) λau=>af (aj P au 33 x2) λr=>D (.tuple [r,.int .i64 5],au)) (af (av P 154 x1 1) λf=>af (aj P ak 152 f) λg=>bf P .len [152] [g] ak λh=>aU ak (G 186 [h] ak) λi au=>af (av P 154 x1 0) λj=>af (aj P au 31 j) λa=>bf P .len [31] [a] au λk=>mD G N N x1 x2 i a k (.int .i64 0) au)
def GZ(G:an)(N:Nat)(b:aa)(H:ad):bd Tryz.f132 G N (bO [b]) H=qv G N b H:=by
 refine bR (A:=bd Tryz.f132 G N) ((aF ag ((aF ag ((aF ag ((aF ag (V4 G N) ((aF ag ((bX ag ((cj (k:=λm R H=>mD G N m (R 1) (R 2) (R 4) (R 28) (R 29) (R 30) H) ag (λR H=>ag) (λm=>V0 G N (mD G N m)))))) (aw _))))) (aw _))) (aw _))) (aw _))) ?_;delta qv;generalize mD G N N=a;revert a;refine id ?_;intro a;kernel_rfl
def TM(N:Nat){a:aa}{H:ad}{r:aa×ad}(h:qv (aC P ax) N a H=D r):aC P ax 132 [a] H=D r:=
 cp ag Tryz.func132 ag ag ag ((GZ (aC P ax) N a H).trans h)
def qN(G:an)(N:Nat)(H:ad):O:=some ((.bool C),H)
def W1(G:an)(N:Nat):∀R H,aX P G N (j (j (j (j (bb Tryz.f185))))) (aR Tryz.f185) [] (aR Tryz.f185) R H=qN G N H:=by
 refine bj (aw _) λR H=> ?_
 delta qN;kernel_rfl
def uk(G:an)(N:Nat)(L1:aa->aa->aa->aa->aa->ad->O)(x1 i:aa)(g h d:aa)(H:ad):O:=af (ar P .lss 3 Z d h) λl=>aP (D l) (af (a6 P 152 g d) λm=>af (aj P H 31 m) λe=>bf P .len [31] [e] H λn=>af (av P 154 x1 1) λo=>af (aj P H 152 o) λp=>af (a6 P 152 p (.int .i64 0)) λr=>af (aj P H 31 r) λs=>bf P .len [31] [s] H λt=>af (ar P .neq 3 Z n t) λb=>ao b Z H (bw e) λj ae=>ao b Z ae (λq=>cx (a2 P .empty .len [31] [j]) (a2 P ae .len [31] [j]) q) λu ah=>ao b Z ah (aH (ar P .gtr 3 C u (.int .i64 8))) λv ak=>af (ba b (D (.bool C)) (D v)) λa=>ao a Z ak (bw e) λw au=>ao a Z au (bw i) λx c=>ao a Z c (λq=>b9 c (G 226 [w,x] c) q) λz k=>ao a Z k (aH (dg .not z)) λA f=>af (ba a (D (.bool C)) (D A)) λB=>aP (D B) (D ((.bool Z),f)) (af (ar P .add 3 C d (.int .i64 1)) λE=>L1 x1 i g h E f)) (qN G N H)
def mP(G:an)(N:Nat):Nat->aa->aa->aa->aa->aa->ad->O
 |0,_,_,_,_,_,_=>I
 |n+1,x1,d,a,b,c,H=>uk G N (mP G N n) x1 d a b c H
def W0(G:an)(N:Nat)(L1:aa->aa->aa->aa->aa->ad->O):∀R H,aX P G N (aE (aE (j (aE (j (j (j (bb Tryz.f185)))))))) (λR H=>L1 (R 1) (R 3) (R 19) (R 20) (R 21) H) [(0,(λR H=>qN G N H))] (aR Tryz.f185) R H=uk G N L1 (R 1) (R 3) (R 19) (R 20) (R 21) H:=by
 refine bj (aw _) λR H=> ?_
 delta uk;generalize qN G N=a;revert a;refine id ?_;intro a;kernel_rfl
def qM(G:an)(N:Nat)(d:aa)(H:ad):O:=bx H (b0 (H).next d) λx1 ae=>af (av P 154 x1 1) λx6=>af (aj P ae 152 x6) λx7=>bf P .len [152] [x7] ae λx8=>af (ar P .gtr 3 C x8 (.int .i64 60)) λx10=>ao x10 Z ae (aH (av P 154 x1 0)) λx12 ah=>ao x10 Z ah (qr (aj P ah 31 x12)) λe ak=>ao x10 Z ak (bw x8) λf au=>ao x10 Z au (λq=>b9 au (G 226 [e,f] au) q) λg c=>ao x10 Z c (aH (dg .not g)) λh a=>af (ba x10 (D (.bool C)) (D h)) λi=>aP (D i) (D ((.bool Z),a)) (af (av P 154 x1 1) λj=>af (aj P a 152 j) λb=>bf P .len [152] [b] a λk=>mP G N N x1 x8 b k (.int .i64 0) a)
def Hj(G:an)(N:Nat)(b:aa)(H:ad):bd Tryz.f185 G N (bO [b]) H=qM G N b H:=by
 refine bR (A:=bd Tryz.f185 G N) ((aF ag ((aF ag ((aF ag ((aF ag (W1 G N) ((aF ag ((bX ag ((cj (k:=λm R H=>mP G N m (R 1) (R 3) (R 19) (R 20) (R 21) H) ag (λR H=>ag) (λm=>W0 G N (mP G N m)))))) (aw _))))) (aw _))) (aw _))) (aw _))) ?_;delta qM;generalize mP G N N=a;revert a;refine id ?_;intro a;kernel_rfl
def Ua(N:Nat){a:aa}{H:ad}{r:aa×ad}(h:qM (aC P ax) N a H=D r):aC P ax 185 [a] H=D r:=
 cp ag Tryz.func185 ag ag ag ((Hj (aC P ax) N a H).trans h)
def qP(G:an)(N:Nat)(a:aa)(H:ad):O:=some (a,H)
def W3(G:an)(N:Nat):∀R H,aX P G N (j (j (j (bb Tryz.f186)))) (aR Tryz.f186) [] (aR Tryz.f186) R H=qP G N (R 3) H:=by
 refine bj (aw _) λR H=> ?_
 delta qP;kernel_rfl
def um(G:an)(N:Nat)(L1:aa->aa->aa->ad->O)(b c a:aa)(H:ad):O:=af (ar P .lss 3 Z a c) λd=>aP (D d) (af (cr b) λe=>af (av P 292 e 0) λf=>af (aj P H 30 f) λg=>af (a6 P 30 g a) λh=>bY H (bA P H 3 h a) λae=>af (ar P .add 3 C a (.int .i64 1)) λi=>L1 b c i ae) (qP G N b H)
def mQ(G:an)(N:Nat):Nat->aa->aa->aa->ad->O
 |0,_,_,_,_=>I
 |n+1,c,a,b,H=>um G N (mQ G N n) c a b H
def W2(G:an)(N:Nat)(L1:aa->aa->aa->ad->O):∀R H,aX P G N (aE (aE (j (aE (j (j (bb Tryz.f186))))))) (λR H=>L1 (R 3) (R 15) (R 16) H) [(0,(λR H=>qP G N (R 3) H))] (aR Tryz.f186) R H=um G N L1 (R 3) (R 15) (R 16) H:=by
 refine bj (aw _) λR H=> ?_
 delta um;generalize qP G N=a;revert a;refine id ?_;intro a;kernel_rfl
def qO(G:an)(N:Nat)(a:aa)(H:ad):O:=bf P .max [3,3] [a,.int .i64 0] H λx6=>bf P .min [3,3] [x6,.int .i64 10000] H λx7=>bx H (e5 (fw P ⟨.leaf,(H).next⟩ 30 x7 x7) (H).next) λx8 ae=>af (c7 P 292 [(0,x8)]) λe=>bx ae (b0 (ae).next e) λx10 ah=>af (cr x10) λx12=>af (av P 292 x12 0) λb=>af (aj P ah 30 b) λc=>bf P .len [30] [c] ah λd=>mQ G N N x10 d (.int .i64 0) ah
def Hk(G:an)(N:Nat)(b:aa)(H:ad):bd Tryz.f186 G N (bO [b]) H=qO G N b H:=by
 refine bR (A:=bd Tryz.f186 G N) ((aF ag ((aF ag ((aF ag (W3 G N) ((aF ag ((bX ag ((cj (k:=λm R H=>mQ G N m (R 3) (R 15) (R 16) H) ag (λR H=>ag) (λm=>W2 G N (mQ G N m)))))) (aw _))))) (aw _))) (aw _))) ?_;delta qO;generalize mQ G N N=a;revert a;refine id ?_;intro a;kernel_rfl
def Ub(N:Nat){a:aa}{H:ad}{r:aa×ad}(h:qO (aC P ax) N a H=D r):aC P ax 186 [a] H=D r:=
 cp ag Tryz.func186 ag ag ag ((Hk (aC P ax) N a H).trans h)
def mR(G:an)(N:Nat)(x5:aa)(H:ad):O:=some (x5,H)
def W5(G:an)(N:Nat):∀R H,aX P G N (j (j (j (bb Tryz.f187)))) (aR Tryz.f187) [] (aR Tryz.f187) R H=mR G N (R 5) H:=by
 refine bj (aw _) λR H=> ?_
 delta mR;kernel_rfl
def oT(G:an)(N:Nat)(L1:aa->aa->aa->aa->aa->aa->ad->O)(a x1:aa)(x5 x8:aa)(c x10:aa)(H:ad):O:=af (ar P .add 3 C x10 (.int .i64 1)) λb=>L1 a x1 x5 x8 c b H
def W7(G:an)(N:Nat)(L1:aa->aa->aa->aa->aa->aa->ad->O):∀R H,aX P G N (j (j (j (aE (aE (j (aE (j (j (bb Tryz.f187)))))))))) (λR H=>L1 (R 0) (R 1) (R 5) (R 8) (R 9) (R 10) H) [(0,(λR H=>mR G N (R 5) H))] (aR Tryz.f187) R H=oT G N L1 (R 0) (R 1) (R 5) (R 8) (R 9) (R 10) H:=by
 refine bj (aw _) λR H=> ?_
 delta oT;kernel_rfl
def qR(G:an)(N:Nat)(L1:aa->aa->aa->aa->aa->aa->ad->O)(a x1:aa)(x5 x8:aa)(b x10:aa)(H:ad):O:=af (ar P .lss 3 Z x10 b) λx11=>aP (D x11) (af (a6 P 30 x8 x10) λx12=>af (aj P H 3 x12) λc=>af (a6 P 30 x1 (.int .i64 0)) λd=>af (aj P H 3 d) λe=>aU H (G 227 [a,e,c] H) λf ae=>aP (D f) (oT G N L1 a x1 (.bool C) x8 b x10 ae) (oT G N L1 a x1 x5 x8 b x10 ae)) (mR G N x5 H)
def lp(G:an)(N:Nat):Nat->aa->aa->aa->aa->aa->aa->ad->O
 |0,_,_,_,_,_,_,_=>I
 |n+1,a,x1,x5,x8,b,x10,H=>qR G N (lp G N n) a x1 x5 x8 b x10 H
def W4(G:an)(N:Nat)(L1:aa->aa->aa->aa->aa->aa->ad->O):∀R H,aX P G N (aE (aE (j (aE (j (j (bb Tryz.f187))))))) (λR H=>L1 (R 0) (R 1) (R 5) (R 8) (R 9) (R 10) H) [(0,(λR H=>mR G N (R 5) H))] (aR Tryz.f187) R H=qR G N L1 (R 0) (R 1) (R 5) (R 8) (R 9) (R 10) H:=by
 refine bj ((aF ag ((aF ag ((aF ag (W7 G N L1) (aw _))) (aw _))) (aw _))) λR H=> ?_
 delta qR;generalize mR G N=a;generalize oT G N L1=b;revert a b;refine id ?_;intro a b;kernel_rfl
def qQ(G:an)(N:Nat)(a x1:aa)(H:ad):O:=bf P .len [30] [x1] H λb=>lp G N N a x1 (.bool Z) x1 b (.int .i64 0) H
def Hl(G:an)(N:Nat)(b:aa)(x1:aa)(H:ad):bd Tryz.f187 G N (bO [b,x1]) H=qQ G N b x1 H:=by
 refine bR (A:=bd Tryz.f187 G N) ((aF ag ((aF ag ((aF ag (W5 G N) ((aF ag ((bX ag ((cj (k:=λm R H=>lp G N m (R 0) (R 1) (R 5) (R 8) (R 9) (R 10) H) ag (λR H=>ag) (λm=>W4 G N (lp G N m)))))) (aw _))))) (aw _))) (aw _))) ?_;delta qQ;generalize lp G N N=a;revert a;refine id ?_;intro a;kernel_rfl
def Uc(N:Nat){a x1:aa}{H:ad}{r:aa×ad}(h:qQ (aC P ax) N a x1 H=D r):aC P ax 187 [a,x1] H=D r:=
 cp ag Tryz.func187 ag ag ag ((Hl (aC P ax) N a x1 H).trans h)
def lq(G:an)(N:Nat)(x5:aa)(H:ad):O:=some (x5,H)
def W_(G:an)(N:Nat):∀R H,aX P G N (j (j (j (bb Tryz.f188)))) (aR Tryz.f188) [] (aR Tryz.f188) R H=lq G N (R 5) H:=by
 refine bj (aw _) λR H=> ?_
 delta lq;kernel_rfl
def kC(G:an)(N:Nat)(L1:aa->aa->aa->aa->aa->aa->ad->O)(a b:aa)(x5 x10:aa)(x11 x12:aa)(H:ad):O:=af (ar P .add 3 C x12 (.int .i64 1)) λc=>L1 a b x5 x10 x11 c H
def Xa(G:an)(N:Nat)(L1:aa->aa->aa->aa->aa->aa->ad->O):∀R H,aX P G N (j (j (j (aE (aE (j (aE (j (j (bb Tryz.f188)))))))))) (λR H=>L1 (R 0) (R 3) (R 5) (R 10) (R 11) (R 12) H) [(0,(λR H=>lq G N (R 5) H))] (aR Tryz.f188) R H=kC G N L1 (R 0) (R 3) (R 5) (R 10) (R 11) (R 12) H:=by
 refine bj (aw _) λR H=> ?_
 delta kC;kernel_rfl
def oU(G:an)(N:Nat)(L1:aa->aa->aa->aa->aa->aa->ad->O)(a:aa->aa->aa->aa->aa->aa->aa->aa->aa->ad->O)(b e:aa)(x5 x7:aa)(x10 x11:aa)(x12 c d:aa)(H:ad):O:=af (ar P .add 3 C d (.int .i64 1)) λf=>a b e x5 x7 x10 x11 x12 c f H
def Xb(G:an)(N:Nat)(L1:aa->aa->aa->aa->aa->aa->ad->O)(a:aa->aa->aa->aa->aa->aa->aa->aa->aa->ad->O):∀R H,aX P G N (j (j (j (aE (aE (j (j (aE (aE (j (j (aE (aE (j (aE (j (j (bb Tryz.f188)))))))))))))))))) (λR H=>a (R 0) (R 3) (R 5) (R 7) (R 10) (R 11) (R 12) (R 23) (R 24) H) [(2,(λR H=>kC G N L1 (R 0) (R 3) (R 5) (R 10) (R 11) (R 12) H)),(1,(λR H=>kC G N L1 (R 0) (R 3) (R 5) (R 10) (R 11) (R 12) H)),(0,(λR H=>lq G N (R 5) H))] (aR Tryz.f188) R H=oU G N L1 a (R 0) (R 3) (R 5) (R 7) (R 10) (R 11) (R 12) (R 23) (R 24) H:=by
 refine bj (aw _) λR H=> ?_
 delta oU;kernel_rfl
def uq(G:an)(N:Nat)(L1:aa->aa->aa->aa->aa->aa->ad->O)(e:aa->aa->aa->aa->aa->aa->aa->aa->aa->ad->O)(a c:aa)(x5 x7:aa)(x10 x11:aa)(x12 d b:aa)(H:ad):O:=af (ar P .lss 3 Z b d) λf=>aP (D f) (af (aj P H 154 c) λg=>aU H (G 191 [g,x7,b] H) λh ae=>aU ae (G 187 [a,h] ae) λi ah=>aP (D i) (oU G N L1 e a c (.bool C) x7 x10 x11 x12 d b ah) (oU G N L1 e a c x5 x7 x10 x11 x12 d b ah)) (kC G N L1 a c x5 x10 x11 x12 H)
def mT(G:an)(N:Nat)(L1:aa->aa->aa->aa->aa->aa->ad->O):Nat->aa->aa->aa->aa->aa->aa->aa->aa->aa->ad->O
 |0,_,_,_,_,_,_,_,_,_,_=>I
 |n+1,a,d,x5,x7,x10,x11,x12,b,c,H=>uq G N L1 (mT G N L1 n) a d x5 x7 x10 x11 x12 b c H
def W9(G:an)(N:Nat)(L1:aa->aa->aa->aa->aa->aa->ad->O)(a:aa->aa->aa->aa->aa->aa->aa->aa->aa->ad->O):∀R H,aX P G N (aE (aE (j (j (aE (aE (j (j (aE (aE (j (aE (j (j (bb Tryz.f188))))))))))))))) (λR H=>a (R 0) (R 3) (R 5) (R 7) (R 10) (R 11) (R 12) (R 23) (R 24) H) [(2,(λR H=>kC G N L1 (R 0) (R 3) (R 5) (R 10) (R 11) (R 12) H)),(1,(λR H=>kC G N L1 (R 0) (R 3) (R 5) (R 10) (R 11) (R 12) H)),(0,(λR H=>lq G N (R 5) H))] (aR Tryz.f188) R H=uq G N L1 a (R 0) (R 3) (R 5) (R 7) (R 10) (R 11) (R 12) (R 23) (R 24) H:=by
 refine bj ((aF ag ((aF ag ((aF ag (Xb G N L1 a) (aw _))) (aw _))) (aw _))) λR H=> ?_
 delta uq;generalize kC G N L1=b;generalize oU G N L1 a=c;revert b c;refine id ?_;intro b c;kernel_rfl
def uo(G:an)(N:Nat)(L1:aa->aa->aa->aa->aa->aa->ad->O)(c b:aa)(x5 x10:aa)(x11 x12:aa)(H:ad):O:=af (ar P .lss 3 Z x12 x11) λd=>aP (D d) (af (a6 P 31 x10 x12) λe=>af (aj P H 30 e) λa=>af (av P 154 b 1) λf=>af (aj P H 152 f) λg=>af (a6 P 30 a (.int .i64 0)) λh=>af (aj P H 3 h) λi=>af (a6 P 152 g i) λj=>af (aj P H 31 j) λk=>bf P .len [31] [k] H λl=>mT G N L1 N c b x5 a x10 x11 x12 l (.int .i64 0) H) (lq G N x5 H)
def mS(G:an)(N:Nat):Nat->aa->aa->aa->aa->aa->aa->ad->O
 |0,_,_,_,_,_,_,_=>I
 |n+1,a,b,x5,x10,x11,x12,H=>uo G N (mS G N n) a b x5 x10 x11 x12 H
def W8(G:an)(N:Nat)(L1:aa->aa->aa->aa->aa->aa->ad->O):∀R H,aX P G N (aE (aE (j (aE (j (j (bb Tryz.f188))))))) (λR H=>L1 (R 0) (R 3) (R 5) (R 10) (R 11) (R 12) H) [(0,(λR H=>lq G N (R 5) H))] (aR Tryz.f188) R H=uo G N L1 (R 0) (R 3) (R 5) (R 10) (R 11) (R 12) H:=by
 refine bj ((aF ag ((aF ag ((aF ag (Xa G N L1) ((bX ag ((aF ag ((aF ag ((bX ag ((cj (k:=λm R H=>mT G N L1 m (R 0) (R 3) (R 5) (R 7) (R 10) (R 11) (R 12) (R 23) (R 24) H) ag (λR H=>ag) (λm=>W9 G N L1 (mT G N L1 m)))))) (aw _))) (aw _))))))) (aw _))) (aw _))) λR H=> ?_
 delta uo;generalize lq G N=a;generalize mT G N L1 N=b;revert a b;refine id ?_;intro a b;kernel_rfl
def qS(G:an)(N:Nat)(a x1:aa)(H:ad):O:=bx H (b0 (H).next x1) λb ae=>aU ae (G 189 [a] ae) λx10 ah=>bf P .len [31] [x10] ah λx11=>mS G N N a b (.bool Z) x10 x11 (.int .i64 0) ah
def Hm(G:an)(N:Nat)(b:aa)(x1:aa)(H:ad):bd Tryz.f188 G N (bO [b,x1]) H=qS G N b x1 H:=by
 refine bR (A:=bd Tryz.f188 G N) ((aF ag ((aF ag ((aF ag (W_ G N) ((aF ag ((bX ag ((cj (k:=λm R H=>mS G N m (R 0) (R 3) (R 5) (R 10) (R 11) (R 12) H) ag (λR H=>ag) (λm=>W8 G N (mS G N m)))))) (aw _))))) (aw _))) (aw _))) ?_;delta qS;generalize mS G N N=a;revert a;refine id ?_;intro a;kernel_rfl
def Ud(N:Nat){a x1:aa}{H:ad}{r:aa×ad}(h:qS (aC P ax) N a x1 H=D r):aC P ax 188 [a,x1] H=D r:=
 cp ag Tryz.func188 ag ag ag ((Hm (aC P ax) N a x1 H).trans h)
def mU(G:an)(N:Nat)(a:aa)(H:ad):O:=some (a,H)
def Xd(G:an)(N:Nat):∀R H,aX P G N (j (j (j (j (j (bb Tryz.f189)))))) (aR Tryz.f189) [] (aR Tryz.f189) R H=mU G N (R 3) H:=by
 refine bj (aw _) λR H=> ?_
 delta mU;kernel_rfl
def oV(G:an)(N:Nat)(L1:aa->aa->aa->aa->aa->ad->O)(a d:aa)(x4 b c:aa)(H:ad):O:=af (ar P .add 3 C c (.int .i64 1)) λe=>L1 a d x4 b e H
def Xe(G:an)(N:Nat)(L1:aa->aa->aa->aa->aa->ad->O):∀R H,aX P G N (j (j (j (aE (aE (j (aE (j (j (j (j (bb Tryz.f189)))))))))))) (λR H=>L1 (R 0) (R 3) (R 4) (R 14) (R 15) H) [(0,(λR H=>mU G N (R 3) H))] (aR Tryz.f189) R H=oV G N L1 (R 0) (R 3) (R 4) (R 14) (R 15) H:=by
 refine bj (aw _) λR H=> ?_
 delta oV;kernel_rfl
def oW(G:an)(N:Nat)(L1:aa->aa->aa->aa->aa->ad->O)(f b:aa)(x4 x5:aa)(x6 g h:aa)(H:ad):O:=af (hh P H 293 x4 x6 Z) λc=>af (a6 P 31 b c) λd=>af (aj P H 30 d) λe=>bx H (cv P (H).next 30 1 [(0,x5)]) λi ae=>aU ae (cS P ae [30,30] e i) λj ah=>af (hh P ah 293 x4 x6 Z) λa=>af (a6 P 31 b a) λk=>bY ah (bA P ah 30 k j) λak=>bif ((aV (hh P H 293 x4 x6 Z) c&&(aV (hh P ae 293 x4 x6 Z) c&&C))&&((aV (aj P H 30 d) e&&(aV (aj P ae 30 d) e&&C))&&((aV (hh P H 293 x4 x6 Z) a&&(aV (hh P ae 293 x4 x6 Z) a&&(aV (hh P ah 293 x4 x6 Z) a&&C)))&&C)))then(oV G N L1 f b x4 g h ak)else I
def Xf(G:an)(N:Nat)(L1:aa->aa->aa->aa->aa->ad->O):∀R H,aX P G N (j (j (j (aE (aE (j (j (aE (aE (j (aE (j (j (j (j (bb Tryz.f189)))))))))))))))) (λR H=>oV G N L1 (R 0) (R 3) (R 4) (R 14) (R 15) H) [(1,(λR H=>oV G N L1 (R 0) (R 3) (R 4) (R 14) (R 15) H)),(0,(λR H=>mU G N (R 3) H))] (aR Tryz.f189) R H=oW G N L1 (R 0) (R 3) (R 4) (R 5) (R 6) (R 14) (R 15) H:=by
 refine bj (aw _) λR H=> ?_
 delta oW;generalize oV G N L1=a;revert a;refine id ?_;intro a;kernel_rfl
def ur(G:an)(N:Nat)(L1:aa->aa->aa->aa->aa->ad->O)(d c:aa)(x4 e a:aa)(H:ad):O:=af (ar P .lss 3 Z a e) λf=>aP (D f) (aU H (G 228 [d,a] H) λb ae=>af (ar P .eql 3 Z b a) λg=>aP (D g) (bf P .len [31] [c] ae λh=>bY ae (iN P ae 293 x4 b h) λah=>bx ah (D (.aJ (ah).next 0 1 1 (D 1),.row Z 1 [[aa.aB]])) λi ak=>aU ak (cS P ak [31,31] c i) λj au=>oW G N L1 d j x4 a b e a au) (oW G N L1 d c x4 a b e a ae)) (mU G N c H)
def lr(G:an)(N:Nat):Nat->aa->aa->aa->aa->aa->ad->O
 |0,_,_,_,_,_,_=>I
 |n+1,a,d,x4,b,c,H=>ur G N (lr G N n) a d x4 b c H
def Xc(G:an)(N:Nat)(L1:aa->aa->aa->aa->aa->ad->O):∀R H,aX P G N (aE (aE (j (aE (j (j (j (j (bb Tryz.f189))))))))) (λR H=>L1 (R 0) (R 3) (R 4) (R 14) (R 15) H) [(0,(λR H=>mU G N (R 3) H))] (aR Tryz.f189) R H=ur G N L1 (R 0) (R 3) (R 4) (R 14) (R 15) H:=by
 refine bj ((aF ag ((aF ag ((aF ag (Xe G N L1) ((bX ag ((aF ag ((aF ag ((aF ag (Xf G N L1) (aw _))) (aw _))) (aw _))))))) (aw _))) (aw _))) λR H=> ?_
 delta ur;generalize mU G N=a;generalize oW G N L1=b;revert a b;refine id ?_;intro a b;kernel_rfl
def qT(G:an)(N:Nat)(a:aa)(H:ad):O:=af (ar P .eql 253 C a aa.fD) λx8=>aP (D x8) (D (aa.aB,H)) (bx H (D (.map (H).next,.map [])) λd ae=>af (cr a) λx11=>af (av P 292 x11 0) λx12=>af (aj P ae 30 x12) λb=>bf P .len [30] [b] ae λc=>lr G N N a aa.aB d c (.int .i64 0) ae)
def Hn(G:an)(N:Nat)(b:aa)(H:ad):bd Tryz.f189 G N (bO [b]) H=qT G N b H:=by
 refine bR (A:=bd Tryz.f189 G N) ((aF ag ((aF ag ((aF ag ((aF ag ((aF ag (Xd G N) ((aF ag ((bX ag ((cj (k:=λm R H=>lr G N m (R 0) (R 3) (R 4) (R 14) (R 15) H) ag (λR H=>ag) (λm=>Xc G N (lr G N m)))))) (aw _))))) (aw _))) (aw _))) (aw _))) (aw _))) ?_;delta qT;generalize lr G N N=a;revert a;refine id ?_;intro a;kernel_rfl
def Ue(N:Nat){a:aa}{H:ad}{r:aa×ad}(h:qT (aC P ax) N a H=D r):aC P ax 189 [a] H=D r:=
 cp ag Tryz.func189 ag ag ag ((Hn (aC P ax) N a H).trans h)
def oY(G:an)(a x1:aa)(H:ad):O:=bf P .len [30] [x1] H λx6=>af (ar P .eql 3 C x6 (.int .i64 0)) λx7=>aP (D x7) (D ((.int .i64 (-1)),H)) (af (a6 P 30 x1 (.int .i64 0)) λx10=>af (aj P H 3 x10) λx11=>af (a6 P 30 a x11) λx12=>af (aj P H 3 x12) λb=>D (b,H))
def Ho(G:an)(N:Nat)(a:aa)(x1:aa)(H:ad):bd Tryz.f190 G N (bO [a,x1]) H=oY G a x1 H:=by
 refine bR (A:=bd Tryz.f190 G N) (aw _) ?_;delta oY;kernel_rfl
def Uf(N:Nat){a x1:aa}{H:ad}{r:aa×ad}(h:oY (aC P ax) a x1 H=D r):aC P ax 190 [a,x1] H=D r:=
 cp ag Tryz.func190 ag ag ag ((Ho (aC P ax) N a x1 H).trans h)
def qV(G:an)(N:Nat)(x7:aa)(H:ad):O:=some (x7,H)
def Xo(G:an)(N:Nat):∀R H,aX P G N (j (j (j (bb Tryz.f191)))) (aR Tryz.f191) [] (aR Tryz.f191) R H=qV G N (R 7) H:=by
 refine bj (aw _) λR H=> ?_
 delta qV;kernel_rfl
def uA(G:an)(N:Nat)(L1:aa->aa->aa->aa->aa->aa->ad->O)(x2 a:aa)(x7 x10:aa)(x11 x12:aa)(H:ad):O:=af (ar P .lss 3 Z x12 x11) λb=>aP (D b) (af (a6 P 30 x10 x12) λc=>af (aj P H 3 c) λd=>af (av P 154 a 1) λe=>af (aj P H 152 e) λf=>af (a6 P 152 f d) λg=>af (aj P H 31 g) λh=>af (a6 P 31 h x2) λi=>af (aj P H 30 i) λj=>aU H (cS P H [30,30] x7 j) λk ae=>af (ar P .add 3 C x12 (.int .i64 1)) λl=>L1 x2 a k x10 x11 l ae) (qV G N x7 H)
def mV(G:an)(N:Nat):Nat->aa->aa->aa->aa->aa->aa->ad->O
 |0,_,_,_,_,_,_,_=>I
 |n+1,x2,a,x7,x10,x11,x12,H=>uA G N (mV G N n) x2 a x7 x10 x11 x12 H
def Xn(G:an)(N:Nat)(L1:aa->aa->aa->aa->aa->aa->ad->O):∀R H,aX P G N (aE (aE (j (aE (j (j (bb Tryz.f191))))))) (λR H=>L1 (R 2) (R 3) (R 7) (R 10) (R 11) (R 12) H) [(0,(λR H=>qV G N (R 7) H))] (aR Tryz.f191) R H=uA G N L1 (R 2) (R 3) (R 7) (R 10) (R 11) (R 12) H:=by
 refine bj (aw _) λR H=> ?_
 delta uA;generalize qV G N=a;revert a;refine id ?_;intro a;kernel_rfl
def qU(G:an)(N:Nat)(a x1 x2:aa)(H:ad):O:=bx H (b0 (H).next a) λb ae=>bf P .len [30] [x1] ae λx11=>mV G N N x2 b aa.aB x1 x11 (.int .i64 0) ae
def Hp(G:an)(N:Nat)(b:aa)(x1:aa)(x2:aa)(H:ad):bd Tryz.f191 G N (bO [b,x1,x2]) H=qU G N b x1 x2 H:=by
 refine bR (A:=bd Tryz.f191 G N) ((aF ag ((aF ag ((aF ag (Xo G N) ((aF ag ((bX ag ((cj (k:=λm R H=>mV G N m (R 2) (R 3) (R 7) (R 10) (R 11) (R 12) H) ag (λR H=>ag) (λm=>Xn G N (mV G N m)))))) (aw _))))) (aw _))) (aw _))) ?_;delta qU;generalize mV G N N=a;revert a;refine id ?_;intro a;kernel_rfl
def Ug(N:Nat){a x1 x2:aa}{H:ad}{r:aa×ad}(h:qU (aC P ax) N a x1 x2 H=D r):aC P ax 191 [a,x1,x2] H=D r:=
 cp ag Tryz.func191 ag ag ag ((Hp (aC P ax) N a x1 x2 H).trans h)
def q4(G:an)(N:Nat)(H:ad):O:=some ((.bool C),H)
def XH(G:an)(N:Nat):∀R H,aX P G N (j (j (bb Tryz.f226))) (aR Tryz.f226) [] (aR Tryz.f226) R H=q4 G N H:=by
 refine bj (aw _) λR H=> ?_
 delta q4;kernel_rfl
def uF(G:an)(N:Nat)(L1:aa->aa->aa->aa->ad->O)(b x7:aa)(x8 a:aa)(H:ad):O:=af (ar P .lss 3 Z a x8) λx10=>aP (D x10) (af (a6 P 31 x7 a) λx11=>af (aj P H 30 x11) λx12=>aU H (G 252 [x12,(.func (.func 253) [] [b])] H) λc ae=>aP (D c) (D ((.bool Z),ae)) (af (ar P .add 3 C a (.int .i64 1)) λd=>L1 b x7 x8 d ae)) (q4 G N H)
def m0(G:an)(N:Nat):Nat->aa->aa->aa->aa->ad->O
 |0,_,_,_,_,_=>I
 |n+1,a,x7,x8,b,H=>uF G N (m0 G N n) a x7 x8 b H
def XG(G:an)(N:Nat)(L1:aa->aa->aa->aa->ad->O):∀R H,aX P G N (aE (aE (j (aE (j (bb Tryz.f226)))))) (λR H=>L1 (R 3) (R 7) (R 8) (R 9) H) [(0,(λR H=>q4 G N H))] (aR Tryz.f226) R H=uF G N L1 (R 3) (R 7) (R 8) (R 9) H:=by
 refine bj (aw _) λR H=> ?_
 delta uF;generalize q4 G N=a;revert a;refine id ?_;intro a;kernel_rfl
def q3(G:an)(N:Nat)(a x1:aa)(H:ad):O:=bx H (b0 (H).next x1) λb ae=>bf P .len [31] [a] ae λx8=>m0 G N N b a x8 (.int .i64 0) ae
def Hz(G:an)(N:Nat)(b:aa)(x1:aa)(H:ad):bd Tryz.f226 G N (bO [b,x1]) H=q3 G N b x1 H:=by
 refine bR (A:=bd Tryz.f226 G N) ((aF ag ((aF ag (XH G N) ((aF ag ((bX ag ((cj (k:=λm R H=>m0 G N m (R 3) (R 7) (R 8) (R 9) H) ag (λR H=>ag) (λm=>XG G N (m0 G N m)))))) (aw _))))) (aw _))) ?_;delta q3;generalize m0 G N N=a;revert a;refine id ?_;intro a;kernel_rfl
def Up(N:Nat){a x1:aa}{H:ad}{r:aa×ad}(h:q3 (aC P ax) N a x1 H=D r):aC P ax 226 [a,x1] H=D r:=
 cp ag Tryz.func226 ag ag ag ((Hz (aC P ax) N a x1 H).trans h)
def q5(G:an)(d x1 x2:aa)(H:ad):O:=aU H (G 228 [d,x1] H) λc ae=>aU ae (G 228 [d,x2] ae) λx12 ah=>af (ar P .lss 3 C c (.int .i64 0)) λe=>ao e Z ah (bw x12) λi ak=>ao e Z ak (aH (ar P .lss 3 C i (.int .i64 0))) λj au=>af (ba e (D (.bool C)) (D j)) λb=>ao b Z au (bw c) λk f=>ao b Z f (bw x12) λl g=>ao b Z g (aH (ar P .eql 3 Z k l)) λm a=>af (ba b (D (.bool C)) (D m)) λn=>aP (D n) (D ((.bool Z),a)) (af (cr d) λo=>af (av P 292 o 0) λp=>af (aj P a 30 p) λq=>bf P .max [3,3] [c,x12] a λr=>bf P .min [3,3] [c,x12] a λs=>af (a6 P 30 q r) λt=>bY a (bA P a 3 t s) λh=>D ((.bool C),h))
def HA(G:an)(N:Nat)(a:aa)(x1:aa)(x2:aa)(H:ad):bd Tryz.f227 G N (bO [a,x1,x2]) H=q5 G a x1 x2 H:=by
 refine bR (A:=bd Tryz.f227 G N) (aw _) ?_;delta q5;kernel_rfl
def Uq(N:Nat){a x1 x2:aa}{H:ad}{r:aa×ad}(h:q5 (aC P ax) a x1 x2 H=D r):aC P ax 227 [a,x1,x2] H=D r:=
 cp ag Tryz.func227 ag ag ag ((HA (aC P ax) N a x1 x2 H).trans h)
def q7(G:an)(N:Nat)(x1:aa)(H:ad):O:=some (x1,H)
def XJ(G:an)(N:Nat):∀R H,aX P G N (j (j (j (bb Tryz.f228)))) (aR Tryz.f228) [] (aR Tryz.f228) R H=q7 G N (R 1) H:=by
 refine bj (aw _) λR H=> ?_
 delta q7;kernel_rfl
def uG(G:an)(N:Nat)(L1:aa->aa->ad->O)(a x1:aa)(H:ad):O:=af (cr a) λb=>af (av P 292 b 0) λc=>af (aj P H 30 c) λd=>af (a6 P 30 d x1) λe=>af (aj P H 3 e) λf=>af (ar P .neq 3 Z f x1) λg=>aP (D g) (af (cr a) λh=>af (av P 292 h 0) λi=>af (aj P H 30 i) λj=>af (cr a) λk=>af (av P 292 k 0) λl=>af (aj P H 30 l) λm=>af (cr a) λn=>af (av P 292 n 0) λo=>af (aj P H 30 o) λp=>af (a6 P 30 p x1) λq=>af (aj P H 3 q) λr=>af (a6 P 30 m r) λs=>af (aj P H 3 s) λt=>af (a6 P 30 j x1) λu=>bY H (bA P H 3 u t) λae=>af (cr a) λv=>af (av P 292 v 0) λx50=>af (aj P ae 30 x50) λx51=>af (a6 P 30 x51 x1) λw=>af (aj P ae 3 w) λx=>L1 a x ae) (q7 G N x1 H)
def m1(G:an)(N:Nat):Nat->aa->aa->ad->O
 |0,_,_,_=>I
 |n+1,a,x1,H=>uG G N (m1 G N n) a x1 H
def XI(G:an)(N:Nat)(L1:aa->aa->ad->O):∀R H,aX P G N (aE (aE (aE (j (j (bb Tryz.f228)))))) (λR H=>L1 (R 0) (R 1) H) [(0,(λR H=>q7 G N (R 1) H))] (aR Tryz.f228) R H=uG G N L1 (R 0) (R 1) H:=by
 refine bj (aw _) λR H=> ?_
 delta uG;generalize q7 G N=a;revert a;refine id ?_;intro a;kernel_rfl
def q6(G:an)(N:Nat)(a x1:aa)(H:ad):O:=af (ar P .eql 253 C a aa.fD) λx6=>ao x6 Z H (bw x1) λx8 ae=>ao x6 Z ae (aH (ar P .lss 3 C x8 (.int .i64 0))) λn ah=>af (ba x6 (D (.bool C)) (D n)) λx10=>ao x10 Z ah (bw x1) λx12 ak=>ao x10 Z ak (bw a) λh au=>ao x10 Z au (aH (cr h)) λi f=>ao x10 Z f (aH (av P 292 i 0)) λj b=>ao x10 Z b (qr (aj P b 30 j)) λe c=>ao x10 Z c (λq=>cx (a2 P .empty .len [30] [e]) (a2 P c .len [30] [e]) q) λk g=>ao x10 Z g (aH (ar P .geq 3 Z x12 k)) λl d=>af (ba x10 (D (.bool C)) (D l)) λm=>aP (D m) (D ((.int .i64 (-1)),d)) (m1 G N N a x1 d)
def HB(G:an)(N:Nat)(b:aa)(x1:aa)(H:ad):bd Tryz.f228 G N (bO [b,x1]) H=q6 G N b x1 H:=by
 refine bR (A:=bd Tryz.f228 G N) ((aF ag ((aF ag ((aF ag (XJ G N) ((bX ag ((cj (k:=λm R H=>m1 G N m (R 0) (R 1) H) ag (λR H=>ag) (λm=>XI G N (m1 G N m)))))))) (aw _))) (aw _))) ?_;delta q6;generalize m1 G N N=a;revert a;refine id ?_;intro a;kernel_rfl
def Ur(N:Nat){a x1:aa}{H:ad}{r:aa×ad}(h:q6 (aC P ax) N a x1 H=D r):aC P ax 228 [a,x1] H=D r:=
 cp ag Tryz.func228 ag ag ag ((HB (aC P ax) N a x1 H).trans h)
def rq(G:an)(a x1:aa)(H:ad):O:=af (ar P .lss 3 C a (.int .i64 0)) λx5=>ao x5 Z H (bw a) λx7 ae=>ao x5 Z ae (qr (aj P ae 3 x1)) λx8 ah=>ao x5 Z ah (aH (ar P .geq 3 Z x7 x8)) λb ak=>af (ba x5 (D (.bool C)) (D b)) λx10=>D (x10,ak)
def HQ(G:an)(N:Nat)(a:aa)(x1:aa)(H:ad):bd Tryz.f253 G N (bO [a,x1]) H=rq G a x1 H:=by
 refine bR (A:=bd Tryz.f253 G N) (aw _) ?_;delta rq;kernel_rfl
def UG(N:Nat){a x1:aa}{H:ad}{r:aa×ad}(h:rq (aC P ax) a x1 H=D r):aC P ax 253 [a,x1] H=D r:=
 cp ag Tryz.func253 ag ag ag ((HQ (aC P ax) N a x1 H).trans h)
end
end
section
open Go.bp
def dM(l:List Nat):List (List aa):=l.map λn=>[.int .i64 (n:Nat)]
def KJ(l:List Nat)(i n:Nat):(dM l).set i [.int .i64 (n:Nat)]=dM (l.set i n):=by simp[dM,List.map_set]
def z7{H:ad}{l:List Nat}{zD i:Nat}(g:H.get zD=D (.row Z 1 (dM l)))(a:i<l.length):aj P H 3 (.ptr zD i 0)=D (.int .i64 (aW l i:Nat)):=by
 rw[fB ag g (e:=[.int .i64 (aW l i:Nat)]) (by simp[dM,p7 a])];rfl
def yp{H:ad}{l:List Nat}{zD i:Nat}(g:H.get zD=D (.row Z 1 (dM l)))(a:i<l.length)(n:Nat):bA P H 3 (.ptr zD i 0) (.int .i64 n)=D (H.set zD (.row Z 1 (dM (l.set i n)))):=by
 rw[fN (n:=1) ag g (e:=[.int .i64 (aW l i:Nat)]) (by simp[dM,p7 a]) rfl rfl b_,<-KJ];rfl
def sQ{l:List Nat}{i n:Nat}(a:i<l.length)(k:Nat):aW (l.set i n) k=if k=i then n else aW l k:=by
 by_cases e:k=i
 ·subst e;rw[if_pos rfl];exact wL (by simp[a])
 ·rw[if_neg e];unfold aW;simp only[List.getD_eq_getElem?_getD];rw[List.getElem?_set_ne (Ne.symm e)]
structure ju(L bS:List Nat):Prop where
 len:bS.length=L.length
 le:∀i,aW bS i<=i
 same:∀i,aW L (aW bS i)=aW L i
 root:∀i,aW bS i=i->aW L i=i
def ju.start(n:Nat):ju (List.range n) (List.range n):=⟨rfl,λi=>by rw[p8];exact b4 _,λi=>by simp only[p8],λi h=>h⟩
def ju.NU{L bS:List Nat}(u:ju L bS){a:Nat}(b:a<bS.length)(h:aW bS a≠a):ju L (bS.set a (aW bS (aW bS a))):=by
 have ae:=u.le a;have ah:=u.le (aW bS a);refine⟨by rw[List.length_set];exact u.len,λi=> ?_,λi=> ?_,λi=> ?_⟩<;>rw[sQ b]<;>split
 ·omega
 ·exact u.le i
 ·next e=>rw[e,u.same,u.same]
 ·exact u.same i
 ·next e=>intro c;omega
 ·exact u.root i
def ju.join{L bS:List Nat}(u:ju L bS)(g:bp.Good L){a b:Nat}(c:a<L.length)(d:b<L.length)(q:aW L a≠aW L b):ju (fQ L a b) (bS.set (max (aW L a) (aW L b)) (min (aW L a) (aW L b))):=by
 have n:=g.lt c;have o:=g.lt d;have j:=g.id a;have k:=g.id b;have az:=u.len;have hm:max (aW L a) (aW L b)<bS.length:=ai;refine⟨by rw[List.length_set,l1];exact u.len,λi=> ?_,λi=> ?_,λi=> ?_⟩<;>rw[sQ hm]
 ·split
  ·omega
  ·exact u.le i
 ·rw[iz g c d,iz g c d];split
  ·next e=>
   have l:aW L (min (aW L a) (aW L b))=aW L a\/aW L (min (aW L a) (aW L b))=aW L b:=by
    rcases Nat.le_total (aW L a) (aW L b)with h|h
    ·rw[Nat.min_eq_left h];exact .inl j
    ·rw[Nat.min_eq_right h];exact .inr k
   have f:aW L i=aW L a\/aW L i=aW L b:=by
    rw[e];rcases Nat.le_total (aW L a) (aW L b)with h|h
    ·rw[Nat.max_eq_right h];exact .inr k
    ·rw[Nat.max_eq_left h];exact .inl j
   rw[if_pos l,if_pos f]
  ·rw[u.same]
 ·rw[iz g c d];split
  ·intro e;omega
  ·next e=>
   intro f;have m:=u.root i f;split
   ·next p=>omega
   ·exact m
structure eh(zD:Nat)(L:List Nat)(H:ad):Prop where
 g:bp.Good L
 f:H.get (zD+1)=some (.row false 1 [[.aJ zD 0 L.length 1 (some L.length)]])
 u:∃bS,ju L bS/\H.get zD=some (.row false 1 (dM bS))
section
variable {zD:Nat}{L:List Nat}{H:ad}
def eh.lt(h:eh zD L H):zD+1<H.next:=ad.b6 h.f
def eh.aI{H':ad}(h:eh zD L H)(m:ay H H'):eh zD L H':=by
 obtain⟨bS,u,g⟩:=h.u;exact⟨h.g,m.get h.f,bS,u,m.get g⟩
def eh.kq(h:eh zD L H):aj P H 30 (.ptr (zD+1) 0 0)=D (.aJ zD 0 L.length 1 (D L.length)):=by
 rw[fB ag h.f rfl];rfl
def eh.set(h:eh zD L H){bS:List Nat}(u:ju L bS):eh zD L (H.set zD (.row Z 1 (dM bS))):=
 ⟨h.g,by rw[ad.cW ai];exact h.f,bS,u,ad.dA (by have:=h.lt;omega)⟩
def E4{a:Nat}(p:a<L.length){N:Nat}:∀(m b:Nat) (H:ad),b<m->eh zD L H->b<L.length->aW L b=aW L a->
  W (m1 (aC P ax) N m (.ptr (zD+1) 0 0) (.int .i64 b) H) λr H'=>r= .int .i64 (aW L a:Nat)/\eh zD L H'/\eF (· =zD) H H'
 |0,_,_,hm,_,_,_=>ai
 |m+1,b,H,hm,h,f,j=>by
  obtain⟨bS,u,g⟩:=h.u;have c:b<bS.length:=by rw[u.len];exact f
  have eO:=z7 g c;by_cases e:aW bS b=b
  ·have d:((aW bS b:Nat):Int)=((b:Nat):Int):=ai;have n:=u.root b e;simp-implicitDefEqProofs(disch:=try exact al)only[m1,uG,aq,aO,aG,aM,h.kq,fA cU f,eO,d,bne_self_eq_false,q7];exact aK.2 ⟨by rw[<-j,n],h,.refl _ _⟩
  ·have d:(((aW bS b:Nat):Int)==((b:Nat):Int))=false:=beq_eq_false_iff_ne.2 λh=>e (by exact_mod_cast h)
   have l:(((aW bS b:Nat):Int) != ((b:Nat):Int))=true:=by simp only[bne,d,Bool.not_false]
   have w:=u.le b;have s:aW bS b<bS.length:=ai;have aA:aW bS b<L.length:=ai;have x:=u.le (aW bS b);have v:=u.NU c e;have ae:=h.set v;have t:zD<H.next:=by have:=h.lt;omega
   have k:=z7 (ad.dA (b:= .row Z 1 (dM (bS.set b (aW bS (aW bS b))))) t) (i:=b) (by rw[List.length_set];exact c);rw[sQ c,if_pos rfl]at k;simp-implicitDefEqProofs(disch:=try exact al)only[m1,uG,aq,aO,aG,aM,h.kq,fA cU f,fA cU aA,eO,l,z7 g s,yp g c,ae.kq,k];have o:aW L (aW bS (aW bS b))=aW L a:=by rw[u.same,u.same,j]
   exact(E4 p (N:=N) m (aW bS (aW bS b)) (H.set zD (.row Z 1 (dM (bS.set b (aW bS (aW bS b)))))) ai ae ai o).mono λr H' q=>⟨q.1,q.2.1,((eF.refl (· =zD) H).lF (.inl rfl) _).trans q.2.2⟩
def z_(h:eh zD L H){a:Nat}(b:a<L.length):W (aC P ax 228 [.ptr (zD+1) 0 0,.int .i64 a] H) λr H'=>r= .int .i64 (aW L a:Nat)/\eh zD L H'/\eF (· =zD) H H':=by
 refine bZ (λ_=>Ur (a+1)) ?_;have c:ar P .eql 253 C (.ptr (zD+1) 0 0) .fD=D (.bool Z):=ag;have d:¬(a:Int)<0:=ai;have e:¬(L.length:Int)<=(a:Int):=ai;simp-implicitDefEqProofs(disch:=try exact al)only[q6,aq,aO,aG,aM,sS,c,d,e,decide_false,h.kq];exact E4 b _ _ _ ai h b rfl
def NG(h:eh zD L H){a b:Nat}(c:a<L.length)(d:b<L.length)(w:L.length<=1000000):W (aC P ax 227 [.ptr (zD+1) 0 0,.int .i64 a,.int .i64 b] H) λr H'=>r= .bool (decide (aW L a≠aW L b))/\eh zD (fQ L a b) H'/\eF (· =zD) H H':=by
 refine bZ (λ_=>Uq 0) ?_;simp-implicitDefEqProofs(disch:=try exact al)only[q5,aq];refine bk (z_ h c) ?_;rintro _ H1 ⟨rfl,ae,k⟩;refine⟨k.1,?_⟩;simp-implicitDefEqProofs(disch:=try exact al)only[aq];refine bk (z_ ae d) ?_;rintro _ s ⟨rfl,ah,l⟩;refine⟨l.1,?_⟩;have m:=k.trans l;have cP:¬((aW L a:Nat):Int)<0:=ai;have n:¬((aW L b:Nat):Int)<0:=ai;by_cases e:aW L a=aW L b
 ·have j:(((aW L a:Nat):Int)==((aW L b:Nat):Int))=true:=by simp[e]
  simp-implicitDefEqProofs(disch:=try exact al)only[aq,aG,cP,n,decide_false,j];exact aK.2 ⟨by simp[e],by rw[wq e];exact ah,m⟩
 ·have j:(((aW L a:Nat):Int)==((aW L b:Nat):Int))=false:=beq_eq_false_iff_ne.2 λh=>e (by exact_mod_cast h)
  obtain⟨bS,u,g⟩:=ah.u;have t:=h.g.lt c;have v:=h.g.lt d;have az:=u.len;have q:=u.join h.g c d e;have o:max (aW L a) (aW L b)<L.length:=ai;have p:∀(H0:ad),a2 P H0 .max [3,3] [.int .i64 (aW L a:Nat),.int .i64 (aW L b:Nat)]=D (.int .i64 ((max (aW L a) (aW L b):Nat):Int)):=λH0=>by
   show D (aa.int .i64 (if((aW L a:Nat):Int)<((aW L b:Nat):Int)then _ else _))=_
   congr 2;split<;>omega
  have sX:∀(H0:ad),a2 P H0 .min [3,3] [.int .i64 (aW L a:Nat),.int .i64 (aW L b:Nat)]=D (.int .i64 ((min (aW L a) (aW L b):Nat):Int)):=λH0=>by
   show D (aa.int .i64 (if((aW L b:Nat):Int)<((aW L a:Nat):Int)then _ else _))=_
   congr 2;split<;>omega
  have st:=yp g (i:=max (aW L a) (aW L b)) ai (min (aW L a) (aW L b));simp-implicitDefEqProofs(disch:=try exact al)only[bf,aq,aO,aG,aM,cP,n,decide_false,j,ah.kq,fA cU o,st,p,sX];exact aK.2 ⟨by simp[e],⟨h.g.join c d,by rw[ad.cW ai,l1];exact ah.f,_,q,ad.dA (by have:=ah.lt;omega)⟩,m.lF (.inl rfl) _⟩
def Fm(l n:Nat)(aS:n<=1000000000):e5 (fw P ⟨.leaf,l⟩ 30 (.int .i64 n) (.int .i64 n)) l=D (.aJ l 0 n 1 (D n),.row Z 1 (dM (List.replicate n 0))):=by
 rw[p9 (t:=30) (e:=3) (esz:=1) (z:= .int .i64 0) (b:=8) ag ag ag ag rfl rfl b_ b_ l n aS];simp[dM,aa.cells]
def Fy{n:Nat}(aS:n<=10000){N:Nat}:∀(j k m:Nat) (bS:List Nat) (H:ad),k+j=n->j<m->bS.length=n->(∀i,i<k->aW bS i=i)->H.get (zD+1)=D (.row Z 1 [[.aJ zD 0 n 1 (D n)]])->H.get zD=D (.row Z 1 (dM bS))->
  W (mQ (aC P ax) N m (.ptr (zD+1) 0 0) (.int .i64 n) (.int .i64 k) H) λr H'=>r= .ptr (zD+1) 0 0/\eh zD (List.range n) H'/\eF (· =zD) H H'
 |_,_,0,_,_,_,hm,_,_,_,_=>ai
 |0,k,m+1,bS,H,f,_,c,az,a,g=>by
  have b:¬(k:Int)<(n:Int):=ai;have e:bS=List.range n:=by
   apply List.ext_getElem?;intro i;by_cases d:i<n
   ·rw[p7 ai,az i ai];simp[d]
   ·rw[List.getElem?_eq_none ai,List.getElem?_eq_none (by simp;omega)]
  subst e;simp-implicitDefEqProofs(disch:=try exact al)only[mQ,um,aq,aG,b,decide_false,qP];exact aK.2 ⟨rfl,⟨Ee n,by simpa using a,_,ju.start n,g⟩,.refl _ _⟩
 |j+1,k,m+1,bS,H,f,hm,c,az,a,g=>by
  have b:(k:Int)<(n:Int):=ai;have h:k<n:=ai;have kq:aj P H 30 (.ptr (zD+1) 0 0)=D (.aJ zD 0 n 1 (D n)):=by rw[fB ag a rfl];rfl
  have l:=ad.b6 g;simp-implicitDefEqProofs(disch:=try exact al)only[mQ,um,aq,aO,aG,aM,b,decide_true,kq,fA cU h,yp g (show k<bS.length by omega) k,c3 (show k<=1000000000 by omega)];exact(Fy aS j (k+1) m _ _ ai ai (by rw[List.length_set];exact c) (λi d=>by
   rw[sQ ai];by_cases e:i=k
   ·rw[if_pos e];exact e.symm
   ·rw[if_neg e];exact az i ai) (by rw[ad.cW ai];exact a) (ad.dA l)).mono λr H' q=>⟨q.1,q.2.1,((eF.refl (· =zD) H).lF (.inl rfl) _).trans q.2.2⟩
def Qt{n:Nat}(aS:n<=10000):W (aC P ax 186 [.int .i64 n] H) λr H'=>r= .ptr (H.next+1) 0 0/\eh H.next (List.range n) H'/\ay H H':=by
 refine bZ (λ_=>Ub (n+1)) ?_;have h:∀(H0:ad),a2 P H0 .max [3,3] [.int .i64 (n:Nat),.int .i64 0]=D (.int .i64 (n:Nat)):=λH0=>by
  show D (aa.int .i64 (if(n:Int)<0 then _ else _))=_;rw[if_neg ai]
 have sX:∀(H0:ad),a2 P H0 .min [3,3] [.int .i64 (n:Nat),.int .i64 10000]=D (.int .i64 (n:Nat)):=λH0=>by
  show D (aa.int .i64 (if(10000:Int)<(n:Int)then _ else _))=_
  congr 2;split<;>omega
 obtain⟨zD,b⟩:∃zD,zD=H.next:=⟨_,rfl⟩
 have d:=ay.push H (.row Z 1 (dM (List.replicate n 0)));have c:=ay.push (H.push (.row Z 1 (dM (List.replicate n 0)))) (.row Z 1 [[.aJ zD 0 n 1 (D n)]]);have a:=ad.bq (H.push (.row Z 1 (dM (List.replicate n 0)))) (.row Z 1 [[.aJ zD 0 n 1 (D n)]]);have g:=c.get (ad.bq H (.row Z 1 (dM (List.replicate n 0))));have e:b0 (zD+1) (.agg [.aJ zD 0 n 1 (D n)])=D (.ptr (zD+1) 0 0,.row Z 1 [[.aJ zD 0 n 1 (D n)]]):=rfl;have kq:aj P ((H.push (.row Z 1 (dM (List.replicate n 0)))).push (.row Z 1 [[.aJ zD 0 n 1 (D n)]])) 30 (.ptr (zD+1) 0 0)=D (.aJ zD 0 n 1 (D n)):=by
  simp only[ad.ds,<-b]at a;rw[fB ag a rfl];rfl
 simp only[ad.ds,<-b]at a g;simp-implicitDefEqProofs(disch:=try exact al)only[qO,bf,aq,aO,h1,aM,sS,ad.ds,h,sX,Fm _ n (show n<=1000000000 by omega),<-b,e,kq];exact(Fy aS n 0 _ _ _ ai ai (by simp) (λi j=>ai) a g).mono λr H' q=>⟨q.1,q.2.1,by
  have:=q.2.2.1;have ae:=d.1;have ah:=c.1;omega,λk f=>by
  rw[q.2.2.2 k (by simp;omega) (by simp;omega),c.2 k (by simp;omega),d.2 k f]⟩
def IU{ok:Nat->Prop}(A:∀k,ok k->k≠zD){l:List Nat}{a:Nat}(o:l[0]? =D a)(az:l.length<=1000000000){lv:aa}{N:Nat}:∀(j k m:Nat) (L:List Nat) (H:ad) (b:Bool),k+j=l.length->j<m->eh zD L H->L.length<=1000000->(∀x∈l,x<L.length)->aZ bu H ok (bC l) lv->
  W (lp (aC P ax) N m (.ptr (zD+1) 0 0) lv (.bool b) lv (.int .i64 l.length) (.int .i64 k) H) λr H'=>∃b',r= .bool b'/\eh zD (iw L a (l.drop k)) H'/\eF (· =zD) H H'/\(b'=C->b=C\/gx (iw L a (l.drop k))<gx L)/\(b'=Z->b=Z/\iw L a (l.drop k)=L)
 |_,_,0,_,_,_,_,hm,_,_,_,_=>ai
 |0,k,m+1,L,H,b,q,_,h,d,aD,i=>by
  have s:¬(k:Int)<(l.length:Int):=ai;simp-implicitDefEqProofs(disch:=try exact al)only[lp,qR,aq,aG,s,decide_false,mR];rw[List.drop_of_length_le ai];exact aK.2 ⟨b,rfl,h,.refl _ _,λe=> .inl e,λe=>⟨e,rfl⟩⟩
 |j+1,k,m+1,L,H,b,q,hm,h,d,aD,i=>by
  have s:(k:Int)<(l.length:Int):=ai;have t:k<l.length:=ai;have on:=IU A o az (lv:=lv) (N:=N) j (k+1) m;obtain⟨p,i1,i2⟩:=i.int (j:=(k:Int)) (a:=((l[k]:Nat):Int)) ai (by simp[bC,t]);obtain⟨R,i3,i4⟩:=i.int (j:=0) (a:=((a:Nat):Int)) ai (by simp[bC,o]);have f:a<L.length:=aD a (List.mem_of_getElem? o);have aA:l[k]<L.length:=aD _ (List.getElem_mem t);rw[List.drop_eq_getElem_cons t,iw];generalize l[k]=c at*;have Q:=wv h.g f aA;simp-implicitDefEqProofs(disch:=try exact al)only[lp,qR,aq,aG,s,decide_true,i1,i2,i3,i4];refine bk (NG h f aA d) ?_;rintro _ H1 ⟨rfl,ae,n⟩;refine⟨n.1,?_⟩;have E:∀x∈l,x<(fQ L a c).length:=λx a8=>by rw[l1];exact aD x a8
  have B:aZ bu H1 ok (bC l) lv:=i.keep (.mut n λk q e=>A k q e);have G:=wu (bs:=l.drop (k+1)) ae.g (by rw[l1];exact f) λx a8=>E x (List.mem_of_mem_drop a8)
  by_cases e:aW L a=aW L c
  ·have M:=wq e;rw[M]at ae G ⊢;simp-implicitDefEqProofs(disch:=try exact al)only[aq,aG,e,ne_eq,not_true,decide_false,oT,c3 (show k<=1000000000 by omega)];exact(on L H1 b ai ai ae d aD B).mono λr H' ⟨b',u,v,w,K,z⟩=>⟨b',u,v,n.trans w,K,z⟩
  ·simp-implicitDefEqProofs(disch:=try exact al)only[aq,aG,e,ne_eq,not_false_eq_true,decide_true,oT,c3 (show k<=1000000000 by omega)];have O:=FF h.g f aA e;have hle:=G.wV;exact(on _ H1 C ai ai ae (by rw[l1];exact d) E B).mono λr H' ⟨b',u,v,w,K,z⟩=>⟨b',u,v,n.trans w,λ_=> .inr ai,λe=>absurd (z e).1 b_⟩
def IV{ok:Nat->Prop}(g:∀k,ok k->k≠zD){l:List Nat}(az:l.length<=1000000000){lv:aa}{L:List Nat}(h:eh zD L H)(f:L.length<=1000000)(aD:∀x∈l,x<L.length)(d:aZ bu H ok (bC l) lv):
  W (aC P ax 187 [.ptr (zD+1) 0 0,lv] H) λr H'=>∃b,r= .bool b/\eh zD (nM L l) H'/\eF (· =zD) H H'/\(b=C->gx (nM L l)<gx L)/\(b=Z->nM L l=L):=by
 refine bZ (λ_=>Uc (l.length+1)) ?_;have hlen:(bC l).length=l.length:=by simp[bC]
 have i:=d.len cU (H0:=H);rw[hlen]at i;simp-implicitDefEqProofs(disch:=try exact al)only[qQ,bf,d.len cU,hlen];cases c:l with
 |nil=>
  subst c;simp-implicitDefEqProofs(disch:=try exact al)only[lp,qR,aq,aO,aG,Int.ofNat_zero,Int.lt_irrefl,decide_false,mR];exact aK.2 ⟨Z,rfl,h,.refl _ _,(λe=>by cases e),λ_=>rfl⟩
 |cons a bs=>
  rw[<-c];refine(IU g (l:=l) (a:=a) (by rw[c];rfl) az l.length 0 _ L H Z ai ai h f aD d).mono λr H' ⟨b',j,m,n,o,p⟩=>⟨b',j,?_,n,?_,?_⟩
  all_goals rw[List.drop_zero,c,O3]at*
  ·exact m
  ·exactλe=>(o e).resolve_left b_
  ·exactλe=>(p e).2
end
end
section
open Go.bp
noncomputable def eQ(L:List Nat)(i:Nat):List Nat:=c_ i λs=>aW L s=s
noncomputable def fi(L:List Nat)(r:Nat):Nat:=(eQ L r).length
noncomputable def cC(L:List Nat):List (List Nat):=(eQ L L.length).map λr=>c_ L.length λs=>aW L s=r
def nP:ej aa:=⟨1,λ_ _ v cs=>cs=[v]/\v.one=C,by rintro _ _ v _ ⟨rfl,h⟩;exact⟨rfl,by simp[h]⟩,λ_ h=>h⟩
def Gf:Plain nP:=λh=>h
def hn(f:Nat->Nat)(R:List Nat):List (aa×aa):=R.map λr=>(.int .i64 (r:Nat),.int .i64 (f r:Nat))
def O6(a b:Nat):l2 (TypeDesc.int .i64) (.int .i64 (a:Nat)) (.int .i64 (b:Nat))=D (decide (a=b)):=by
 have:l2 (TypeDesc.int .i64) (.int .i64 (a:Nat)) (.int .i64 (b:Nat))=D (((a:Nat):Int)==((b:Nat):Int)):=rfl;rw[this];by_cases e:a=b
 ·simp[e]
 ·rw[decide_eq_false e,beq_eq_false_iff_ne.2 λh=>e (by exact_mod_cast h)]
def yU(f:Nat->Nat)(r:Nat):∀(R:List Nat) (i:Nat),(r∉R->kX (TypeDesc.int .i64) (.int .i64 (r:Nat)) (hn f R) i=D I)/\(r∈R->∃j,kX (TypeDesc.int .i64) (.int .i64 (r:Nat)) (hn f R) i=D (D (j,.int .i64 (f r:Nat))))
 |[],i=>⟨λ_=>rfl,λh=>by simp at h⟩
 |e::es,i=>by
  obtain⟨ae,ah⟩:=yU f r es (i+1);simp only[hn,List.map_cons,kX,O6]at ae ah ⊢;by_cases he:r=e
  ·rw[decide_eq_true he];exact⟨λh=>absurd (by rw[he];simp) h,λ_=>⟨i,by rw[he]⟩⟩
  ·rw[decide_eq_false he];exact⟨λh=>ae λhm=>h (by simp[hm]),λh=>ah (by simpa [he]using h)⟩
def I5:P.underlying 293=D (.map 3 3):=ag
def I6:P.underlying 3=D (.int .i64):=ag
def z3:e1 P 3=D (.int .i64 0):=ag
def Af{H:ad}{M:Nat}{f:Nat->Nat}{R:List Nat}(g:H.get M=D (.map (hn f R))){r:Nat}(a:r∈R):hh P H 293 (.map M) (.int .i64 (r:Nat)) Z=D (.int .i64 (f r:Nat)):=by
 obtain⟨j,e⟩:=(yU f r R 0).2 a;simp[hh,I5,I6,z3,plainKey,g,e]
def abf{H:ad}{M:Nat}{f:Nat->Nat}{R:List Nat}(g:H.get M=D (.map (hn f R))){r:Nat}(a:r∉R):iN P H 293 (.map M) (.int .i64 (r:Nat)) (.int .i64 (f r:Nat))=D (H.set M (.map (hn f (R++[r])))):=by
 have e:hn f (R++[r])=hn f R++[(.int .i64 (r:Nat),.int .i64 (f r:Nat))]:=by simp[hn]
 simp[iN,I5,I6,plainKey,g,(yU f r R 0).1 a,e]
section
variable {zD M:Nat}{L R:List Nat}{i:Nat}{H:ad}{ov:aa}{dv:Nat->aa}
structure gN(zD M:Nat)(L R:List Nat)(i:Nat)(H:ad)(ov:aa)(dv:Nat->aa):Prop where
 fd:eh zD L H
 mp:H.get M=some (.map (hn (fi L) R))
 out:bG nP (M+1) bH H ((List.range R.length).map dv) ov
 kk:∀j r,R[j]? =some r->bG bu (M+1) bH H (bC (c_ i λs=>aW L s=r)) (dv j)
 fc:∀j a K,j<R.length->a<R.length->dd (dv j)=some K->dd (dv a)=some K->j=a
 qa:∀j K,j<R.length->dd (dv j)=some K->dd ov≠some K
 fZ:zD+1<M
def gN.mlt(h:gN zD M L R i H ov dv):M<H.next:=ad.b6 h.mp
def gN.frame{H':ad}(h:gN zD M L R i H ov dv)(fd:eh zD L H')(a:∀k,M<=k->k<H.next->H'.get k=H.get k):gN zD M L R i H' ov dv:=
 ⟨fd,(a M (b4 _) h.mlt).trans h.mp,h.out.frame Gf λK e=>a K (by have:=(h.out.hr e).1;omega) (h.out.hr e).2,λj r b=>(h.kk j r b).frame fK λK e=>a K (by have:=((h.kk j r b).hr e).1;omega) ((h.kk j r b).hr e).2,h.fc,h.qa,h.fZ⟩
def gN.hM(h:gN zD M L R i H ov dv){j K:Nat}(a:j<R.length)(e:dd (dv j)=D K):M+1<=K/\K<H.next:=(h.kk j R[j] (by simp[a])).hr e
def GK(L:List Nat)(i:Nat):eQ L (i+1)=eQ L i++(if aW L i=i then[i]else[]):=by
 unfold eQ;rw[mc]
 congr 1
 by_cases h:aW L i=i<;>simp[h]
open Classical in
def qc(m:Nat)(p:Nat->Prop):(c_ m p).length<=m:=by
 have:=List.length_filter_le (λs=>decide (p s)) (List.range m);rw[List.length_range]at this;exact this
def Gc{m:Nat}{p:Nat->Prop}{j d r:Nat}(h:(c_ m p)[j]? =D r)(ca:(c_ m p)[d]? =D r):j=d:=by
 obtain⟨a,b⟩:=List.getElem?_eq_some_iff.1 h;obtain⟨ck,b'⟩:=List.getElem?_eq_some_iff.1 ca;have s:=List.pairwise_iff_getElem.1 (Ge m p);rcases Nat.lt_trichotomy j d with c|c|c
 ·have:=s j d a ck c;omega
 ·exact c
 ·have:=s d j ck a c;omega
def gN.root(h:gN zD M L R i H ov dv)(af:i∉R)(ab:R.length=fi L i)(U:c_ i (λs=>aW L s=i)=[])(ae:R.length<=1000000):
  ∃d H',cS P ((H.set M (.map (hn (fi L) (R++[i])))).push (.row Z 1 [[aa.aB]])) [31,31] ov (.aJ H.next 0 1 1 (D 1))=D (d,H')/\H.next+1<=H'.next/\gN zD M L (R++[i]) i H' d (dk dv R.length .aB)/\(∀k,k<M->H'.get k=H.get k):=by
 have hm:=h.mlt;have w:∀k,k≠M->(H.set M (.map (hn (fi L) (R++[i])))).get k=H.get k:=λk m=>ad.cW (Ne.symm m)
 have W:bG nP (M+1) bH (H.set M (.map (hn (fi L) (R++[i])))) ((List.range R.length).map dv) ov:=h.out.frame Gf λK e=>w K (by have:=(h.out.hr e).1;omega)
 obtain⟨d,H',x,E,z,G,N,O⟩:=bG.pD (K:=nP) (ok:=bH) (ok':=bH) f_ W (by simp;omega) (ay.refl _) (a:=aa.aB) (cs:=[.aB]) ⟨rfl,rfl⟩ (λ_ _=>trivial) (by simp;omega);have t:(H.set M (.map (hn (fi L) (R++[i])))).next=H.next:=by simp
 have low:∀k,k<M->H'.get k=H.get k:=λk m=>(z.2 k ai).trans (w k ai)
 have Y:∀k,M<k->k<H.next->dd ov≠D k->H'.get k=H.get k:=λk m T az=>(N k (by rw[t];exact T) λL n c e=>by rintro rfl;exact az (by rw[e];rfl)).trans (w k ai)
 have V:dd d=dd ov\/dd d=D (H.next+1):=by
  rcases O with e|⟨n,e⟩
  ·exact .inl (by rw[e])
  ·exact .inr (by rw[e,t];rfl)
 have nn:H.next+1<=H'.next:=by rw[t]at G;omega
 rw[t]at x;refine⟨d,H',x,nn,⟨?_,?_,?_,?_,?_,?_,h.fZ⟩,low⟩
 ·obtain⟨bS,u,g⟩:=h.fd.u;have:=h.fZ;exact⟨h.fd.g,(low _ ai).trans h.fd.f,bS,u,(low _ ai).trans g⟩
 ·rw[z.2 M ai];exact ad.dA hm
 ·have e:(List.range (R++[i]).length).map (dk dv R.length .aB)=(List.range R.length).map dv++[.aB]:=by
   have l:(List.range R.length).map (dk dv R.length .aB)=(List.range R.length).map dv:=List.map_congr_left λk m=>d_ _ _ (by have:=List.mem_range.1 m;omega)
   rw[List.length_append,List.length_singleton,List.range_succ,List.map_append,l,List.map_singleton,fI]
  rw[e];exact E
 ·intro j r b;by_cases e:j=R.length
  ·subst e;simp at b;subst b;rw[fI,U];exact bG.nil bu _ _ _
  ·have p:j<R.length:=by have:=(List.getElem?_eq_some_iff.1 b).1;simp at this;omega
   rw[List.getElem?_append_left p]at b;rw[d_ _ _ e];exact(h.kk j r b).frame fK λK v=>Y K (by have:=(h.hM p v).1;omega) (h.hM p v).2 (h.qa j K p v)
 ·intro j A K b S e o;simp at b S;by_cases q:j=R.length
  ·subst q;rw[fI]at e;cases e
  ·by_cases B:A=R.length
   ·subst B;rw[fI]at o;cases o
   ·rw[d_ _ _ q]at e;rw[d_ _ _ B]at o;exact h.fc j A K ai ai e o
 ·intro j K b e;simp at b;by_cases q:j=R.length
  ·subst q;rw[fI]at e;cases e
  ·rw[d_ _ _ q]at e;rcases V with l|l
   ·rw[l];exact h.qa j K ai e
   ·rw[l];intro Q;cases Q;have:=(h.hM (by omega:j<R.length) e).2;omega
def gN.put(h:gN zD M L R i H ov dv){c:Nat}(aA:R[c]? =D (aW L i))(aw:∀(j E r:Nat),R[j]? =D r->R[E]? =D r->j=E)(aF:i<=1000000):
  ∃O cap m H',ov= .aJ O 0 R.length 1 cap/\c<R.length/\(∀H1,(∀k,M<=k->k<H.next->(∀q,dd (dv c)=D q->k≠q)->H1.get k=H.get k)->aj P H1 30 (.ptr O c 0)=D (dv c))/\
   cS P (H.push (.row Z 1 [[.int .i64 (i:Nat)]])) [30,30] (dv c) (.aJ H.next 0 1 1 (D 1))=D (m,H')/\H.next+1<=H'.next/\(∀k,k<H.next->(∀q,dd (dv c)=D q->k≠q)->H'.get k=H.get k)/\
   ∃b,bA P H' 30 (.ptr O c 0) m=D (H'.set O b)/\gN zD M L R (i+1) (H'.set O b) ov (dk dv c m)/\M<O:=by
 have v:c<R.length:=(List.getElem?_eq_some_iff.1 aA).1;have hm:=h.mlt;have av:=h.kk c _ aA;obtain⟨m,H',af,ab,ah,ak,al,am⟩:=bG.pD (K:=bu) (ok:=bH) (ok':=bH) cU av ai (ay.refl _) (a:=(i:Int)) (cs:=[.int .i64 (i:Nat)]) rfl (λ_ _=>trivial) (by
  have:=qc i (λs=>aW L s=aW L i);simp[bC]at this ⊢;omega)
 have V:∀k,k<H.next->(∀q,dd (dv c)=D q->k≠q)->H'.get k=H.get k:=λk A az=>al k A λL n q e=>by rintro rfl;exact az _ (by rw[e];rfl) rfl
 rcases h.out.eG with⟨_,e⟩|⟨O,els,cap,z,_,g,ae,cc,an⟩
 ·have:=congrArg List.length e;rw[List.length_map,List.length_range,List.length_nil]at this;omega
 simp only[List.length_map,List.length_range]at z ae cc;have Y:dd ov=D O:=by rw[z];rfl
 have W:=h.out.hr Y;have T:∀j,j<R.length->els[j]? =D [dv j]:=λj d=>by
  obtain⟨cs,aD,rfl,_⟩:=an j (dv j) (by simp[d]);exact aD
 have G:∀j,j<R.length->∀q,dd (dv j)=D q->O≠q:=λj d q a8 e=>h.qa j q d a8 (by rw[Y,e])
 have ap:=(V O W.2 λq a8=>G c v q a8).trans g;have v1:=ab.aJ.one;have aa:=dG v1;have nn:H.next<=H'.next:=ai
 have low:∀k,k<M+1->H'.get k=H.get k:=λk A=>ah.2 k A
 have B:∀k,k≠O->(H'.set O (.row Z 1 (els.set c [m]))).get k=H'.get k:=λk A=>ad.cW (Ne.symm A)
 have Q:dd m=dd (dv c)\/dd m=D (H.next+1):=by
  rcases am with e|⟨n,e⟩
  ·exact .inl (by rw[e])
  ·exact .inr (by rw[e];rfl)
 refine⟨O,cap,m,H',z,v,λH1 ar=> ?_,af,ak,V,.row Z 1 (els.set c [m]),?_,⟨?_,?_,?_,?_,?_,?_,h.fZ⟩,ai⟩
 ·rw[fB ag ((ar O ai W.2 (G c v)).trans g) (T c v)];rfl
 ·rw[fN (n:=1) ag ap (e:=[dv c]) (T c v) (by rw[aa];rfl) (by rw[aa];simp[v1]) b_,aa];rfl
 ·obtain⟨bS,u,aq⟩:=h.fd.u;have:=h.fZ;exact⟨h.fd.g,by rw[B _ ai];exact(low _ ai).trans h.fd.f,bS,u,by rw[B _ ai];exact(low _ ai).trans aq⟩
 ·rw[B _ ai,low _ ai];exact h.mp
 ·refine⟨.inr ⟨O,els.set c [m],cap,by rw[z];simp,trivial,ad.dA ai,by simpa using ae,by simpa using cc,λj x d=> ?_⟩,λaE n q e=>by rw[z]at e;cases e;exact W.1⟩;have w:j<R.length:=by have:=(List.getElem?_eq_some_iff.1 d).1;simpa using this
  simp[w]at d;subst d;by_cases q:j=c
  ·subst q;rw[fI];exact⟨[m],by rw[List.getElem?_set_self ai],rfl,v1⟩
  ·rw[d_ _ _ q];exact⟨[dv j],by rw[List.getElem?_set_ne (Ne.symm q)];exact T j w,rfl,(h.kk j R[j] (by simp[w])).aJ.one⟩
 ·intro j r d;have w:j<R.length:=(List.getElem?_eq_some_iff.1 d).1;by_cases q:j=c
  ·subst q;rw[aA]at d;cases d;rw[fI];have U:bC (c_ (i+1) λs=>aW L s=aW L i)=bC (c_ i λs=>aW L s=aW L i)++[(i:Int)]:=by rw[mc];simp[bC]
   rw[U];exact ab.frame fK λK t=>B K (by
    rintro rfl;rcases Q with l|l
    ·rw[l]at t;exact G j v _ t rfl
    ·rw[l]at t;cases t;omega)
  ·rw[d_ _ _ q];have aC:aW L i≠r:=by
    rintro rfl;exact q (aw j c _ d aA)
   have U:(c_ (i+1) λs=>aW L s=r)=c_ i λs=>aW L s=r:=by rw[mc];simp[aC]
   rw[U];exact(h.kk j r d).frame fK λK t=>by
    have au:=h.hM w t;rw[B K λe=>G j w K t e.symm];exact V K au.2 λp ax e=>q (h.fc j c K w v t (by rw[ax,e]))
 ·intro j E K d N e o;by_cases q:j=c<;>by_cases S:E=c
  ·rw[q,S]
  ·subst q;rw[fI]at e;rw[d_ _ _ S]at o;rcases Q with l|l
   ·rw[l]at e;exact h.fc _ _ K d N e o
   ·rw[l]at e;cases e;have:=(h.hM N o).2;omega
  ·subst S;rw[d_ _ _ q]at e;rw[fI]at o;rcases Q with l|l
   ·rw[l]at o;exact h.fc _ _ K d N e o
   ·rw[l]at o;cases o;have:=(h.hM d e).2;omega
  ·rw[d_ _ _ q]at e;rw[d_ _ _ S]at o;exact h.fc j E K d N e o
 ·intro j K d e;by_cases q:j=c
  ·subst q;rw[fI]at e;rcases Q with l|l
   ·rw[l]at e;exact h.qa j K d e
   ·rw[l]at e;cases e;rw[Y];intro ao;cases ao;omega
  ·rw[d_ _ _ q]at e;exact h.qa j K d e
def xd(g:bp.Good L){r m:Nat}(a:aW L r=r)(hm:r<m):(eQ L m)[fi L r]? =D r:=Gb hm a
def om{m r:Nat}:r∈eQ L m↔r<m/\aW L r=r:=gI
def qf(m:Nat):(eQ L m).length<=m:=qc m _
def Im{N:Nat}(U:L.length<=1000000){H0:ad}(V:M=H0.next):∀(j k m:Nat) (H:ad) (ov:aa) (dv:Nat->aa),k+j=L.length->j<m->gN zD M L (eQ L k) k H ov dv->eF (· =zD) H0 H->
  W (lr (aC P ax) N m (.ptr (zD+1) 0 0) ov (.map M) (.int .i64 L.length) (.int .i64 k) H) λr H'=>∃l,gN zD M L (eQ L L.length) L.length H' r l/\eF (· =zD) H0 H'
 |_,_,0,_,_,_,_,hm,_,_=>ai
 |0,k,m+1,H,ov,dv,ab,_,h,w=>by
  have n:¬(k:Int)<(L.length:Int):=ai;have e:k=L.length:=ai;subst e;simp-implicitDefEqProofs(disch:=try exact al)only[lr,ur,aq,aG,n,decide_false,mU];exact aK.2 ⟨dv,h,w⟩
 |j+1,k,m+1,H,ov,dv,ab,hm,h,w=>by
  have n:(k:Int)<(L.length:Int):=ai;have af:k<L.length:=ai;have on:=Im (N:=N) U V j (k+1) m;simp-implicitDefEqProofs(disch:=try exact al)only[lr,ur,aq,aG,n,decide_true];refine bk (z_ h.fd af) ?_;rintro _ H1 ⟨rfl,f1,v⟩;refine⟨v.1,?_⟩;have aP:=h.fZ;have ae:=h.frame f1 λq a8 am=>v.2 q am ai
  have x:=w.trans v;have D9:=h.fd.g.le k;have u:∀(a:ad) (d:aa) (c:Nat->aa),gN zD M L (eQ L (k+1)) k a d c->eF (· =zD) H0 a->
    W (oW (aC P ax) N (lr (aC P ax) N m) (.ptr (zD+1) 0 0) d (.map M) (.int .i64 k) (.int .i64 (aW L k:Nat)) (.int .i64 L.length) (.int .i64 k) a) λr H'=>∃l,gN zD M L (eQ L L.length) L.length H' r l/\eF (· =zD) H0 H':=by
   intro a d c ah E;have an:aW L (aW L k)=aW L k:=h.fd.g.id k;have aA:=xd (m:=k+1) h.fd.g an ai;obtain⟨O,cap,Q,aI,i,A,eO,ap,nn,z,b,st,ak,aM⟩:=ah.put aA (λj aQ r=>Gc) ai;have pp:=ay.push a (.row Z 1 [[.int .i64 (k:Nat)]]);have o:aW L k∈eQ L (k+1):=List.mem_of_getElem? aA;have az:=Af ah.mp o;have aD:=Af (pp.get ah.mp) o;have Y:=ah.mlt;have au:∀q,dd (c (fi L (aW L k)))=D q->M≠q:=λq a8 e=>by have:=(ah.hM A a8).1;omega
   have aE:=Af ((z M Y au).trans ah.mp) o;have av:=eO a λ_ _ _ _=>rfl
   have aw:=eO (a.push (.row Z 1 [[.int .i64 (k:Nat)]])) λq _ a8 _=>pp.2 q a8
   have aN:cap=cap:=rfl;have ar:a6 P 31 d (.int .i64 ((fi L (aW L k):Nat):Int))=D (.ptr O (fi L (aW L k)) 0):=by
    rw[i,wo f_ ai ai];simp
   have aF:aa.beq (c (fi L (aW L k))) (c (fi L (aW L k)))=true:=((ah.kk _ _ aA).aJ).rd;have aH:aV (D (c (fi L (aW L k)))) (c (fi L (aW L k)))=true:=by simp[aV,aF]
   simp-implicitDefEqProofs(disch:=try exact al)only[oW,oV,aq,aO,aG,az,aD,aE,ar,av,aw,eW,ap,st,aH,c3 (show k<=1000000000 by omega)];refine on _ d _ ai ai ak ?_;have aL:H0.next<=a.next:=E.1
   refine⟨by simp;omega,λq a8 t=> ?_⟩;rw[ad.cW ai,z q ai λp aj e=>by have:=(ah.hM A aj).1;omega];exact E.2 q a8 t
  by_cases e:aW L k=k
  ·have i:(((aW L k:Nat):Int)==((k:Nat):Int))=true:=by simp[e]
   have hlen:=ae.out.aJ.len (K:=nP) f_ (H0:=H1);rw[List.length_map,List.length_range]at hlen;have B:∀H0,a2 P H0 .len [31] [ov]=D (.int .i64 ((fi L (aW L k):Nat):Int)):=λH0=>by
    have:=ae.out.aJ.len (K:=nP) f_ (H0:=H0);rw[List.length_map,List.length_range]at this;rw[this,e];rfl
   have ag:aW L k∉eQ L k:=λhm=>by have:=(om.1 hm).1;omega
   have up:=abf (f:=fi L) ae.mp ag;have es:eQ L (k+1)=eQ L k++[k]:=by rw[GK,if_pos e]
   obtain⟨Q,a,R,S,a3,a4⟩:=ae.root (λhm=>by have:=(om.1 hm).1;omega) rfl (by
    have:∀s,s∉c_ k λs=>aW L s=k:=λs ao=>by
     have:=gI.1 ao;have:=h.fd.g.le s;omega
    exact List.eq_nil_iff_forall_not_mem.2 this) (by have:=qf (L:=L) k;omega)
   rw[e]at up;rw[e]at B;rw[e]at u;have G:(H1.set M (.map (hn (fi L) (eQ L k++[k])))).next=H1.next:=by simp
   rw[e];simp only[lJ,DK,beq_self_eq_true,Jv,gG,bf,B,Jz];have T:((H1.set M (.map (hn (fi L) (eQ L k++[k])))).push (.row Z 1 [[aa.aB]])).next<=a.next:=by rw[ad.ds,G];exact S
   rw[up,pk (by simp)];simp only[lK,G,R];rw[yG T];refine u a Q _ (by rw[es];exact a3) ⟨by have:=x.1;omega,λq a8 t=> ?_⟩;rw[a4 q ai];exact x.2 q a8 t
  ·have i:(((aW L k:Nat):Int)==((k:Nat):Int))=false:=beq_eq_false_iff_ne.2 λh=>e (by exact_mod_cast h)
   have es:eQ L (k+1)=eQ L k:=by rw[GK,if_neg e,List.append_nil]
   simp-implicitDefEqProofs(disch:=try exact al)only[aq,aG,i];exact u H1 ov dv (by rw[es];exact ae) x
def Io(h:eh zD L H)(A:L.length<=1000000):W (aC P ax 189 [.ptr (zD+1) 0 0] H) λr H'=>eh zD L H'/\aZ (cQ bu) H' (λk=>H.next<=k) ((cC L).map bC) r/\eF (· =zD) H H':=by
 refine bZ (λ_=>Ue (L.length+1)) ?_;have u:ar P .eql 253 C (.ptr (zD+1) 0 0) .fD=D (.bool Z):=ag;have w:=h.lt;have m:=ay.push H (.map []);have hlen:∀H0,a2 P H0 .len [30] [.aJ zD 0 L.length 1 (D L.length)]=D (.int .i64 L.length):=λH0=>Aa (e:=3) ag _ _ _ _ _
 simp-implicitDefEqProofs(disch:=try exact al)only[qT,bf,aq,aO,aM,u,(h.aI m).kq,hlen];have ae:gN zD H.next L (eQ L 0) 0 (H.push (.map [])) .aB λ_=> .aB:=by
  have e:eQ L 0=[]:=rfl;rw[e];exact⟨h.aI m,ad.bq _ _,bG.nil nP _ _ _,λj r b=>by simp at b,λj Q K b=>by simp at b,λj K b=>by simp at b,w⟩
 refine(Im A rfl L.length 0 _ _ _ _ ai ai ae (m.mut _)).mono ?_;rintro r H' ⟨d,ah,E⟩;refine⟨ah.fd,?_,E⟩;have e:(cC L).map bC=(eQ L L.length).map λr=>bC (c_ L.length λs=>aW L s=r):=by simp[cC,Function.comp_def]
 rw[e];rcases ah.out.eG with⟨c,f⟩|⟨O,els,cap,c,_,g,o,cc,f⟩
 ·have:=congrArg List.length f;rw[List.length_map,List.length_range,List.length_nil]at this;rw[List.length_eq_zero_iff.1 this,c];exact .nil
 ·have N:=ah.out.hr (by rw[c];rfl:dd r=D O);simp only[List.length_map,List.length_range]at c o;refine .inr (.inl ⟨O,0,cap,Z,els,by rw[c];simp[cQ];rfl,ai,g,by simpa using o,λj x b=> ?_⟩);have l:j<(eQ L L.length).length:=by have:=(List.getElem?_eq_some_iff.1 b).1;simpa using this
  obtain⟨cs,G,rfl,_⟩:=f j (d j) (by simp[l]);rw[List.getElem?_map,List.getElem?_eq_getElem l]at b;cases b;refine⟨[d j],by rw[Nat.zero_add];exact G,d j,rfl,?_⟩;have n:=ah.kk j _ (List.getElem?_eq_getElem l);rcases n.eG with z|⟨q,v,t,p,R,z3,z4,z5,M⟩
  ·exact .inl z
  ·refine .inr (.inl ⟨q,0,t,Z,v,p,?_,z3,by rw[Nat.zero_add];exact z4,λi a B=>by rw[Nat.zero_add];exact M i a B⟩);have:=n.low _ _ _ p;omega
