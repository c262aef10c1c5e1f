/-
  Texts of one proof, laid together: ShLd Kg.
-/
import Derived.Test.YtghmbpmaafnodaaDoorMU
set_option linter.unusedVariables false
set_option linter.unusedSimpArgs false
set_option linter.defProp false
open Option renaming some→D
open Bool renaming true→X,false→U
open Go.b9.aa renaming int→I,str→Y
open Go.IntKind renaming i64→J
namespace Go.Proofs.YtghmbpmaafnodaaDoor
open Go.b9
open Nat (reduceAdd reduceLeDiff)
section
set_option maxRecDepth 100000
noncomputable section
def nz(G:ay)(w x bz:aa)(H:ae):O:=j (aK P 29 x 0) λl=>j (an P H 27 l) λm=>j (aq P .eql 27 X m (I J 0)) λa=>aQ a X H (qr (an P H 45 w)) λn c=>aQ a X c (λq=>eJ c (G 16 [n] c) q) λo h=>aQ a X h (ca bz) λp i=>aQ a X i (bA (aq P .eql 9 U o p)) λs d=>j (cB a (D s) (D (.bool U))) λe=>aQ e X d (λq=>eJ d (G 12 [] d) q) λu k=>j (cB e (D u) (D (.bool U))) λv=>D (v,k)
def LG(G:ay)(N:Nat):∀ad H,bo P G N (ak (ak (ak (ak (ak (ak (ak (ak (ak (ak (ak (bs Tryd.f6)))))))))))) (bh Tryd.f6) [] (bh Tryd.f6) ad H=nz G (ad 13) (ad 15) (ad 16) H:=by
 refine bK (aH _) λad H=> ?_
 delta nz;kernel_rfl
def ny(G:ay)(ag av:aa)(m o u:aa)(H:ae):O:=j (aq P .add 9 X (Y [40,40]) o) λE=>j (aq P .add 9 X E (Y [41,41])) λF=>aI H (G 14 [F] H) λn p=>j (eg n 0) λK=>j (eg n 1) λL=>cg p [I J 0,I J 0] λB h=>a7 h (aV P h 29 B L) λi=>aI i (G 15 [K,I J 0,I J 0] i) λe q=>j (eg e 0) λM=>j (eg e 1) λS=>j (eg e 2) λN=>cg q [I J 0,I J 0,Y [],Y [],I J 0,aa.ar,I J 0,I J 0,I J 0,I J 0,I J 0] λc s=>cg s [I J 0,I J 0] λd k=>a7 k (aV P k 45 c M) λl=>a7 l (aV P l 29 d N) λa=>aW (D u) (j (cc P 50 m ag) λQ=>j (an P a 9 Q) λR=>j (aq P .add 9 X (Y [97,32]) R) λv=>j (aq P .add 9 X v (Y [32,98,32])) λw=>j (cc P 50 m av) λx=>j (an P a 9 x) λy=>j (aq P .add 9 U w y) λz=>j (aq P .add 9 X z (Y [32,99])) λA=>nz G c d A a) (nz G c d o a)
def LF(G:ay)(N:Nat):∀ad H,bo P G N (ak (ak (ak (ak (ak (ak (ak (bs Tryd.f6)))))))) (bh Tryd.f6) [] (bh Tryd.f6) ad H=ny G (ad 0) (ad 1) (ad 7) (ad 9) (ad 10) H:=by
 refine bK ((aP ah ((aP ah ((aP ah ((aP ah (LG G N) (aH _))) (aH _))) (aH _))) (aH _))) λad H=> ?_
 delta ny;generalize nz G=a;revert a;refine id ?_;intro a;kernel_rfl
def km(G:ay)(ag av A:aa)(H:ae):O:=bS H (D (.aA (H).next 0 8 1 (D 8),.row U 1 [[Y [124,124]],[Y [38,38]],[Y [60]],[Y [61,61]],[Y [43]],[Y [45]],[Y [42]],[Y [37]]])) λc k=>bS k (D (.aA (k).next 0 8 1 (D 8),.row U 1 [[I J 1],[I J 2],[I J 3],[I J 3],[I J 4],[I J 4],[I J 5],[I J 5]])) λh s=>j (aq P .lss 3 X ag (I J 0)) λd=>aQ d U s (ca ag) λB u=>aQ d U u (ca c) λn m=>aQ d U m (λq=>gg (b2 P .empty .len [50] [n]) (b2 P m .len [50] [n]) q) λE v=>aQ d U v (bA (aq P .geq 3 U B E)) λF w=>j (cB d (D (.bool X)) (D F)) λi=>aQ i U w (ca av) λK x=>aQ i U x (bA (aq P .lss 3 X K (I J 0))) λL y=>j (cB i (D (.bool X)) (D L)) λe=>aQ e U y (ca av) λM z=>aQ e U z (ca c) λo l=>aQ e U l (λq=>gg (b2 P .empty .len [50] [o]) (b2 P l .len [50] [o]) q) λN p=>aQ e U p (bA (aq P .geq 3 U M N)) λQ a=>j (cB e (D (.bool X)) (D Q)) λR=>aW (D R) (D ((.bool X),a)) (j (cc P 50 c ag) λS=>j (an P a 9 S) λT=>j (aq P .add 9 X (Y [40,97,32]) T) λV=>j (aq P .add 9 X V (Y [32,98,41,32])) λW=>j (cc P 50 c av) λab=>j (an P a 9 ab) λad=>j (aq P .add 9 U W ad) λaf=>j (aq P .add 9 X af (Y [32,99])) λah=>j (cc P 51 h ag) λai=>j (an P a 3 ai) λaj=>j (cc P 51 h av) λak=>j (an P a 3 ak) λal=>j (aq P .geq 3 U aj al) λam=>j (e2 .not A) λao=>aW (D ao) (j (cc P 50 c ag) λap=>j (an P a 9 ap) λau=>j (aq P .add 9 X (Y [97,32]) au) λaw=>j (aq P .add 9 X aw (Y [32,40,98,32])) λax=>j (cc P 50 c av) λaz=>j (an P a 9 az) λaB=>j (aq P .add 9 U ax aB) λaC=>j (aq P .add 9 X aC (Y [32,99,41])) λaD=>j (cc P 51 h av) λaE=>j (an P a 3 aE) λaF=>j (cc P 51 h ag) λaG=>j (an P a 3 aG) λaH=>j (aq P .gtr 3 U aF aH) λaI=>ny G ag av c aD aI a) (ny G ag av c ah am a))
def LD(G:ay)(N:Nat)(ag:aa)(av:aa)(c:aa)(H:ae):rm Tryd.f6 G N (kI [ag,av,c]) H=km G ag av c H:=by
 refine dN (A:=rm Tryd.f6 G N) ((aP ah ((aP ah ((aP ah ((aP ah ((aP ah ((aP ah ((aP ah (LF G N) (aH _))) (aH _))) (aH _))) (aH _))) (aH _))) (aH _))) (aH _))) ?_;delta km;generalize ny G=a;revert a;refine id ?_;intro a;kernel_rfl
end
end
def hb:List aJ:=[[124,124],[38,38],[60],[61,61],[43],[45],[42],[37]]
def iE:List Int:=[1,2,3,3,4,4,5,5]
def r5(a b:aJ)(left:Bool):aJ:=bif left then[40,97,32]++a++[32,98,41,32]++b++[32,99]else[97,32]++a++[32,40,98,32]++b++[32,99,41]
def IM(left:Bool)(p q:Int):Bool:=bif left then decide (q<=p)else decide (p<q)
def IN(a b:aJ)(left:Bool)(p q:Int):aJ:=bif IM left p q then[97,32]++a++[32,98,32]++b++[32,99]else r5 a b left
def vl(l:Bool)(i j:Nat):Bool:=sQ ([40,40]++r5 (hb[i]?.getD []) (hb[j]?.getD []) l++[41,41]) (IN (hb[i]?.getD []) (hb[j]?.getD []) l (iE[i]?.getD 0) (iE[j]?.getD 0))
set_option maxRecDepth 100000 in
def IP:([X,U]:List Bool).all (λl=>(List.range 8).all λi=>(List.range 8).all λj=>vl l i j)=true:=by decide+kernel
def IQ{i j:Nat}(d:i<8)(e:j<8)(l:Bool):vl l i j=true:=by
 have a:=List.all_eq_true.1 IP l (by cases l<;>simp);have c:=List.all_eq_true.1 a i (List.mem_range.2 d);exact List.all_eq_true.1 c j (List.mem_range.2 e)
def Dg{i:Nat}(a:i<8):(hb[i]?.getD []).length<=2:=by
 have:(List.range 8).all (λi=>decide ((hb[i]?.getD []).length<=2))=true:=cp;exact of_decide_eq_true (List.all_eq_true.1 this i (List.mem_range.2 a))
def h0{c:Bool}(a b:aJ)(h:a.length+b.length<=1000):∃t,t=a++b/\aq P .add 9 c (Y a) (Y b)=D (Y t):=⟨_,rfl,cV af⟩
def Cd{H e:ae}(j:eR.gP H)(q:aO H e){ok:Nat->Prop}{c d:Nat}{cs:List aa}{a:bM}{ks:List aL}{kv:aa}(p:a.cells kv=cs)(l:cs.length=11)(m:cs.all aa.one=X)(gc:e.get c=D (.row U 11 [cs]))(o:e.get d=D (.row U 2 [[I J 0,I J 0]]))(u:b8 e ok ks kv){i:Nat}(z:cm i 0 (.mk a ks))(y:cE (.mk a ks)<=1000000000){w:aJ}(hw:flat (bm (.mk a ks))=w):
  W (nz (aC P az) (.ptr c 0 0) (.ptr d 0 0) (Y w) e) λv H'=>v= .bool X/\aO H H':=by
 rw[nz];have n:((0:Int)==0)=true:=rfl;have x:List.take 11 cs=cs:=List.take_of_length_le af;simp-implicitDefEqProofs(disch:=try exact al)only[reduceAdd,reduceLeDiff,reduceIte,ax,gc,o,n,l,m,x];rw[<-p];refine iR (bz _ i 0 z y a ks rfl e _ kv u (j.aM q)) ?_;rintro _ A ⟨rfl,h⟩;refine⟨h.1,?_⟩;rw[hw];have s:(w==w)=true:=by simp
 simp-implicitDefEqProofs(disch:=try exact al)only[reduceAdd,reduceLeDiff,reduceIte,ax,s];refine iR (HT (j.aM (q.trans h))) ?_;rintro _ B ⟨rfl,k⟩;refine⟨k.1,?_⟩;simp-implicitDefEqProofs(disch:=try exact al)only[bf,br];exact bb.2 ⟨rfl,(q.trans h).trans k⟩
def Cc{H H0:ae}(R:eR.gP H)(ay:aO H H0){L:Nat}{cap:Option Nat}{u:List (List aa)}(an:H0.get L=D (.row U 1 u)){i j:Nat}(aS:i<8)(aU:j<8){a b:aJ}(ak:u[i]? =D [Y a])(am:u[j]? =D [Y b])(aX:a.length<=2)(aZ:b.length<=2){l pl:Bool}{s w:aJ}(aB:s=r5 a b l)(hw:w=bif pl then[97,32]++a++[32,98,32]++b++[32,99]else s)(V:sQ ([40,40]++s++[41,41]) w=X):
  W (ny (aC P az) (I J i) (I J j) (.aA L 0 8 1 cap) (Y s) (.bool pl) H0) λv H'=>v= .bool X/\aO H H':=by
 rw[ny];have ls:s.length<=100:=by
  rw[aB];unfold r5;cases l<;>simp only[aY,aT,List.length_append,List.length_cons,List.length_nil]<;>omega
 obtain⟨t1,ab,ai⟩:=h0 (c:=true) [40,40] s (by simp only[List.length_cons,List.length_nil];omega);obtain⟨t2,E,aj⟩:=h0 (c:=true) t1 [41,41] (by rw[ab];simp only[List.length_append,List.length_cons,List.length_nil];omega);simp-implicitDefEqProofs(disch:=try exact al)only[bf,br,ai,aj];rw[<-ab,<-E]at V;obtain⟨o,ex,st,aG,ag,aQ,A⟩:=L6 V;obtain⟨d,aR,K,G⟩:=GR o aG ag;refine aN (w1 t2) ?_;rintro _ H1 ⟨ao,rfl,B,M⟩;refine⟨M.1,?_⟩;generalize dx t2=x at B o aG ⊢;obtain⟨T,e,f⟩:=x;simp only at B o aG ⊢;subst o;have ap:=M.get an;have q:=aO.push H1 (.row U 2 [[I J 0,I J f]]);have O:=q.get ap;simp-implicitDefEqProofs(disch:=try exact al)only[reduceAdd,reduceLeDiff,reduceIte,ax,ae.hr]
 generalize H1.push (.row U 2 [[I J 0,I J f]])=aK at q O ⊢;have aD:=(ay.trans M).trans q;have E:=B.aM q;refine aN (E_ cp E aG) ?_;rw[IT ag];rintro _ h ⟨a1,rfl,he,N⟩;refine⟨N.1,?_⟩;simp only at he K G A ⊢;have aE:=aD.trans N;have aq:=N.get O;obtain⟨aP,ks⟩:=ex;obtain⟨kv,rfl,S⟩:=gO.1 he;obtain⟨cs,k,y,z⟩:=he.cells;have k:=aa.agg.inj k;rw[k]at he ⊢;have m:=(aO.push h (.row U 11 [cs])).bt (.row U 2 [[I J 0,I J 0]]);have gc:=(aO.push (h.push (.row U 11 [cs])) (.row U 2 [[I J 0,I J 0]])).get (ae.bC h (.row U 11 [cs]));have n:=ae.bC (h.push (.row U 11 [cs])) (.row U 2 [[I J 0,I J 0]])
 simp only[ae.bT]at n;have Q:=m.get aq;simp-implicitDefEqProofs(disch:=try exact al)only[reduceAdd,reduceLeDiff,reduceIte,ax,ae.hr,y,z,List.append_nil];generalize (h.push (.row U 11 [cs])).push (.row U 2 [[I J 0,I J 0]])=aL at m gc n Q ⊢;have ah:=aE.trans m;cases pl with
 |false=>
  rw[aT]at hw;subst hw;simp-implicitDefEqProofs(disch:=try exact al)only[bf,br];exact Cd R ah k y z gc n (S.aM m) K G A
 |true=>
  rw[aY]at hw;have i0:(0:Int)<=(i:Int):=af;have i8:(i:Int)<((8:Nat):Int):=af;have au:((i:Int)).toNat=i:=af;have aV:(0:Int)<=(j:Int):=af;have aW:(j:Int)<((8:Nat):Int):=af;have av:((j:Int)).toNat=j:=af;obtain⟨aF,p,f1⟩:=h0 (c:=true) [97,32] a (by simp only[List.length_cons,List.length_nil];omega);obtain⟨aH,F,f2⟩:=h0 (c:=true) aF [32,98,32] (by rw[p];simp only[List.length_append,List.length_cons,List.length_nil];omega);obtain⟨aI,ad,f3⟩:=h0 (c:=false) aH b (by rw[F,p];simp only[List.length_append,List.length_cons,List.length_nil];omega);obtain⟨a0,aw,f4⟩:=h0 (c:=true) aI [32,99] (by rw[ad,F,p];simp only[List.length_append,List.length_cons,List.length_nil];omega)
  rw[<-p,<-F,<-ad,<-aw]at hw;subst hw;simp-implicitDefEqProofs(disch:=try exact al)only[reduceAdd,reduceLeDiff,reduceIte,ax,au,av,Q,ak,am,f1,f2,f3,f4];exact Cd R ah k y z gc n (S.aM m) K G A
def IS{H:ae}(T:eR.gP H)(x y:Int)(left:Bool):W (km (aC P az) (I J x) (I J y) (.bool left) H) λv H'=>v= .bool X/\aO H H':=by
 rw[km];have am:([[aa.str [124,124]],[aa.str [38,38]],[aa.str [60]],[aa.str [61,61]],[aa.str [43]],[aa.str [45]],[aa.str [42]],[aa.str [37]]]:List (List aa))=hb.map λt=>[Y t]:=rfl
 have an:([[aa.int J 1],[aa.int J 2],[aa.int J 3],[aa.int J 3],[aa.int J 4],[aa.int J 4],[aa.int J 5],[aa.int J 5]]:List (List aa))=iE.map λt=>[I J t]:=rfl
 rw[am,an];have d:=(aO.push H (.row U 1 (hb.map λt=>[aa.str t]))).bt (.row U 1 (iE.map λt=>[aa.int J t]));have G:((8:Nat):Int)=8:=rfl;by_cases s:x<0
 ·simp-implicitDefEqProofs(disch:=try exact al)only[bf,br,c5,s,decide_true];exact bb.2 ⟨rfl,d⟩
 by_cases z:8<=x
 ·simp-implicitDefEqProofs(disch:=try exact al)only[reduceAdd,reduceLeDiff,reduceIte,ax,s,z,G,decide_true,decide_false];exact bb.2 ⟨rfl,d⟩
 by_cases M:y<0
 ·simp-implicitDefEqProofs(disch:=try exact al)only[reduceAdd,reduceLeDiff,reduceIte,ax,s,z,M,G,decide_true,decide_false];exact bb.2 ⟨rfl,d⟩
 by_cases S:8<=y
 ·simp-implicitDefEqProofs(disch:=try exact al)only[reduceAdd,reduceLeDiff,reduceIte,ax,s,z,M,S,G,decide_true,decide_false];exact bb.2 ⟨rfl,d⟩
 obtain⟨i,rfl⟩:∃k:Nat,x=k:=⟨x.toNat,af⟩;obtain⟨j,rfl⟩:∃k:Nat,y=k:=⟨y.toNat,af⟩;have n:i<8:=af;have o:j<8:=af;have i0:(0:Int)<=(i:Int):=af;have i8:(i:Int)<((8:Nat):Int):=af;have V:((i:Int)).toNat=i:=af;have ao:(0:Int)<=(j:Int):=af;have ap:(j:Int)<((8:Nat):Int):=af;have ab:((j:Int)).toNat=j:=af;have h:(hb.map λt=>[aa.str t])[i]? =D [Y (hb[i]?.getD [])]:=get_map (by simpa [hb]using n);have m:(hb.map λt=>[aa.str t])[j]? =D [Y (hb[j]?.getD [])]:=get_map (by simpa [hb]using o);have A:(iE.map λt=>[aa.int J t])[i]? =D [I J (iE[i]?.getD 0)]:=get_map (by simpa [iE]using n);have B:(iE.map λt=>[aa.int J t])[j]? =D [I J (iE[j]?.getD 0)]:=get_map (by simpa [iE]using o)
 have e:=IQ n o left;have Q:=Dg n;have R:=Dg o;unfold vl at e;generalize (hb.map λt=>[aa.str t])=K at h m d;generalize (iE.map λt=>[aa.int J t])=L at A B d;generalize hb[i]?.getD []=a at h e Q;generalize hb[j]?.getD []=b at m e R;generalize iE[i]?.getD 0=p at A e;generalize iE[j]?.getD 0=q at B e;have g1:((H.push (.row U 1 K)).push (.row U 1 L)).get H.next=D (.row U 1 K):=by simp-implicitDefEqProofs(disch:=try exact al)only[dq]
 have g2:((H.push (.row U 1 K)).push (.row U 1 L)).get (H.next+1)=D (.row U 1 L):=by simp-implicitDefEqProofs(disch:=try exact al)only[dq]
 obtain⟨t1,u,ah⟩:=h0 (c:=true) [40,97,32] a (by simp only[List.length_cons,List.length_nil];omega);obtain⟨t2,E,ai⟩:=h0 (c:=true) t1 [32,98,41,32] (by rw[u];simp only[List.length_append,List.length_cons,List.length_nil];omega);obtain⟨t3,N,aj⟩:=h0 (c:=false) t2 b (by rw[E,u];simp only[List.length_append,List.length_cons,List.length_nil];omega);obtain⟨t4,ad,ak⟩:=h0 (c:=true) t3 [32,99] (by rw[N,E,u];simp only[List.length_append,List.length_cons,List.length_nil];omega);simp-implicitDefEqProofs(disch:=try exact al)only[reduceAdd,reduceLeDiff,reduceIte,ax,s,z,M,S,G,decide_false,V,ab,h,m,A,B,ah,ai,aj,ak]
 cases left with
 |true=>
  simp-implicitDefEqProofs(disch:=try exact al)only[bf,br,Bool.not_true];exact Cc T d g1 n o h m Q R (l:=true) (by rw[ad,N,E,u];rfl) rfl (by rw[ad,N,E,u];exact e)
 |false=>
  obtain⟨v1,w,f1⟩:=h0 (c:=true) [97,32] a (by simp only[List.length_cons,List.length_nil];omega);obtain⟨v2,F,f2⟩:=h0 (c:=true) v1 [32,40,98,32] (by rw[w];simp only[List.length_append,List.length_cons,List.length_nil];omega);obtain⟨v3,O,f3⟩:=h0 (c:=false) v2 b (by rw[F,w];simp only[List.length_append,List.length_cons,List.length_nil];omega);obtain⟨v4,ag,f4⟩:=h0 (c:=true) v3 [32,99,41] (by rw[O,F,w];simp only[List.length_append,List.length_cons,List.length_nil];omega);simp-implicitDefEqProofs(disch:=try exact al)only[reduceAdd,reduceLeDiff,reduceIte,ax,Bool.not_false,V,ab,h,m,A,B,f1,f2,f3,f4];exact Cc T d g1 n o h m Q R (l:=false) (by rw[ag,O,F,w];rfl) rfl (by rw[ag,O,F,w];exact e)
