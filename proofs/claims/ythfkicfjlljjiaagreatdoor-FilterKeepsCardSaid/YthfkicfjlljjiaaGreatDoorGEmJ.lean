/- Joined texts. -/
import Derived.Test.YthfkicfjlljjiaaGreatDoorGIdnC
import Derived.Test.YthfkicfjlljjiaaGreatDoorGUtfD
import Derived.Test.YthfkicfjlljjiaaGreatDoorGNumT
set_option maxHeartbeats 40000000
namespace Go.Proofs.YthfkicfjlljjiaaGreatDoor
open Tryz
open Go.RowKit
set_option maxRecDepth 10000
def kE:O:=[120,110,45,45]
def xJ(b:O):Option O :=
 if Lib.hasPrefix b kE=true then
  (if b69 b=true then(match Fl (b.drop 4)with|some l=>if qZ l=true then some b else none|none=>none)else none)
 else if b69 b=true then some b
 else if qZ (signs b)=true then(if(encR (signs b)).2=true then some (kE++(encR (signs b)).1)else none)else none
def rQ(w:H)(o:Option O):Ending->H->Prop:=λe w'=>∃ x,e=.returned (.tuple #[S x,.bool o.isSome])/\(∀y,o=some y->x=y)/\r7 w w'
theorem rQ.none{w a:H}{o:Option O}(x:O)(h:o=none)(U:r7 w a):rQ w o (.returned (.tuple #[S x,.bool false])) a:=by
 subst h;exact⟨_,rfl,λ_ h=>(by cases h),U⟩
theorem rQ.some{w a:H}{o:Option O}{x:O}{s:ByteArray}(h:o=some x)(c:s=E x)(U:r7 w a):rQ w o (.returned (.tuple #[.string s,.bool true])) a:=by
 subst h;subst c;exact⟨_,rfl,λ_ h=>bj h,U⟩
theorem b0t{b:O}(h:Lib.hasPrefix b kE=true)(I:b69 b=false):xJ b=none:=by unfold xJ;rw[if_pos h,if_neg (by simp[I])]
theorem b0u{b:O}(h:Lib.hasPrefix b kE=true)(I:b69 b=true)(a:Fl (b.drop 4)=none):xJ b=none:=by unfold xJ;rw[if_pos h,if_pos I,a]
theorem b0v{b:O}{l:List Int}(h:Lib.hasPrefix b kE=true)(I:b69 b=true)(a:Fl (b.drop 4)=some l):xJ b=if qZ l=true then some b else none:=by unfold xJ;rw[if_pos h,if_pos I,a]
theorem b0w{b:O}(h:Lib.hasPrefix b kE=false)(I:b69 b=true):xJ b=some b:=by unfold xJ;rw[if_neg (by simp[h]),if_pos I]
theorem b0x{b:O}(h:Lib.hasPrefix b kE=false)(I:b69 b=false)(a:qZ (signs b)=false):xJ b=none:=by unfold xJ;rw[if_neg (by simp[h]),if_neg (by simp[I]),if_neg (by simp[a])]
theorem b0y{b:O}(h:Lib.hasPrefix b kE=false)(I:b69 b=false)(a:qZ (signs b)=true):xJ b=if(encR (signs b)).2=true then some (kE++(encR (signs b)).1)else none:=by unfold xJ;rw[if_neg (by simp[h]),if_neg (by simp[I]),if_pos a]
theorem Ci(l:List Int):(encR l).1.length<=3000:=by
 unfold encR
 split
 ·simp
 next h =>
 have Y:l.all sg=true:=by
  by_cases I:l.all sg=true
  ·exact I
  exact absurd (.inr I) h
 exact OV (ch.mp Y) M0
theorem St(b:O)(w:H)(U:b.length<=307200000)(a:uL w):Calls prog 251 #[.string (E b)] w λe c=>ga w 3 (d8 (signs b)) e c:=by
 have h:=GU (E b) w (by rw[aF];exact U) a;rw[cW,GQ]at h;exact h
theorem Eg(b:O)(w:H)(U:b.length<=102400000)(hT:uL w):Calls prog 254 #[.string (E b)] w λe w'=>rQ w (xJ b) e w':=by
 have hlow:=λW=>Ll b W (by unfold maxLen;omega);have hcut:=λW=>Any.strings_CutPrefix laysCut (E b) (E kE) W;have x:=λW (h:uL W)=>St b W M0 h;have hdec:=λW=>Cc (b.drop 4) W (by rw[aj];omega);have e1:(E b).data.toList=b:=cW b;have e2:(E kE).data.toList=kE:=cW kE;rw[e1,e2]at hcut;have B:∀ W,bP prog 139 #[.string (E b),.string ⟨#[120,110,45,45]⟩] W (.tuple #[.string (E (Lib.trimPrefix b kE)),.bool (Lib.hasPrefix b kE)]):=hcut;clear hcut e1 e2;have Q:Lib.hasPrefix b kE=true->Lib.trimPrefix b kE=b.drop 4:=λh=>by unfold Lib.trimPrefix;rw[if_pos h];rfl
 obtain⟨O',t⟩:=V (xJ b);rw[<-t];obtain⟨R,hR⟩:=V (Lib.trimPrefix b kE);rw[<-hR]at B Q;clear hR;have HT:=F hT;clear hT;cases hp:Lib.hasPrefix b kE
 ·rw[hp]at B
  have u:=F B;clear B Q hdec;cases n:b69 b
  ·rw[n]at hlow
   have p:=F hlow;clear hlow;have J:=F x;clear x;cases c:qZ (signs b)
   ·have j:=t.trans (b0x hp n c)
    have q:=F j;clear j t hp n;obtain⟨L,M⟩:=V (signs b);rw[<-M]at c J;have K:=F c;clear c M;obtain⟨s,k⟩:=V (E b);rw[<-k]at p u J ⊢;clear k;go_enter func254,ntmps254
    go_wp2_with (first|(go_at_call 267;refine(p.o _).m ?_;rintro e w2 ⟨rfl,rfl⟩)|(go_at_call 139;refine(u.o _).m ?_;rintro e w2 ⟨rfl,v⟩;subst w2)|(go_at_call 251;refine(J.o _ HT.o).m ?_;rintro e w3 ⟨v3,rfl,f,d⟩;have g:=F d;clear d;have D:=F<|Sl.ew f;clear f)|(go_at_call 269;refine(sy L _ _ (D.o.more (ag _))).m ?_;rw[K.o];rintro e w4 ⟨rfl,i⟩;have y:=F<|g.o.trans (i.m g.o.size);clear i))
    go_ret2
    exact rQ.none [] q.o y.o
   have j:=t.trans (b0y hp n c);have henc:=Fz (signs b);have N:=Ci (signs b);obtain⟨L,M⟩:=V (signs b);rw[<-M]at c J j henc N;clear M t hp n;obtain⟨T,hA⟩:=V ((encR L).1);obtain⟨a,ha⟩:=V ((encR L).2);rw[<-hA,<-ha]at j henc;rw[<-hA]at N;clear hA ha;have K:=F c;clear c;have zC:=F henc;clear henc;obtain⟨s,k⟩:=V (E b);rw[<-k]at p u J ⊢;clear k;have t4:(⟨#[120,110,45,45]⟩:ByteArray)++E T=E (kE++T):=mm kE T;have Hq:=F t4;clear t4;cases a
   all_goals
    have q:=F j;clear j;go_enter func254,ntmps254
    go_wp2_with (first|(go_at_call 267;refine(p.o _).m ?_;rintro e w2 ⟨rfl,rfl⟩)|(go_at_call 139;refine(u.o _).m ?_;rintro e w2 ⟨rfl,v⟩;subst w2)|(go_at_call 251;refine(J.o _ HT.o).m ?_;rintro e w3 ⟨v3,rfl,f,d⟩;have g:=F d;clear d;have D:=F<|Sl.ew f;clear f)|(go_at_call 269;refine(sy L _ _ (D.o.more (ag _))).m ?_;rw[K.o];rintro e w4 ⟨rfl,i⟩;have HS4:=F<|(D.o.below i).more i.size;have y:=F<|g.o.trans (i.m g.o.size);clear i)|(go_at_call 270;refine(zC.o _ _ HS4.o).m ?_;rintro e w5 ⟨rfl,P⟩;have gD:=F<|y.o.trans (P.m y.o.size);clear P))
    go_ret2
    first
     |exact rQ.some q.o Hq.o gD.o
     |(rw[Hq.o];exact rQ.none _ q.o gD.o)
  rw[n]at hlow;have j:=t.trans (b0w hp n);have q:=F j;clear j t hp n x;have p:=F hlow;clear hlow;obtain⟨s,k⟩:=V (E b);rw[<-k]at p u ⊢;have C:=F k;clear k;go_enter func254,ntmps254
  go_wp2_with (first|(go_at_call 267;refine(p.o _).m ?_;rintro e w2 ⟨rfl,rfl⟩)|(go_at_call 139;refine(u.o _).m ?_;rintro e w2 ⟨rfl,v⟩;subst w2))
  go_ret2
  exact rQ.some q.o C.o (Below.refl _ _)
 rw[hp]at B;have htr:=Q hp;subst htr;have u:=F B;clear B Q x;cases n:b69 b
 ·rw[n]at hlow
  have j:=t.trans (b0t hp n);have q:=F j;clear j t hp n hdec;have p:=F hlow;clear hlow;obtain⟨s,k⟩:=V (E b);rw[<-k]at p u ⊢;clear k;go_enter func254,ntmps254
  go_wp2_with (first|(go_at_call 267;refine(p.o _).m ?_;rintro e w2 ⟨rfl,rfl⟩)|(go_at_call 139;refine(u.o _).m ?_;rintro e w2 ⟨rfl,v⟩;subst w2))
  go_ret2
  exact rQ.none [] q.o (Below.refl _ _)
 rw[n]at hlow;have p:=F hlow;clear hlow;cases hd:Fl (b.drop 4)with
 |none =>
  have j:=t.trans (b0u hp n hd);rw[hd]at hdec;have q:=F j;clear j t hp n hd;have Tv:=F hdec;clear hdec;generalize b.drop 4=r at *;obtain⟨s,k⟩:=V (E b);rw[<-k]at p u ⊢;have C:=F k;clear k;go_enter func254,ntmps254
  go_wp2_with (first|(go_at_call 267;refine(p.o _).m ?_;rintro e w2 ⟨rfl,rfl⟩)|(go_at_call 139;refine(u.o _).m ?_;rintro e w2 ⟨rfl,v⟩;subst w2)|(go_at_call 268;refine(Tv.o _).m ?_;rintro e w3 ⟨v3,rfl,f,z,d⟩;have g:=F d;clear d z f))
  go_ret2
  rw[C.o];exact rQ.none b q.o g.o
 |some l =>
  have j:=t.trans (b0v hp n hd);rw[hd]at hdec;clear t hp n hd;have Tv:=F hdec;clear hdec;generalize b.drop 4=r at *;obtain⟨s,k⟩:=V (E b);rw[<-k]at p u ⊢;have C:=F k;clear k;have c:=sy l;obtain⟨m,hm⟩:=V (qZ l);rw[<-hm]at c j;clear hm;have K:=F c;clear c;cases m
  all_goals
   have q:=F j;clear j;go_enter func254,ntmps254
   go_wp2_with (first|(go_at_call 267;refine(p.o _).m ?_;rintro e w2 ⟨rfl,rfl⟩)|(go_at_call 139;refine(u.o _).m ?_;rintro e w2 ⟨rfl,v⟩;subst w2)|(go_at_call 268;refine(Tv.o _).m ?_;rintro e w3 ⟨v3,rfl,f,z,d⟩;have g:=F d;clear d z;simp only[dj]at f;have D:=F<|Sl.ew f;clear f)|(go_at_call 269;refine(K.o _ _ D.o).m ?_;rintro e w4 ⟨rfl,i⟩;have y:=F<|g.o.trans (i.m g.o.size);clear i))
   go_ret2
   first
    |exact rQ.some q.o C.o y.o
    |(rw[C.o];exact rQ.none b q.o y.o)
end Go.Proofs.YthfkicfjlljjiaaGreatDoor
set_option maxHeartbeats 40000000
namespace Go.Proofs.YthfkicfjlljjiaaGreatDoor
open Tryz
open Go.RowKit
set_option maxRecDepth 10000
structure b5x (i:eu):Prop where
 url:EN i.url
 n:i.words.length<=10
 w:∀ x∈i.words,x.length<=100
structure b6b (l:List eu) (d:O):Prop where
 n:l.length<=20
 d:d.length<=200
 i:∀ x∈l,b5x x
theorem b6i(l:List eu)(v:Z)(d:O)(w:H)(h:Items w.heap.size w v l) :
  Calls prog 17 #[.agg #[v,S d]] w λe w'=>zH (b6b l d) e/\r7 w w':=by
 obtain⟨R,cc,hv⟩:=lM h;subst hv;obtain⟨N,hN⟩:=V (l.length);rw[<-hN]at h ⊢;obtain⟨Good,u⟩:∃ Good:Prop,Good=b6b l d:=⟨_,rfl⟩;rw[<-u]
 have hmk:N<=20->d.length<=200->(∀k (hk:k<l.length),k<N->b5x l[k])->Good:=by
  intro a1 a2 a3;rw[u];refine⟨M0,a2,λx X=>?_⟩;obtain⟨k,hk,rfl⟩:=cC X;exact a3 k hk M0
 have HMK:=F hmk;have HIT:=F h;have HN:=F hN;clear u hmk h hN;have hbel:∀ o,Below w.heap.size w (w.alloc o):=λo=>(Below.refl w.heap.size w).alloc (ag _) o;have tR:=F hbel;clear hbel;by_cases Y:(20:Int)<N
 ·go_enter func17,ntmps17
  go_wp2_with fail;go_ret;exact⟨zH.ff,tR.o _⟩
 by_cases I:(200:Int)<d.length
 ·go_enter func17,ntmps17
  go_wp2_with fail;go_ret;exact⟨zH.ff,tR.o _⟩
 have c3f:N<=20:=M0;have hd2:d.length<=200:=M0
 have hcd:∀ W,Below (w.heap.size+1) (w.alloc (.cells #[.slice R N cc,S d] 50)) W->W.cell? ⟨w.heap.size,0,none⟩=some (.slice R N cc):=λW n=>by
  rw[n.cell (p:=⟨w.heap.size,0,none⟩) Oc];rw[World.cell?_alloc_mark];rfl
 have hWB:∀ W,Below (w.heap.size+1) (w.alloc (.cells #[.slice R N cc,S d] 50)) W->r7 w W:=λW n=>(tR.o _).trans (n.m M0);have hz1:w.heap.size+1<=(w.alloc (.cells #[.slice R N cc,S d] 50)).heap.size:=Oc;have s:=F hcd;have a:=F hWB;have P:=F hz1;clear hcd hWB hz1;go_enter func17,ntmps17;go_wp2_with fail;obtain⟨w1,hw1⟩:=V (w.alloc (.cells #[.slice R N cc,S d] 50));rw[<-hw1]at s a P ⊢;clear hw1
 go_loopw [3] (λiv wr=>∃ k:Nat,k<=N/\iv=.int .i64 k/\Hid (∀j (D:j<l.length),j<k->b5x l[j])/\Hid (Below (w.heap.size+1) w1 wr)) (λi _=>N-(intOf i).toNat)
 exact⟨0,M0,Oc,λj _ h=>absurd h (cL j),Below.refl _ _⟩
 obtain⟨k,hk,rfl,z,f⟩:=hrel;have c0:=s.o _ f.o;by_cases hlt:k<N
 ·have hkl:k<l.length:=by rw[<-HN.o];exact hlt
  have Lf:(k:Int)<N:=M0;obtain⟨b,o,rfl,hbb,hat⟩:=oh HIT.o k hkl;obtain⟨A,wv,q,c,C,g⟩:=hat
  have hgd2:b5x l[k]->∀ j (D:j<l.length),j<k+1->b5x l[j]:=λX j D h=>by
   rcases cI j k with Y|Y
   ·exact z.o j D Y
   obtain rfl:j=k:=M0;exact X
  have J:=F hgd2;clear hgd2 z;obtain⟨it,hit⟩:=V (l[k]);rw[<-hit]at q c C g J;clear hit;have IM:sY (cu A it.url).toArray A it.url:=lV A c;have huc:=iK A it.url c;have b9P:=λ(W:H) (n:r7 w W)=>KU it.url _ A W IM ((C.below n).more n.size);have Q:∀ W,r7 w W->W.rangeAt b (o+k*25+1) (cu A it.url):=λW n j v D=>(n.cell (p:=⟨b,o+k*25+1+j,none⟩) hbb).trans (Aq q j v D);have y:∀ W,r7 w W->W.cell? ⟨b,o+k*25+24,none⟩=some wv:=λW n=>(n.cell (p:=⟨b,o+k*25+24,none⟩) hbb).trans (Lt c q);obtain⟨wa,wc,T⟩:=cQ g;rw[ay]at T;subst T;obtain⟨M,hM⟩:=V (it.words.length);rw[<-hM]at g y;have c1O:=F b9P;have EE:=F Q;have HUC:=F huc;have HCW:=F y;have HWV:=F g;have HM:=F hM;clear b9P Q huc y g hM q c C IM hlt
  go_upto_region 7 with(first|(refine wpList_load_mid rfl 34 _ rfl b (o+k*25+1) rfl (cu A it.url) _ (EE.o _ (a.o _ f.o)) underlying34 rfl (by rw[HUC.o];kernel_rfl) ?_)|(go_at_call 44;refine(c1O.o _ (a.o _ f.o)).m ?_;rintro e w4 ⟨⟨ok,rfl,c⟩,hb4⟩;have r:=F<|f.o.trans (hb4.m (am P.o f.o.size));have Kd:=F c;clear hb4 c))
  have c0b:=s.o _ r.o;have cwb:=HCW.o _ (a.o _ r.o);clear c0;cases ok
  ·go_wp2_with fail
   go_ret;exact⟨zH.ff,a.o _ r.o⟩
  by_cases c7j:(10:Int)<M
  ·go_wp2_with fail
   go_ret;exact⟨zH.ff,a.o _ r.o⟩
  have hM1:M<=10:=M0;go_wp2_with fail
  go_loopw [5] (λjv wr=>∃ j:Nat,j<=M/\jv=.int .i64 j/\Hid (∀x∈it.words.take j,x.length<=100)/\w4=wr) (λj _=>M-(intOf j).toNat)
  exact⟨0,M0,Oc,λx X=>by simp at X,rfl⟩
  obtain⟨j,D,rfl,B,rfl⟩:=hrel;by_cases hjl:j<M
  ·have hjw:j<it.words.length:=by rw[<-HM.o];exact hjl
   have c7s:(j:Int)<M:=M0;obtain⟨wb,wo,rfl,hwb,hwc⟩:=gO (HWV.o.below (a.o _ r.o)) j hjw
   have t:it.words[j].length<=100->∀ x∈it.words.take (j+1),x.length<=100:=by
    intro h x X;rw[aH hjw,bO,dS]at X;rcases X with X|rfl
    ·exact B.o x X
    exact h
   generalize it.words[j]=word at hwc t;have K:=F t;clear t B hjl;by_cases c65:(100:Int)<word.length
   ·go_wp2_with fail
    go_ret;exact⟨zH.ff,a.o _ r.o⟩
   have hle:word.length<=100:=M0;go_wp2_with fail;go_roundw
   case rel =>
    first
     |exact⟨j+1,M0,Oc,K.o hle,by trivial⟩
     |((repeat apply Exists.intro);exact⟨⟨j+1,M0,Oc,K.o hle,by trivial⟩,rfl⟩)
   case measure=>simp[intOf];omega
  obtain rfl:j=M:=M0;have hif:b5x it:=⟨Kd.o (by trivial),by rw[<-HM.o];exact hM1,λx X=>B.o x (by rw[HM.o,di];exact X)⟩;have L:=F<|J.o hif;clear hif;go_wp2_with fail;go_roundw
  case rel =>
   first
    |exact⟨k+1,M0,Oc,L.o,r.o⟩
    |((repeat apply Exists.intro);exact⟨⟨k+1,M0,Oc,L.o,r.o⟩,rfl⟩)
  case measure=>simp[intOf];omega
 obtain rfl:k=N:=M0;go_wp2_with fail;go_ret;exact⟨zH.of λ_=>HMK.o c3f hd2 z.o,a.o _ f.o⟩

def h0:gF:=⟨0,[],0,[0,0,0,0,0,0,0,0]⟩
def hA:gF:=⟨2,[97],0,[0,0,0,0,0,0,0,0]⟩
def uA:Url:=⟨[104,116,116,112],[],[],hA,false,0,false,[],[[]],true,[98,38,99],false,[]⟩
def uO(fl:O):Url:=⟨[120],[],[],h0,false,0,true,fl,[],false,[],false,[]⟩
theorem a3l(w:H):(Instr.build 32 #[(0,.int .i64 2),(1,.string ⟨#[97]⟩)]).run prog w=.ok (.agg (aS hA).toArray) w:=Rz
section
variable {ops:Array Oper} {rest:List Oper} {o:Oper} {a:Act} {w:H} {Q:Exit->Act->H->Prop}
theorem yg(d:o.guard=none)(t:TypeId)(n:Nat)(parts:Array (Nat×Operand))(e:o.op=.buildSlice t n parts)(v:Z)(c:H)(xs:Array (Nat×Z))(X:parts.map (λ(i,x)=>(i,a.eval x))=xs)(f:(Instr.buildSlice t n xs).run prog w=.ok v c)(h:wpList prog ops Q rest (a.put o.dst v) c):wpList prog ops Q (o::rest) a w:=by
 refine wpList_plain d λK hK=>?_;subst X;unfold Oper.wp execOp;simp only[e,Sem.run_bind,Sem.run_pure,Result.andThen_ok,f];exact hK _ _ h
theorem EW(c:o.guard=none)(d:o.op=.build 32 #[(0,.const (.int .i64 2)),(1,.const (.string ⟨#[97]⟩))])(h:wpList prog ops Q rest (a.put o.dst (.agg (aS hA).toArray)) w):wpList prog ops Q (o::rest) a w :=
 bR c 32 _ d (.agg (aS hA).toArray) #[(0,.int .i64 2),(1,.string ⟨#[97]⟩)] (by simp[Act.eval]) a3l h
end
theorem Wl(W:H)(s:O):Sl (W.alloc (.cells #[S s] 9)).heap.size (W.alloc (.cells #[S s] 9)) (.slice (some ⟨W.heap.size,0,none⟩) 1 1) ([s].map S):=by
 refine⟨1,Oc,by unfold maxLen;omega,.inr ⟨W.heap.size,0,Oc,rfl,λj c=>?_⟩⟩;have h0:j=0:=by simpa using c
 subst h0;rw[World.cell?_alloc_mark];rfl
def iA:eu:=⟨false,uA,[[49,120]]⟩
def iB:eu:=⟨false,uO [121],[]⟩
section
variable {ops:Array Oper} {rest:List Oper} {o:Oper} {a:Act} {w:H} {Q:Exit->Act->H->Prop}
end
theorem lm{P:Program}{ops:Array Oper}{rest:List Oper}{op:Oper}{a:Act}{w:H}{Q:Exit->Act->H->Prop}(hw:Region.wanted op (yielded ops a.tmps)=true)(ty:TypeId)(x:Operand)(e:op.op=.load ty x)
  (b o:Nat) (X:a.eval x=.pointer (some ⟨b,o,none⟩)) (cs:List Z) (d:TypeDesc) (c:w.rangeAt b o cs)
  (hu:P.underlying ty=some d) (hd:d.isRow=true) (hi:(P.info? ty).map (·.size)=some cs.length)
  (h:wpList P ops Q rest (a.put op.dst (.agg cs.toArray)) w):wpList P ops Q (op::rest) a w:=by
 unfold wpList;rw[if_pos hw];exact .inl (wp_load_mid ty x e b o X cs d c hu hd hi h)
theorem w2:kK 2 [iA,iB] [53]=[104,116,116,112,58,47,47,97,47,63,98,38,97,109,112,59,99,32,49,120,44,32,120,58,121]:=by decide +kernel
theorem w1:kK 1 [iA,iB] [53]=[104,116,116,112,58,47,47,97,47,63,98,38,97,109,112,59,99]:=by decide +kernel
theorem w3:kK 3 [iA,iB] [53]=[53,59,32,117,114,108,61,104,116,116,112,58,47,47,97,47,63,98,38,97,109,112,59,99]:=by decide +kernel
theorem w0:kK 0 [iA,iB] [53]=[]:=by decide +kernel
