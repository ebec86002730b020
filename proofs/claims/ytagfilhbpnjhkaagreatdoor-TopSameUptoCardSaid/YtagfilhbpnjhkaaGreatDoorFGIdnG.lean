import Derived.Lib.ItoaNum
import Derived.Test.YtagfilhbpnjhkaaGreatDoorFGIdnC
import Derived.Test.YtagfilhbpnjhkaaGreatDoorFGUtfD
set_option maxRecDepth 10000
set_option maxHeartbeats 0
namespace Go.Proofs.Q
open Tryz Go.RowKit
theorem a2S{P:Program}{src dst e:TypeId}(f:P.underlying src=some (.slice e))(he:P.underlying e=some (.int .u8))(hd:P.underlying dst=some .string)
  (a:Int) (ha:0<=a/\a<256) (b:Nat) (W:H) (h:W.cell? ⟨b,0,none⟩=some (.int .u8 a)):(convert src dst (.slice (some ⟨b,0,none⟩) 1 1)).run P W=.ok (.string (E [UInt8.ofNat a.toNat])) W :=
 run_convert_bytes_back (P:=P) W src dst e ⟨b,0,none⟩ 1 [UInt8.ofNat a.toNat] f he hd (λj d=>by
  have c:j=0:=by simpa using d
  subst c;rw[addr_add];rw[h];simp;omega)
theorem my:∀(k u:Nat),u<10 ^ (k+1)->(Lib.decDigits u).length<=k+1
 |0,u,h=>by
  rw[Lib.decDigits,dif_pos (by simpa using h)];simp
 |k+1,u,h=>by
  rw[Lib.decDigits]
  split
  ·simp
  have:=my k (u/10) (by rw[b1o]at h;omega);rw[ae];simp;exact this
theorem a1N{u:Nat}(h:u<10):Lib.decDigits u=[UInt8.ofNat (48+u)]:=by rw[Lib.decDigits,dif_pos h]
theorem a2E{u:Nat}(h:¬u<10):Lib.decDigits u=Lib.decDigits (u/10)++[UInt8.ofNat (48+u%10)]:=by rw[Lib.decDigits,dif_neg h]
theorem b7H(u:Nat)(w:H)(a:u<10):bF prog 107 #[.int .i64 u] w (S (Lib.decDigits u)):=by
 have hi:(u:Int)<10:=M0;have c:=λW=>a2M (P:=prog) underlying25 underlying5 underlying9 ((48:Int)+u) M0 W;have hd:=a1N a;have U:UInt8.ofNat ((48:Int)+u).toNat=UInt8.ofNat (48+u):=by congr 1
 rw[U,<-hd]at c;clear U hd;go_enter func107,ntmps107;go_wp2_with fail;go_ret;exact⟨rfl,(gT _ _).alloc (ag _) _⟩
theorem b1k:∀(u:Nat) (w:H),u<=9223372036854775807->bF prog 107 #[.int .i64 u] w (S (Lib.decDigits u)):=by
 intro u
 induction u using Nat.strongRecOn with
 |ind u s =>
  intro w hu;by_cases i:u<10
  ·exact b7H u w i
  have hi:¬(u:Int)<10:=M0;have j:=λW=>a2M (P:=prog) underlying25 underlying5 underlying9 ((48:Int)+(u:Int)%10) M0 W;have hi2:(u:Int)<=9223372036854775807:=M0;have w1:IntKind.i64.wrap ((u:Int)/10)=(u:Int)/10:=gS _ M0;have h:(u:Int).tmod 10=(u:Int)%10:=ei M0;have w3:IntKind.i64.wrap (48+(u:Int)%10)=48+(u:Int)%10:=gS _ M0;have w4:IntKind.u8.wrap (48+(u:Int)%10)=48+(u:Int)%10:=IntWalk.u8_in _ M0;have hd:=a2E i;have U:UInt8.ofNat ((48:Int)+(u:Int)%10).toNat=UInt8.ofNat (48+u%10):=by congr 1
  have f:=λb W=>a2S (P:=prog) underlying25 underlying5 underlying9 ((48:Int)+(u:Int)%10) M0 b W;rw[U]at j f;have hrec:∀(q:Int),q=((u/10:Nat):Int)->∀W,bF prog 107 #[.int .i64 q] W (S (Lib.decDigits (u/10))):=λq t W=>t▸s (u/10) M0 W M0;have hlen:=my 18 (u/10) M0;have t4:=mm (Lib.decDigits (u/10)) [UInt8.ofNat (48+u%10)];rw[<-hd]at t4;generalize UInt8.ofNat (48+u%10)=dg at t4 j f;obtain⟨D,n,T,r⟩:=ac (Lib.decDigits u) (Lib.decDigits (u/10));rw[<-n]at t4⊢;rw[<-r]at t4 hrec hlen;have hlt:¬ 9223372036854775807<T.length+1:=M0;clear U hd s n r;have g:=F hrec;clear hrec;have l:=F f;clear f;go_enter func107,ntmps107;go_wp2_with fail;refine wp_region_held_drew (S:=λ_=>True) Rz (by exact trivial) (λhHeld=>?_);refine ek 0 ?_;refine ek 1 ?_;refine ek 3 ?_;refine ek 4 ?_;refine ek 5 ?_;refine ek 6 ?_
  refine rn2 2 7 Rz rfl r5 ?_ rfl r5 ?_
  ·intro K hK
   go_simp
   refine(g.o _ M0 _).k λh d=>?_;dsimp only;refine hK.out _ _ ?_ (λhHeld=>?_)
   ·exact trivial
   clear hK K
   try simp only[Act.put,fH,fI,fJ]
   refine rn 7 Rz rfl r5 (λK hK=>?_)
   go_simp
   refine hK.out _ _ ?_ (λhHeld=>?_)
   ·exact trivial
   clear hK K
   try simp only[Act.put,fH,fI,fJ]
   refine rn 8 Rz rfl r5 (λK hK=>?_)
   go_simp
   refine hK.out _ _ ?_ (λhHeld=>?_)
   ·exact trivial
   clear hK K
   try simp only[Act.put,fH,fI,fJ]
   refine ek 9 ?_;refine ek 10 ?_
   refine wpAnyH_done Rz ?_ _;go_wp2_with fail;go_ret;refine⟨rfl,?_⟩;have a:=d.o
   have c:r7 w h:=by
    first
     |exact(gT w.heap.size w).drew.trans a
     |exact((gT w.heap.size w).alloc (ag _) _).drew.trans (Below.m (B':=w.heap.size) a Oc)
   first
    |exact c
    |exact c.alloc c.size _
  intro K hK
  go_simp
  refine hK.out _ _ ?_ (λhHeld=>?_)
  ·exact trivial
  clear hK K
  try simp only[Act.put,fH,fI,fJ]
  refine rn2 2 8 Rz rfl r5 ?_ rfl r5 ?_
  ·intro K hK
   go_simp
   refine(g.o _ M0 _).k λh d=>?_;dsimp only;refine hK.out _ _ ?_ (λhHeld=>?_)
   ·exact trivial
   clear hK K
   try simp only[Act.put,fH,fI,fJ]
   refine rn 8 Rz rfl r5 (λK hK=>?_)
   go_simp
   rw[l.o _ _ ((d.o.cell (p:=⟨w.heap.size,0,none⟩) Oc).trans (by simp[hx]))];simp only[Result.andThen];rw[Oper.upon_value]
   go_simp
   refine hK.out _ _ ?_ (λhHeld=>?_)
   ·exact trivial
   clear hK K
   try simp only[Act.put,fH,fI,fJ]
   refine ek 9 ?_;refine ek 10 ?_
   refine wpAnyH_done Rz ?_ _;go_wp2_with fail;go_ret;refine⟨rfl,?_⟩;have a:=d.o
   have c:r7 w h:=by
    first
     |exact(gT w.heap.size w).drew.trans a
     |exact((gT w.heap.size w).alloc (ag _) _).drew.trans (Below.m (B':=w.heap.size) a Oc)
   first
    |exact c
    |exact c.alloc c.size _
  intro K hK
  go_simp
  rw[l.o _ _ (by simp[hx])];simp only[Result.andThen];rw[Oper.upon_value]
  go_simp
  refine hK.out _ _ ?_ (λhHeld=>?_)
  ·exact trivial
  clear hK K
  try simp only[Act.put,fH,fI,fJ]
  refine rn 2 Rz rfl r5 (λK hK=>?_)
  go_simp
  refine(g.o _ M0 _).k λh d=>?_;dsimp only;refine hK.out _ _ ?_ (λhHeld=>?_)
  ·exact trivial
  clear hK K
  try simp only[Act.put,fH,fI,fJ]
  refine ek 9 ?_;refine ek 10 ?_
  refine wpAnyH_done Rz ?_ _;go_wp2_with fail;go_ret;refine⟨rfl,?_⟩;have a:=d.o
  have c:r7 w h:=by
   first
    |exact(gT w.heap.size w).drew.trans a
    |exact((gT w.heap.size w).alloc (ag _) _).drew.trans (Below.m (B':=w.heap.size) a Oc)
  first
   |exact c
   |exact c.alloc c.size _
def kE:O:=[120,110,45,45]
def xJ(b:O):Option O :=
 if Lib.hasPrefix b kE=true then
  (if b69 b=true then(match Fl (b.drop 4)with|some l=>if qZ l=true then some b else none|none=>none)else none)
 else if b69 b=true then some b
 else if qZ (signs b)=true then(if(encR (signs b)).2=true then some (kE++(encR (signs b)).1)else none)else none
def rQ(w:H)(o:Option O):Ending->H->Prop:=λe w'=>∃x,e=.returned (.tuple #[S x,.bool o.isSome])/\(∀y,o=some y->x=y)/\r7 w w'
theorem rQ.none{w a:H}{o:Option O}(x:O)(h:o=none)(U:r7 w a):rQ w o (.returned (.tuple #[S x,.bool false])) a:=by
 subst h;exact⟨_,rfl,λ_ h=>(by cases h),U⟩
theorem rQ.some{w a:H}{o:Option O}{x:O}{s:ByteArray}(h:o=some x)(c:s=E x)(U:r7 w a):rQ w o (.returned (.tuple #[.string s,.bool true])) a:=by
 subst h;subst c;exact⟨_,rfl,λ_ h=>bj h,U⟩
theorem b0t{b:O}(h:Lib.hasPrefix b kE=true)(I:b69 b=false):xJ b=none:=by unfold xJ;rw[ge h,gc (by simp[I])]
theorem b0u{b:O}(h:Lib.hasPrefix b kE=true)(I:b69 b=true)(a:Fl (b.drop 4)=none):xJ b=none:=by unfold xJ;rw[ge h,ge I,a]
theorem b0v{b:O}{l:List Int}(h:Lib.hasPrefix b kE=true)(I:b69 b=true)(a:Fl (b.drop 4)=some l):xJ b=if qZ l=true then some b else none:=by unfold xJ;rw[ge h,ge I,a]
theorem b0w{b:O}(h:Lib.hasPrefix b kE=false)(I:b69 b=true):xJ b=some b:=by unfold xJ;rw[gc (by simp[h]),ge I]
theorem b0x{b:O}(h:Lib.hasPrefix b kE=false)(I:b69 b=false)(a:qZ (signs b)=false):xJ b=none:=by unfold xJ;rw[gc (by simp[h]),gc (by simp[I]),gc (by simp[a])]
theorem b0y{b:O}(h:Lib.hasPrefix b kE=false)(I:b69 b=false)(a:qZ (signs b)=true):xJ b=if(encR (signs b)).2=true then some (kE++(encR (signs b)).1)else none:=by unfold xJ;rw[gc (by simp[h]),gc (by simp[I]),ge a]
theorem Ci(l:List Int):(encR l).1.length<=3000:=by
 unfold encR
 split
 ·simp
 next h =>
 have Y:l.all sg=true:=by
  by_cases I:l.all sg=true
  ·exact I
  exact absurd (.inr I) h
 exact OV (dl.mp Y) M0
theorem St(b:O)(w:H)(U:b.length<=307200000)(a:uL w):Calls prog 243 #[.string (E b)] w λe c=>ga w 3 (d8 (signs b)) e c:=by
 have h:=GU (E b) w (by rw[aF];exact U) a;rw[cW,GQ]at h;exact h
theorem Eg(b:O)(w:H)(U:b.length<=102400000)(hT:uL w):Calls prog 246 #[.string (E b)] w λe w'=>rQ w (xJ b) e w':=by
 have hlow:=λW=>Ll b W (by unfold maxLen;omega);have hcut:=λW=>Any.strings_CutPrefix laysCut (E b) (E kE) W;have y:=λW (h:uL W)=>St b W M0 h;have hdec:=λW=>Cc (b.drop 4) W (by rw[aj];omega);have e1:(E b).data.toList=b:=cW b;have e2:(E kE).data.toList=kE:=cW kE;rw[e1,e2]at hcut;have C:∀W,bP prog 142 #[.string (E b),.string ⟨#[120,110,45,45]⟩] W (.tuple #[.string (E (Lib.trimPrefix b kE)),.bool (Lib.hasPrefix b kE)]):=hcut;clear hcut e1 e2;have T:Lib.hasPrefix b kE=true->Lib.trimPrefix b kE=b.drop 4:=λh=>by unfold Lib.trimPrefix;rw[ge h];rfl
 obtain⟨O',u⟩:=V (xJ b);rw[<-u];generalize Lib.trimPrefix b kE=R at C T;have HT:=F hT;clear hT;cases hp:Lib.hasPrefix b kE
 ·rw[hp]at C
  have v:=F C;clear C T hdec;cases n:b69 b
  ·rw[n]at hlow
   have q:=F hlow;clear hlow;have K:=F y;clear y;cases c:qZ (signs b)
   ·have j:=u.trans (b0x hp n c)
    have t:=F j;clear j u hp n;obtain⟨L,N⟩:=V (signs b);rw[<-N]at c K;have M:=F c;clear c N;generalize E b=s at q v K⊢;go_enter func246,ntmps246
    go_wp2_with(first|(go_at_call 257;refine(q.o _).e ?_)|(go_at_call 142;refine(v.o _).e ?_)|(go_at_call 243;refine(K.o _ HT.o).m ?_;rintro e w3⟨v3,rfl,f,d⟩;have g:=F d;clear d;have J:=F<|Sl.g9 f;clear f)|(go_at_call 259;refine(sy L _ _ (J.o.more (ag _))).m ?_;rw[M.o];rintro e w4⟨rfl,i⟩;have z:=F<|g.o.trans (i.m g.o.size);clear i))
    go_ret2
    exact rQ.none [] t.o z.o
   have j:=u.trans (b0y hp n c);have henc:=Fz (signs b);have P:=Ci (signs b);generalize signs b=L at c K j henc P;clear u hp n;obtain⟨A',hA,a,ha⟩:=ac ((encR L).1) ((encR L).2);rw[<-hA,<-ha]at j henc;rw[<-hA]at P;clear hA ha;have M:=F c;clear c;have zC:=F henc;clear henc;generalize E b=s at q v K⊢;have t4:(⟨#[120,110,45,45]⟩:ByteArray)++E A'=E (kE++A'):=mm kE A';have Hq:=F t4;clear t4;cases a
   all_goals
    have t:=F j;clear j;go_enter func246,ntmps246
    go_wp2_with(first|(go_at_call 257;refine(q.o _).e ?_)|(go_at_call 142;refine(v.o _).e ?_)|(go_at_call 243;refine(K.o _ HT.o).m ?_;rintro e w3⟨v3,rfl,f,d⟩;have g:=F d;clear d;have J:=F<|Sl.g9 f;clear f)|(go_at_call 259;refine(sy L _ _ (J.o.more (ag _))).m ?_;rw[M.o];rintro e w4⟨rfl,i⟩;have HS4:=F<|(J.o.below i).more i.size;have z:=F<|g.o.trans (i.m g.o.size);clear i)|(go_at_call 260;refine(zC.o _ _ HS4.o).k λw5 Q=>?_;have gD:=F<|z.o.trans (Q.o.m z.o.size);clear Q))
    go_ret2
    first
     |exact rQ.some t.o Hq.o gD.o
     |(rw[Hq.o];exact rQ.none _ t.o gD.o)
  rw[n]at hlow;have j:=u.trans (b0w hp n);have t:=F j;clear j u hp n y;have q:=F hlow;clear hlow;obtain⟨s,D⟩:=ey (E b);rw[<-D.o]at q v⊢;go_enter func246,ntmps246
  go_wp2_with(first|(go_at_call 257;refine(q.o _).e ?_)|(go_at_call 142;refine(v.o _).e ?_))
  go_ret2
  exact rQ.some t.o D.o (gT _ _)
 rw[hp]at C;have htr:=T hp;subst htr;have v:=F C;clear C T y;cases n:b69 b
 ·rw[n]at hlow
  have j:=u.trans (b0t hp n);have t:=F j;clear j u hp n hdec;have q:=F hlow;clear hlow;generalize E b=s at q v⊢;go_enter func246,ntmps246
  go_wp2_with(first|(go_at_call 257;refine(q.o _).e ?_)|(go_at_call 142;refine(v.o _).e ?_))
  go_ret2
  exact rQ.none [] t.o (gT _ _)
 rw[n]at hlow;have q:=F hlow;clear hlow;cases hd:Fl (b.drop 4)with
 |none =>
  have j:=u.trans (b0u hp n hd);rw[hd]at hdec;have t:=F j;clear j u hp n hd;have Tv:=F hdec;clear hdec;generalize b.drop 4=r at *;obtain⟨s,D⟩:=ey (E b);rw[<-D.o]at q v⊢;go_enter func246,ntmps246
  go_wp2_with(first|(go_at_call 257;refine(q.o _).e ?_)|(go_at_call 142;refine(v.o _).e ?_)|(go_at_call 258;refine(Tv.o _).m ?_;rintro e w3⟨v3,rfl,f,B,d⟩;have g:=F d;clear d B f))
  go_ret2
  rw[D.o];exact rQ.none b t.o g.o
 |some l =>
  have j:=u.trans (b0v hp n hd);rw[hd]at hdec;clear u hp n hd;have Tv:=F hdec;clear hdec;generalize b.drop 4=r at *;obtain⟨s,D⟩:=ey (E b);rw[<-D.o]at q v⊢;have c:=sy l;generalize qZ l=m at c j;have M:=F c;clear c;cases m
  all_goals
   have t:=F j;clear j;go_enter func246,ntmps246
   go_wp2_with(first|(go_at_call 257;refine(q.o _).e ?_)|(go_at_call 142;refine(v.o _).e ?_)|(go_at_call 258;refine(Tv.o _).m ?_;rintro e w3⟨v3,rfl,f,B,d⟩;have g:=F d;clear d B;simp only[dj]at f;have J:=F<|Sl.g9 f;clear f)|(go_at_call 259;refine(M.o _ _ J.o).k λw4 i=>?_;have z:=F<|g.o.trans (i.o.m g.o.size);clear i))
   go_ret2
   first
    |exact rQ.some t.o D.o z.o
    |(rw[D.o];exact rQ.none b t.o z.o)

theorem b1h{c:Int}(d:Utf8.valid c=true)(h:¬c<0x80):2<=(enc c).length/\b69 (enc c)=false:=by
 have hr:=(sQ c).mp d;by_cases I:c<0x800
 ·rw[IE M0 I]
  refine⟨Oc,?_⟩;unfold b69;simp only[a4I];rw[Xn M0,gh M0];rfl
 by_cases a:c<0x10000
 ·rw[yn M0 a M0]
  refine⟨Oc,?_⟩;unfold b69;simp only[a4I];rw[Xn M0,gh M0];rfl
 rw[D6 M0 M0];refine⟨Oc,?_⟩;unfold b69;simp only[a4I];rw[Xn M0,gh M0];rfl
theorem b2z(a b:O):b69 (a++b)=(b69 a&&b69 b):=by unfold b69;rw[Xe]
