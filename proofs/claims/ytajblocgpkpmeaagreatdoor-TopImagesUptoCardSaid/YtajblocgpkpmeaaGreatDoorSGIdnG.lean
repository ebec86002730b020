/- Joined texts. -/
import Derived.Lib.ItoaNum
import Derived.Test.YtajblocgpkpmeaaGreatDoorSGIdnC
import Derived.Test.YtajblocgpkpmeaaGreatDoorSGUtfD
set_option maxHeartbeats 40000000
namespace Go.Proofs.YtajblocgpkpmeaaGreatDoor
open Tryz
open Go.RowKit
set_option maxRecDepth 10000
theorem a2S{P:Program}{src dst e:TypeId}(d:P.underlying src=some (.slice e))(he:P.underlying e=some (.int .u8))(hd:P.underlying dst=some .string)
  (a:Int) (ha:0<=a/\a<256) (b:Nat) (W:H) (h:W.cell? ⟨b,0,none⟩=some (.int .u8 a)):(convert src dst (.slice (some ⟨b,0,none⟩) 1 1)).run P W=.ok (.string (E [UInt8.ofNat a.toNat])) W :=
 run_convert_bytes_back (P:=P) W src dst e ⟨b,0,none⟩ 1 [UInt8.ofNat a.toNat] d he hd (λj c=>by
  have h0:j=0:=by simpa using c
  subst h0;rw[addr_add];rw[h];simp;omega)
theorem my:∀ (k u:Nat),u<10 ^ (k+1)->(Lib.decDigits u).length<=k+1
 |0,u,h=>by
  rw[Lib.decDigits,dif_pos (by simpa using h)];simp
 |k+1,u,h=>by
  rw[Lib.decDigits]
  split
  ·simp
  have:=my k (u/10) (by rw[b1o]at h;omega);rw[ae];simp;exact this
theorem a1N{u:Nat}(h:u<10):Lib.decDigits u=[UInt8.ofNat (48+u)]:=by rw[Lib.decDigits,dif_pos h]
theorem a2E{u:Nat}(h:¬ u<10):Lib.decDigits u=Lib.decDigits (u/10)++[UInt8.ofNat (48+u%10)]:=by rw[Lib.decDigits,dif_neg h]
theorem b7H(u:Nat)(w:H)(a:u<10):bF prog 142 #[.int .i64 u] w (S (Lib.decDigits u)):=by
 have hi:(u:Int)<10:=M0;have c:=λW=>a2M (P:=prog) underlying46 underlying5 underlying9 ((48:Int)+u) M0 W;have hd:=a1N a;have U:UInt8.ofNat ((48:Int)+u).toNat=UInt8.ofNat (48+u):=by congr 1
 rw[U,<-hd]at c;clear U hd;go_enter func142,ntmps142;go_wp2_with fail;go_ret;exact⟨rfl,(Below.refl _ _).alloc (ag _) _⟩
theorem b1k:∀ (u:Nat) (w:H),u<=9223372036854775807->bF prog 142 #[.int .i64 u] w (S (Lib.decDigits u)):=by
 intro u
 induction u using Nat.strongRecOn with
 |ind u r =>
  intro w hu;by_cases h:u<10
  ·exact b7H u w h
  have hi:¬ (u:Int)<10:=M0;have i:=λW=>a2M (P:=prog) underlying46 underlying5 underlying9 ((48:Int)+(u:Int)%10) M0 W;have hi2:(u:Int)<=9223372036854775807:=M0;have w1:IntKind.i64.wrap ((u:Int)/10)=(u:Int)/10:=IntWalk.i64_in _ M0;have w2:(u:Int).tmod 10=(u:Int)%10:=ei M0;have w3:IntKind.i64.wrap (48+(u:Int)%10)=48+(u:Int)%10:=IntWalk.i64_in _ M0;have w4:IntKind.u8.wrap (48+(u:Int)%10)=48+(u:Int)%10:=IntWalk.u8_in _ M0;have hd:=a2E h;have U:UInt8.ofNat ((48:Int)+(u:Int)%10).toNat=UInt8.ofNat (48+u%10):=by congr 1
  have f:=λb W=>a2S (P:=prog) underlying46 underlying5 underlying9 ((48:Int)+(u:Int)%10) M0 b W;rw[U]at i f;have hrec:∀ (q:Int),q=((u/10:Nat):Int)->∀ W,bF prog 142 #[.int .i64 q] W (S (Lib.decDigits (u/10))):=λq s W=>s▸r (u/10) M0 W M0;have hlen:=my 18 (u/10) M0;have t4:=mm (Lib.decDigits (u/10)) [UInt8.ofNat (48+u%10)];rw[<-hd]at t4;obtain⟨dg,j⟩:=V (UInt8.ofNat (48+u%10));rw[<-j]at t4 i f;clear j;obtain⟨D,l⟩:=V (Lib.decDigits u);obtain⟨T,n⟩:=V (Lib.decDigits (u/10));rw[<-l]at t4 ⊢;rw[<-n]at t4 hrec hlen;have hlt:¬ 9223372036854775807<T.length+1:=M0;clear U hd r l n;have g:=F hrec;clear hrec;have k:=F f;clear f;go_enter func142,ntmps142;go_wp2_with fail;refine wp_region_held_drew (S:=λ_=>True) Rz (by exact trivial) (λhHeld=>?_);refine tq 0 rfl ?_ (λw hSw=>?_) ?_;rotate_left
  ·(try dsimp only at hSw);go_simp;first|done|with_reducible rfl
  try simp only[Act.put,fH,fI,fJ]
  refine tq 1 rfl ?_ (λw hSw=>?_) ?_;rotate_left
  ·(try dsimp only at hSw);go_simp;first|done|with_reducible rfl
  try simp only[Act.put,fH,fI,fJ]
  refine tq 3 rfl ?_ (λw hSw=>?_) ?_;rotate_left
  ·(try dsimp only at hSw);go_simp;first|done|with_reducible rfl
  try simp only[Act.put,fH,fI,fJ]
  refine tq 4 rfl ?_ (λw hSw=>?_) ?_;rotate_left
  ·(try dsimp only at hSw);go_simp;first|done|with_reducible rfl
  try simp only[Act.put,fH,fI,fJ]
  refine tq 5 rfl ?_ (λw hSw=>?_) ?_;rotate_left
  ·(try dsimp only at hSw);go_simp;first|done|with_reducible rfl
  try simp only[Act.put,fH,fI,fJ]
  refine tq 6 rfl ?_ (λw hSw=>?_) ?_;rotate_left
  ·(try dsimp only at hSw);go_simp;first|done|with_reducible rfl
  try simp only[Act.put,fH,fI,fJ]
  refine rn2 2 7 Rz rfl r5 ?_ rfl r5 ?_
  ·intro K hK
   go_simp
   refine(g.o _ M0 _).m ?_;rintro e w2 ⟨rfl,a⟩;have d:=F a;clear a;dsimp only;refine hK.out _ _ ?_ (λhHeld=>?_)
   ·exact trivial
   clear hK K
   try simp only[Act.put,fH,fI,fJ]
   refine rn 7 Rz rfl r5 (λK hK=>?_)
   go_simp
   refine hK.out _ _ ?_ (λhHeld=>?_)
   ·exact trivial
   clear hK K
   try simp only[Act.put,fH,fI,fJ]
   refine rn 8 Rz rfl r5 (λK hK=>?_)
   go_simp
   refine hK.out _ _ ?_ (λhHeld=>?_)
   ·exact trivial
   clear hK K
   try simp only[Act.put,fH,fI,fJ]
   refine tq 9 rfl ?_ (λw hSw=>?_) ?_;rotate_left
   ·(try dsimp only at hSw);go_simp;first|done|with_reducible rfl
   try simp only[Act.put,fH,fI,fJ]
   refine tq 10 rfl ?_ (λw hSw=>?_) ?_;rotate_left
   ·(try dsimp only at hSw);go_simp;first|done|with_reducible rfl
   try simp only[Act.put,fH,fI,fJ]
   refine wpAnyH_done Rz ?_ _;go_wp2_with fail;go_ret;refine⟨rfl,?_⟩;have a:=d.o
   have c:r7 w w2:=by
    first
     |exact(Below.refl w.heap.size w).drew.trans a
     |exact((Below.refl w.heap.size w).alloc (ag _) _).drew.trans (Below.m (B':=w.heap.size) a Oc)
   first
    |exact c
    |exact c.alloc c.size _
  intro K hK
  go_simp
  refine hK.out _ _ ?_ (λhHeld=>?_)
  ·exact trivial
  clear hK K
  try simp only[Act.put,fH,fI,fJ]
  refine rn2 2 8 Rz rfl r5 ?_ rfl r5 ?_
  ·intro K hK
   go_simp
   refine(g.o _ M0 _).m ?_;rintro e w2 ⟨rfl,a⟩;have d:=F a;clear a;dsimp only;refine hK.out _ _ ?_ (λhHeld=>?_)
   ·exact trivial
   clear hK K
   try simp only[Act.put,fH,fI,fJ]
   refine rn 8 Rz rfl r5 (λK hK=>?_)
   go_simp
   rw[k.o _ _ ((d.o.cell (p:=⟨w.heap.size,0,none⟩) Oc).trans (by simp[World.cell?_alloc_mark]))];simp only[Result.andThen];rw[Oper.upon_value]
   go_simp
   refine hK.out _ _ ?_ (λhHeld=>?_)
   ·exact trivial
   clear hK K
   try simp only[Act.put,fH,fI,fJ]
   refine tq 9 rfl ?_ (λw hSw=>?_) ?_;rotate_left
   ·(try dsimp only at hSw);go_simp;first|done|with_reducible rfl
   try simp only[Act.put,fH,fI,fJ]
   refine tq 10 rfl ?_ (λw hSw=>?_) ?_;rotate_left
   ·(try dsimp only at hSw);go_simp;first|done|with_reducible rfl
   try simp only[Act.put,fH,fI,fJ]
   refine wpAnyH_done Rz ?_ _;go_wp2_with fail;go_ret;refine⟨rfl,?_⟩;have a:=d.o
   have c:r7 w w2:=by
    first
     |exact(Below.refl w.heap.size w).drew.trans a
     |exact((Below.refl w.heap.size w).alloc (ag _) _).drew.trans (Below.m (B':=w.heap.size) a Oc)
   first
    |exact c
    |exact c.alloc c.size _
  intro K hK
  go_simp
  rw[k.o _ _ (by simp[World.cell?_alloc_mark])];simp only[Result.andThen];rw[Oper.upon_value]
  go_simp
  refine hK.out _ _ ?_ (λhHeld=>?_)
  ·exact trivial
  clear hK K
  try simp only[Act.put,fH,fI,fJ]
  refine rn 2 Rz rfl r5 (λK hK=>?_)
  go_simp
  refine(g.o _ M0 _).m ?_;rintro e w2 ⟨rfl,a⟩;have d:=F a;clear a;dsimp only;refine hK.out _ _ ?_ (λhHeld=>?_)
  ·exact trivial
  clear hK K
  try simp only[Act.put,fH,fI,fJ]
  refine tq 9 rfl ?_ (λw hSw=>?_) ?_;rotate_left
  ·(try dsimp only at hSw);go_simp;first|done|with_reducible rfl
  try simp only[Act.put,fH,fI,fJ]
  refine tq 10 rfl ?_ (λw hSw=>?_) ?_;rotate_left
  ·(try dsimp only at hSw);go_simp;first|done|with_reducible rfl
  try simp only[Act.put,fH,fI,fJ]
  refine wpAnyH_done Rz ?_ _;go_wp2_with fail;go_ret;refine⟨rfl,?_⟩;have a:=d.o
  have c:r7 w w2:=by
   first
    |exact(Below.refl w.heap.size w).drew.trans a
    |exact((Below.refl w.heap.size w).alloc (ag _) _).drew.trans (Below.m (B':=w.heap.size) a Oc)
  first
   |exact c
   |exact c.alloc c.size _
end Go.Proofs.YtajblocgpkpmeaaGreatDoor
set_option maxHeartbeats 40000000
namespace Go.Proofs.YtajblocgpkpmeaaGreatDoor
open Tryz
open Go.RowKit
set_option maxRecDepth 10000
def kE:O:=[120,110,45,45]
def xJ(b:O):Option O :=
 if Lib.hasPrefix b kE=true then
  (if b69 b=true then(match Fl (b.drop 4)with|some l=>if qZ l=true then some b else none|none=>none)else none)
 else if b69 b=true then some b
 else if qZ (signs b)=true then(if(encR (signs b)).2=true then some (kE++(encR (signs b)).1)else none)else none
def rQ(w:H)(o:Option O):Ending->H->Prop:=λe w'=>∃ x,e=.returned (.tuple #[S x,.bool o.isSome])/\(∀y,o=some y->x=y)/\r7 w w'
theorem rQ.none{w a:H}{o:Option O}(x:O)(h:o=none)(U:r7 w a):rQ w o (.returned (.tuple #[S x,.bool false])) a:=by
 subst h;exact⟨_,rfl,λ_ h=>(by cases h),U⟩
theorem rQ.some{w a:H}{o:Option O}{x:O}{s:ByteArray}(h:o=some x)(c:s=E x)(U:r7 w a):rQ w o (.returned (.tuple #[.string s,.bool true])) a:=by
 subst h;subst c;exact⟨_,rfl,λ_ h=>bj h,U⟩
theorem b0t{b:O}(h:Lib.hasPrefix b kE=true)(I:b69 b=false):xJ b=none:=by unfold xJ;rw[if_pos h,if_neg (by simp[I])]
theorem b0u{b:O}(h:Lib.hasPrefix b kE=true)(I:b69 b=true)(a:Fl (b.drop 4)=none):xJ b=none:=by unfold xJ;rw[if_pos h,if_pos I,a]
theorem b0v{b:O}{l:List Int}(h:Lib.hasPrefix b kE=true)(I:b69 b=true)(a:Fl (b.drop 4)=some l):xJ b=if qZ l=true then some b else none:=by unfold xJ;rw[if_pos h,if_pos I,a]
theorem b0w{b:O}(h:Lib.hasPrefix b kE=false)(I:b69 b=true):xJ b=some b:=by unfold xJ;rw[if_neg (by simp[h]),if_pos I]
theorem b0x{b:O}(h:Lib.hasPrefix b kE=false)(I:b69 b=false)(a:qZ (signs b)=false):xJ b=none:=by unfold xJ;rw[if_neg (by simp[h]),if_neg (by simp[I]),if_neg (by simp[a])]
theorem b0y{b:O}(h:Lib.hasPrefix b kE=false)(I:b69 b=false)(a:qZ (signs b)=true):xJ b=if(encR (signs b)).2=true then some (kE++(encR (signs b)).1)else none:=by unfold xJ;rw[if_neg (by simp[h]),if_neg (by simp[I]),if_pos a]
theorem Ci(l:List Int):(encR l).1.length<=3000:=by
 unfold encR
 split
 ·simp
 next h =>
 have Y:l.all sg=true:=by
  by_cases I:l.all sg=true
  ·exact I
  exact absurd (.inr I) h
 exact OV (dl.mp Y) M0
theorem St(b:O)(w:H)(U:b.length<=307200000)(a:uL w):Calls prog 263 #[.string (E b)] w λe c=>ga w 3 (d8 (signs b)) e c:=by
 have h:=GU (E b) w (by rw[aF];exact U) a;rw[cW,GQ]at h;exact h
theorem Eg(b:O)(w:H)(U:b.length<=102400000)(hT:uL w):Calls prog 266 #[.string (E b)] w λe w'=>rQ w (xJ b) e w':=by
 have hlow:=λW=>Ll b W (by unfold maxLen;omega);have hcut:=λW=>Any.strings_CutPrefix laysCut (E b) (E kE) W;have x:=λW (h:uL W)=>St b W M0 h;have hdec:=λW=>Cc (b.drop 4) W (by rw[aj];omega);have e1:(E b).data.toList=b:=cW b;have e2:(E kE).data.toList=kE:=cW kE;rw[e1,e2]at hcut;have B:∀ W,bP prog 184 #[.string (E b),.string ⟨#[120,110,45,45]⟩] W (.tuple #[.string (E (Lib.trimPrefix b kE)),.bool (Lib.hasPrefix b kE)]):=hcut;clear hcut e1 e2;have Q:Lib.hasPrefix b kE=true->Lib.trimPrefix b kE=b.drop 4:=λh=>by unfold Lib.trimPrefix;rw[if_pos h];rfl
 obtain⟨O',t⟩:=V (xJ b);rw[<-t];obtain⟨R,hR⟩:=V (Lib.trimPrefix b kE);rw[<-hR]at B Q;clear hR;have HT:=F hT;clear hT;cases hp:Lib.hasPrefix b kE
 ·rw[hp]at B
  have u:=F B;clear B Q hdec;cases n:b69 b
  ·rw[n]at hlow
   have p:=F hlow;clear hlow;have J:=F x;clear x;cases c:qZ (signs b)
   ·have j:=t.trans (b0x hp n c)
    have q:=F j;clear j t hp n;obtain⟨L,M⟩:=V (signs b);rw[<-M]at c J;have K:=F c;clear c M;obtain⟨s,k⟩:=V (E b);rw[<-k]at p u J ⊢;clear k;go_enter func266,ntmps266
    go_wp2_with (first|(go_at_call 277;refine(p.o _).m ?_;rintro e w2 ⟨rfl,rfl⟩)|(go_at_call 184;refine(u.o _).m ?_;rintro e w2 ⟨rfl,v⟩;subst w2)|(go_at_call 263;refine(J.o _ HT.o).m ?_;rintro e w3 ⟨v3,rfl,f,d⟩;have g:=F d;clear d;have D:=F<|Sl.g9 f;clear f)|(go_at_call 279;refine(sy L _ _ (D.o.more (ag _))).m ?_;rw[K.o];rintro e w4 ⟨rfl,i⟩;have y:=F<|g.o.trans (i.m g.o.size);clear i))
    go_ret2
    exact rQ.none [] q.o y.o
   have j:=t.trans (b0y hp n c);have henc:=Fz (signs b);have N:=Ci (signs b);obtain⟨L,M⟩:=V (signs b);rw[<-M]at c J j henc N;clear M t hp n;obtain⟨T,hA⟩:=V ((encR L).1);obtain⟨a,ha⟩:=V ((encR L).2);rw[<-hA,<-ha]at j henc;rw[<-hA]at N;clear hA ha;have K:=F c;clear c;have zC:=F henc;clear henc;obtain⟨s,k⟩:=V (E b);rw[<-k]at p u J ⊢;clear k;have t4:(⟨#[120,110,45,45]⟩:ByteArray)++E T=E (kE++T):=mm kE T;have Hq:=F t4;clear t4;cases a
   all_goals
    have q:=F j;clear j;go_enter func266,ntmps266
    go_wp2_with (first|(go_at_call 277;refine(p.o _).m ?_;rintro e w2 ⟨rfl,rfl⟩)|(go_at_call 184;refine(u.o _).m ?_;rintro e w2 ⟨rfl,v⟩;subst w2)|(go_at_call 263;refine(J.o _ HT.o).m ?_;rintro e w3 ⟨v3,rfl,f,d⟩;have g:=F d;clear d;have D:=F<|Sl.g9 f;clear f)|(go_at_call 279;refine(sy L _ _ (D.o.more (ag _))).m ?_;rw[K.o];rintro e w4 ⟨rfl,i⟩;have HS4:=F<|(D.o.below i).more i.size;have y:=F<|g.o.trans (i.m g.o.size);clear i)|(go_at_call 280;refine(zC.o _ _ HS4.o).m ?_;rintro e w5 ⟨rfl,P⟩;have gD:=F<|y.o.trans (P.m y.o.size);clear P))
    go_ret2
    first
     |exact rQ.some q.o Hq.o gD.o
     |(rw[Hq.o];exact rQ.none _ q.o gD.o)
  rw[n]at hlow;have j:=t.trans (b0w hp n);have q:=F j;clear j t hp n x;have p:=F hlow;clear hlow;obtain⟨s,k⟩:=V (E b);rw[<-k]at p u ⊢;have C:=F k;clear k;go_enter func266,ntmps266
  go_wp2_with (first|(go_at_call 277;refine(p.o _).m ?_;rintro e w2 ⟨rfl,rfl⟩)|(go_at_call 184;refine(u.o _).m ?_;rintro e w2 ⟨rfl,v⟩;subst w2))
  go_ret2
  exact rQ.some q.o C.o (Below.refl _ _)
 rw[hp]at B;have htr:=Q hp;subst htr;have u:=F B;clear B Q x;cases n:b69 b
 ·rw[n]at hlow
  have j:=t.trans (b0t hp n);have q:=F j;clear j t hp n hdec;have p:=F hlow;clear hlow;obtain⟨s,k⟩:=V (E b);rw[<-k]at p u ⊢;clear k;go_enter func266,ntmps266
  go_wp2_with (first|(go_at_call 277;refine(p.o _).m ?_;rintro e w2 ⟨rfl,rfl⟩)|(go_at_call 184;refine(u.o _).m ?_;rintro e w2 ⟨rfl,v⟩;subst w2))
  go_ret2
  exact rQ.none [] q.o (Below.refl _ _)
 rw[n]at hlow;have p:=F hlow;clear hlow;cases hd:Fl (b.drop 4)with
 |none =>
  have j:=t.trans (b0u hp n hd);rw[hd]at hdec;have q:=F j;clear j t hp n hd;have Tv:=F hdec;clear hdec;generalize b.drop 4=r at *;obtain⟨s,k⟩:=V (E b);rw[<-k]at p u ⊢;have C:=F k;clear k;go_enter func266,ntmps266
  go_wp2_with (first|(go_at_call 277;refine(p.o _).m ?_;rintro e w2 ⟨rfl,rfl⟩)|(go_at_call 184;refine(u.o _).m ?_;rintro e w2 ⟨rfl,v⟩;subst w2)|(go_at_call 278;refine(Tv.o _).m ?_;rintro e w3 ⟨v3,rfl,f,z,d⟩;have g:=F d;clear d z f))
  go_ret2
  rw[C.o];exact rQ.none b q.o g.o
 |some l =>
  have j:=t.trans (b0v hp n hd);rw[hd]at hdec;clear t hp n hd;have Tv:=F hdec;clear hdec;generalize b.drop 4=r at *;obtain⟨s,k⟩:=V (E b);rw[<-k]at p u ⊢;have C:=F k;clear k;have c:=sy l;obtain⟨m,hm⟩:=V (qZ l);rw[<-hm]at c j;clear hm;have K:=F c;clear c;cases m
  all_goals
   have q:=F j;clear j;go_enter func266,ntmps266
   go_wp2_with (first|(go_at_call 277;refine(p.o _).m ?_;rintro e w2 ⟨rfl,rfl⟩)|(go_at_call 184;refine(u.o _).m ?_;rintro e w2 ⟨rfl,v⟩;subst w2)|(go_at_call 278;refine(Tv.o _).m ?_;rintro e w3 ⟨v3,rfl,f,z,d⟩;have g:=F d;clear d z;simp only[dj]at f;have D:=F<|Sl.g9 f;clear f)|(go_at_call 279;refine(K.o _ _ D.o).m ?_;rintro e w4 ⟨rfl,i⟩;have y:=F<|g.o.trans (i.m g.o.size);clear i))
   go_ret2
   first
    |exact rQ.some q.o C.o y.o
    |(rw[C.o];exact rQ.none b q.o y.o)

theorem b1h{c:Int}(d:Utf8.valid c=true)(h:¬ c<0x80):2<=(enc c).length/\b69 (enc c)=false:=by
 have hr:=(sQ c).mp d;by_cases I:c<0x800
 ·rw[IE M0 I]
  refine⟨Oc,?_⟩;unfold b69;simp only[a4I];rw[Xn M0,decide_eq_false M0];rfl
 by_cases a:c<0x10000
 ·rw[yn M0 a M0]
  refine⟨Oc,?_⟩;unfold b69;simp only[a4I];rw[Xn M0,decide_eq_false M0];rfl
 rw[D6 M0 M0];refine⟨Oc,?_⟩;unfold b69;simp only[a4I];rw[Xn M0,decide_eq_false M0];rfl
theorem b2z(a b:O):b69 (a++b)=(b69 a&&b69 b):=by unfold b69;rw[Xe]
