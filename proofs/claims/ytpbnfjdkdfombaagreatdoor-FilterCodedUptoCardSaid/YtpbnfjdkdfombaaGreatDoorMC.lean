import Derived.Test.YtpbnfjdkdfombaaGreatDoorGTrP
set_option maxHeartbeats 40000000
namespace Go.Proofs.YtpbnfjdkdfombaaGreatDoor
open Go.Proofs.Tryz
open Go.RowKit
set_option maxRecDepth 10000
theorem a1M{P:Program}{src dst e:TypeId}(i:P.underlying src=some (.slice e))(he:P.underlying e=some (.int .u8))(d:P.underlying dst=some .string)
  (w:H) (xs:List Int) (U:∀ x∈xs,0<=x/\x<256) (n c:Nat) (g:n=xs.length) (t:TypeId) (fr:Nat×Nat) :
  (convert src dst (.slice (some ⟨w.heap.size,0,none⟩) n c)).run P (w.alloc (.cells (xs.map (Value.int .u8)).toArray t fr)) =
   .ok (.string (E (xs.map λx=>UInt8.ofNat x.toNat))) (w.alloc (.cells (xs.map (Value.int .u8)).toArray t fr)):=by
 have h:=run_convert_bytes_back (P:=P) (w.alloc (.cells (xs.map (Value.int .u8)).toArray t fr)) src dst e ⟨w.heap.size,0,none⟩ c (xs.map λx=>UInt8.ofNat x.toNat) i he d (λj f=>by
  rw[addr_add,World.cell?_alloc_mark];have a:j<xs.length:=by simpa using f
  have:=U xs[j] Oc;simp[List.getElem?_eq_getElem a];omega)
 simp only[ay]at h;rw[g];exact h

theorem a2M{P:Program}{src dst e:TypeId}(f:P.underlying src=some (.slice e))(he:P.underlying e=some (.int .u8))(d:P.underlying dst=some .string)
  (a:Int) (c:0<=a/\a<256) (w:H):(convert src dst (.slice (some ⟨w.heap.size,0,none⟩) 1 1)).run P (w.alloc (.cells #[.int .u8 a] e))=.ok (.string (E [UInt8.ofNat a.toNat])) (w.alloc (.cells #[.int .u8 a] e)) :=
 a1M f he d w [a] (by simpa using c) 1 1 rfl e (0,0)
theorem a1s:∀ (s:O),(∀x∈s,x≠38)->pl s=s
 | [],_=>rfl
 |x::r,h=>by rw[Cl r (h x Oc),a1s r λy hy=>h y (by simp[hy])]
theorem a2J(r:O):Lib.hasPrefix (38::35::r) [38,35]=true:=by
 unfold Lib.hasPrefix;simp[List.isPrefixOf]
theorem a1u(base:Int)(U:base=10)(t:O):∀ (l:O) (n:Int),(mB base n l).2=l.length->mB base n (l++59::t)=((mB base n l).1,l.length)
 | [],n,_=>by
  subst U;show mB 10 n (59::t)=_;unfold mB;rw[if_pos P8];rfl
 |x::r,n,h=>by
  show mB base n (x::(r++59::t))=_;unfold mB at h ⊢
  split
  ·next e =>
   rw[if_pos e]at h;simp at h
  next e =>
  rw[if_neg e]at h;have a:=a1u base U t r (uU (n*base+fg (G x) base)) (by simpa using h);rw[a];rfl
def a1q(n:Nat):O:=[38,35]++Lib.decDigits n++[59]
theorem a2G(n:Nat)(t:O)(h:mB 10 0 (Lib.decDigits n)=((n:Int),(Lib.decDigits n).length))(X:(Lib.decDigits n)[0]? ≠ some 120/\(Lib.decDigits n)[0]? ≠ some 88)(Y:1<=(Lib.decDigits n).length):pl (a1q n++t)=iH n++pl t:=by
 unfold a1q;generalize hD:Lib.decDigits n=D at h X Y
 have i:gX ([38,35]++D++[59]++t)=(iH n,D.length+3):=by
  show gX (38::35::(D++[59]++t))=_;unfold gX;rw[a2J,if_pos rfl]
  have a:FT (38::35::(D++[59]++t))=false:=by
   unfold FT
   have e:(38::35::(D++[59]++t))[2]? = D[0]?:=by
    show(D++[59]++t)[0]? = _;rw[bB,cX M0]
   rw[e];simp[X]
  have d:(38::35::(D++[59]++t)).drop 2=D++59::t:=Oc;have f:mB 10 0 (D++59::t)=((n:Int),D.length):=by rw[a1u 10 rfl t D 0 (by rw[h]),h]
  unfold vY Er;rw[a,if_neg Oc,d,f]
  have c:(38::35::(D++[59]++t))[2+D.length]? = some 59:=by
   rw[show 2+D.length=D.length+1+1 by omega,dx,dx,bB,dB (ag _),jy];rfl
  show(if D.length=0 then _ else _)=_;rw[if_neg M0];show(iH (n:Int),2+D.length+(if(38::35::(D++[59]++t))[2+D.length]? = some 59 then 1 else 0))=_;rw[c,if_pos rfl]
  congr 1
  omega
 rw[show([38,35]++D++[59]++t:O)=38::([35]++D++[59]++t)from rfl,IG];rw[show(38::([35]++D++[59]++t):O)=[38,35]++D++[59]++t from rfl,i];dsimp only
 congr 1
 have e:[38,35]++D++[59]++t=([38,35]++D++[59])++t:=rfl;have g:D.length+3=([38,35]++D++[59]:O).length:=Oc;rw[g,a1B]
theorem a1p:∀ k:Fin 128,mB 10 0 (Lib.decDigits k.val)=((k.val:Int),(Lib.decDigits k.val).length)/\((Lib.decDigits k.val)[0]? ≠ some 120/\(Lib.decDigits k.val)[0]? ≠ some 88)/\1<=(Lib.decDigits k.val).length:=by decide +kernel
theorem a2d(n:Nat)(h:n<128)(t:O):pl (a1q n++t)=iH n++pl t :=
 a2G n t (a1p ⟨n,h⟩).1 (a1p ⟨n,h⟩).2.1 (a1p ⟨n,h⟩).2.2
theorem a1K{n:Nat}(h:1<=n/\n<128):iH n=[UInt8.ofNat n]:=by
 unfold iH tL;rw[if_neg M0,if_neg M0,ID M0 M0];rfl
def a1l(l:O):O:=l.flatMap λx=>a1q x.toNat
theorem a1v:∀ (l t:O),(∀x∈l,1<=x.toNat/\x.toNat<128)->pl (a1l l++t)=l++pl t
 | [],_,_=>rfl
 |x::r,t,h=>by
  have X:=h x Oc;show pl ((a1q x.toNat++a1l r)++t)=_;rw[bB,a2d _ X.2,a1K X,a1v r t λy hy=>h y (by simp[hy]),dN];rfl
theorem a1O(l:O)(h:∀ x∈l,1<=x.toNat/\x.toNat<128):pl (a1l l)=l:=by
 have:=a1v l [] h;rw[aV,Uz,aV]at this;exact this
theorem a2S{P:Program}{src dst e:TypeId}(f:P.underlying src=some (.slice e))(he:P.underlying e=some (.int .u8))(c:P.underlying dst=some .string)
  (a:Int) (ha:0<=a/\a<256) (b:Nat) (W:H) (h:W.cell? ⟨b,0,none⟩=some (.int .u8 a)):(convert src dst (.slice (some ⟨b,0,none⟩) 1 1)).run P W=.ok (.string (E [UInt8.ofNat a.toNat])) W :=
 run_convert_bytes_back (P:=P) W src dst e ⟨b,0,none⟩ 1 [UInt8.ofNat a.toNat] f he c (λj d=>by
  have h0:j=0:=by simpa using d
  subst h0;rw[addr_add];rw[h];simp;omega)

theorem a1N{u:Nat}(h:u<10):Lib.decDigits u=[UInt8.ofNat (48+u)]:=by rw[Lib.decDigits,dif_pos h]

theorem a2E{u:Nat}(h:¬ u<10):Lib.decDigits u=Lib.decDigits (u/10)++[UInt8.ofNat (48+u%10)]:=by rw[Lib.decDigits,dif_neg h]
section
open Go.RowKit Go.Lib
theorem a1T{x:UInt8}(r:O)(h:G x<0x80):signs (x::r)=G x::signs r:=by
 have a:d9 (x::r)=1:=by unfold d9;rw[QZ r h];rfl
 rw[p9,a,QZ r h];rfl
end

section
open Go.RowKit Go.Lib
theorem a2F{x:UInt8}(h:G x<0x80):enc (G x)=[x]:=by
 rw[ID (jL x).1 h];have:(G x).toNat=x.toNat:=by unfold G;simp
 rw[this,dN]
end

section
open Go.RowKit Go.Lib
theorem a2j{x:UInt8}(r:O)(h:G x<0x80):a5h (x::r)=x::a5h r:=by
 unfold a5h;rw[a1T r h,mH,a2F h];rfl
end

section
open Go.RowKit Go.Lib
theorem a1t:∀ (a:O),(∀x∈a,G x<0x80)->∀ t,a5h (a++t)=a++a5h t
 | [],_,_=>rfl
 |x::a,h,t=>by
  rw[dE,a2j _ (h x Oc),a1t a (λy hy=>h y (by simp[hy])) t];rfl
end

section
open Go.RowKit Go.Lib
theorem a1r(a:O)(h:∀ x∈a,G x<0x80):a5h a=a:=by
 have:=a1t a h [];rw[aV]at this;rw[this,show a5h []=[]from rfl,aV]
end
theorem a2c(u:Nat):∀ y∈Lib.decDigits u,48<=G y/\G y<=57:=by
 induction u using Nat.strongRecOn with
 |ind u a =>
  have key:∀ k:Fin 10,48<=G (UInt8.ofNat (48+k.val))/\G (UInt8.ofNat (48+k.val))<=57:=by decide +kernel
  intro y hy;by_cases Y:u<10
  ·rw[Lib.decDigits_one Y]at hy
   rw[dS.mp hy];exact key ⟨u,Y⟩
  have e:Lib.decDigits u=Lib.decDigits (u/10)++[UInt8.ofNat (48+u%10)]:=by rw[Lib.decDigits,dif_neg Y]
  rw[e]at hy;rcases bO.mp hy with hy|hy
  ·exact a (u/10) M0 y hy
  rw[dS.mp hy];exact key ⟨u%10,M0⟩
theorem a1x(u:Nat)(w:H)(a:u<10):bF prog 21 #[.int .i64 u] w (S (Lib.decDigits u)):=by
 have hi:(u:Int)<10:=M0;have hi0:(0:Int)<=u:=M0;have c:=λW=>a2M (P:=prog) underlying25 underlying5 underlying9 ((48:Int)+u) M0 W;have d:=a1N a;have U:UInt8.ofNat ((48:Int)+u).toNat=UInt8.ofNat (48+u):=by congr 1
 rw[U,<-d]at c;clear U d;go_enter func21,ntmps21;go_wp2_with fail;go_ret;exact⟨rfl,(Below.refl _ _).alloc (ag _) _⟩

theorem a1S:∀ (u:Nat) (w:H),u<=9223372036854775807->bF prog 21 #[.int .i64 u] w (S (Lib.decDigits u)):=by
 intro u
 induction u using Nat.strongRecOn with
 |ind u s =>
  intro w hu;by_cases i:u<10
  ·exact a1x u w i
  have hi:¬ (u:Int)<10:=M0;have hi0:(0:Int)<=u:=M0;have j:=λW=>a2M (P:=prog) underlying25 underlying5 underlying9 ((48:Int)+(u:Int)%10) M0 W;have hi2:(u:Int)<=9223372036854775807:=M0;have w1:IntKind.i64.wrap ((u:Int)/10)=(u:Int)/10:=IntWalk.i64_in _ M0;have w2:(u:Int).tmod 10=(u:Int)%10:=ei M0;have w3:IntKind.i64.wrap (48+(u:Int)%10)=48+(u:Int)%10:=IntWalk.i64_in _ M0;have w4:IntKind.u8.wrap (48+(u:Int)%10)=48+(u:Int)%10:=IntWalk.u8_in _ M0;have r:=a2E i;have U:UInt8.ofNat ((48:Int)+(u:Int)%10).toNat=UInt8.ofNat (48+u%10):=by congr 1
  have f:=λb W=>a2S (P:=prog) underlying25 underlying5 underlying9 ((48:Int)+(u:Int)%10) M0 b W;rw[U]at j f;have hrec:∀ (q:Int),q=((u/10:Nat):Int)->∀ W,bF prog 21 #[.int .i64 q] W (S (Lib.decDigits (u/10))):=λq t W=>t▸s (u/10) M0 W M0;have hlen:=my 18 (u/10) M0;have t4:=mm (Lib.decDigits (u/10)) [UInt8.ofNat (48+u%10)];rw[<-r]at t4;obtain⟨c4B,k⟩:=V (UInt8.ofNat (48+u%10));rw[<-k]at t4 j f;clear k;obtain⟨D,l⟩:=V (Lib.decDigits u);obtain⟨T,n⟩:=V (Lib.decDigits (u/10));rw[<-l]at t4 ⊢;rw[<-n]at t4 hrec hlen;have hlt:¬ 9223372036854775807<T.length+1:=M0;clear U r s l n;have g:=F hrec;clear hrec;have h:=F f;clear f;go_enter func21,ntmps21;go_wp2_with fail;refine wp_region_held_drew (S:=λ_=>True) Rz (by exact trivial) (λhHeld=>?_);refine tq 0 rfl ?_ (λw hSw=>?_) ?_;rotate_left
  ·(try dsimp only at hSw);go_simp;first|done|with_reducible rfl
  try simp only[Act.put,fH,fI,fJ]
  refine tq 1 rfl ?_ (λw hSw=>?_) ?_;rotate_left
  ·(try dsimp only at hSw);go_simp;first|done|with_reducible rfl
  try simp only[Act.put,fH,fI,fJ]
  refine tq 3 rfl ?_ (λw hSw=>?_) ?_;rotate_left
  ·(try dsimp only at hSw);go_simp;first|done|with_reducible rfl
  try simp only[Act.put,fH,fI,fJ]
  refine tq 4 rfl ?_ (λw hSw=>?_) ?_;rotate_left
  ·(try dsimp only at hSw);go_simp;first|done|with_reducible rfl
  try simp only[Act.put,fH,fI,fJ]
  refine tq 5 rfl ?_ (λw hSw=>?_) ?_;rotate_left
  ·(try dsimp only at hSw);go_simp;first|done|with_reducible rfl
  try simp only[Act.put,fH,fI,fJ]
  refine tq 6 rfl ?_ (λw hSw=>?_) ?_;rotate_left
  ·(try dsimp only at hSw);go_simp;first|done|with_reducible rfl
  try simp only[Act.put,fH,fI,fJ]
  refine rn2 2 7 Rz rfl r5 ?_ rfl r5 ?_
  ·intro K hK
   go_simp
   refine(g.o _ M0 _).m ?_;rintro e w2 ⟨rfl,a⟩;have d:=F a;clear a;dsimp only;refine hK.out _ _ ?_ (λhHeld=>?_)
   ·exact trivial
   clear hK K;refine rn 7 Rz rfl r5 (λK hK=>?_)
   go_simp
   refine hK.out _ _ ?_ (λhHeld=>?_)
   ·exact trivial
   clear hK K;refine rn 8 Rz rfl r5 (λK hK=>?_)
   go_simp
   refine hK.out _ _ ?_ (λhHeld=>?_)
   ·exact trivial
   clear hK K;refine tq 9 rfl ?_ (λw hSw=>?_) ?_;rotate_left
   ·(try dsimp only at hSw);go_simp;first|done|with_reducible rfl
   try simp only[Act.put,fH,fI,fJ]
   refine tq 10 rfl ?_ (λw hSw=>?_) ?_;rotate_left
   ·(try dsimp only at hSw);go_simp;first|done|with_reducible rfl
   try simp only[Act.put,fH,fI,fJ]
   refine wpAnyH_done Rz ?_ _;go_wp2_with fail;go_ret;refine⟨rfl,?_⟩;have a:=d.o
   have c:r7 w w2:=by
    first
     |exact(Below.refl w.heap.size w).drew.trans a
     |exact((Below.refl w.heap.size w).alloc (ag _) _).drew.trans (Below.m (B':=w.heap.size) a Oc)
   first
    |exact c
    |exact c.alloc c.size _
  intro K hK
  go_simp
  refine hK.out _ _ ?_ (λhHeld=>?_)
  ·exact trivial
  clear hK K;refine rn2 2 8 Rz rfl r5 ?_ rfl r5 ?_
  ·intro K hK
   go_simp
   refine(g.o _ M0 _).m ?_;rintro e w2 ⟨rfl,a⟩;have d:=F a;clear a;dsimp only;refine hK.out _ _ ?_ (λhHeld=>?_)
   ·exact trivial
   clear hK K;refine rn 8 Rz rfl r5 (λK hK=>?_)
   go_simp
   rw[h.o _ _ ((d.o.cell (p:=⟨w.heap.size,0,none⟩) Oc).trans (by simp[World.cell?_alloc_mark]))];simp only[Result.andThen];rw[Oper.upon_value]
   go_simp
   refine hK.out _ _ ?_ (λhHeld=>?_)
   ·exact trivial
   clear hK K;refine tq 9 rfl ?_ (λw hSw=>?_) ?_;rotate_left
   ·(try dsimp only at hSw);go_simp;first|done|with_reducible rfl
   try simp only[Act.put,fH,fI,fJ]
   refine tq 10 rfl ?_ (λw hSw=>?_) ?_;rotate_left
   ·(try dsimp only at hSw);go_simp;first|done|with_reducible rfl
   try simp only[Act.put,fH,fI,fJ]
   refine wpAnyH_done Rz ?_ _;go_wp2_with fail;go_ret;refine⟨rfl,?_⟩;have a:=d.o
   have c:r7 w w2:=by
    first
     |exact(Below.refl w.heap.size w).drew.trans a
     |exact((Below.refl w.heap.size w).alloc (ag _) _).drew.trans (Below.m (B':=w.heap.size) a Oc)
   first
    |exact c
    |exact c.alloc c.size _
  intro K hK
  go_simp
  rw[h.o _ _ (by simp[World.cell?_alloc_mark])];simp only[Result.andThen];rw[Oper.upon_value]
  go_simp
  refine hK.out _ _ ?_ (λhHeld=>?_)
  ·exact trivial
  clear hK K;refine rn 2 Rz rfl r5 (λK hK=>?_)
  go_simp
  refine(g.o _ M0 _).m ?_;rintro e w2 ⟨rfl,a⟩;have d:=F a;clear a;dsimp only;refine hK.out _ _ ?_ (λhHeld=>?_)
  ·exact trivial
  clear hK K;refine tq 9 rfl ?_ (λw hSw=>?_) ?_;rotate_left
  ·(try dsimp only at hSw);go_simp;first|done|with_reducible rfl
  try simp only[Act.put,fH,fI,fJ]
  refine tq 10 rfl ?_ (λw hSw=>?_) ?_;rotate_left
  ·(try dsimp only at hSw);go_simp;first|done|with_reducible rfl
  try simp only[Act.put,fH,fI,fJ]
  refine wpAnyH_done Rz ?_ _;go_wp2_with fail;go_ret;refine⟨rfl,?_⟩;have a:=d.o
  have c:r7 w w2:=by
   first
    |exact(Below.refl w.heap.size w).drew.trans a
    |exact((Below.refl w.heap.size w).alloc (ag _) _).drew.trans (Below.m (B':=w.heap.size) a Oc)
  first
   |exact c
   |exact c.alloc c.size _
theorem a1U{a:O}(h0:∀ x∈a,x≠0/\x≠38)(h:a5h a=a):jw a=a:=by
 unfold jw;rw[uH λx X=>(h0 x X).1,Uq,h,a1s a λx X=>(h0 x X).2]

theorem a2e(n:Nat):∀ y∈a1q n,G y<0x80/\y≠0:=by
 intro y hy;unfold a1q at hy;rcases bO.mp hy with hy|hy
 ·rcases bO.mp hy with hy|hy
  ·simp only[aK,cV,or_false]at hy
   rcases hy with rfl|rfl <;>decide
  have:=a2c n y hy;exact⟨M0,by rintro rfl;exact absurd this.1 P8⟩
 obtain rfl:y=59:=by simpa using hy
 decide

theorem a2u{l:O}(h:∀ x∈l,1<=x.toNat/\x.toNat<128):jw (a1l l)=l:=by
 have a:∀ y∈a1l l,G y<0x80/\y≠0:=by
  intro y hy;obtain⟨x,_,hy⟩:=S8.mp hy;exact a2e _ y hy
 unfold jw;rw[uH λy hy=>(a y hy).2,Uq,a1r _ λy hy=>(a y hy).1,a1O l h]

theorem a2K{l:O}(h:∀ x∈l,1<=x.toNat/\x.toNat<128/\x≠38):jw l=l:=by
 refine a1U (λx X=>⟨?_,(h x X).2.2⟩) (a1r l λx X=>?_)
 ·rintro rfl
  exact absurd (h 0 X).1 P8
 have:=(h x X).2.1;unfold G;omega
section
variable {ops:Array Oper} {rest:List Oper} {o:Oper} {a:Act} {w:H} {Q:Exit->Act->H->Prop}
theorem a1Y{K:Act->H->Prop}(src dst:TypeId)(x:Operand)(e:o.op=.convert src dst x)(v:Z)(X:a.eval x=v){c:Z}{d:H}(f:(convert src dst v).run prog w=.ok c d)(h:K (a.put o.dst c) d):Oper.wp prog o a w K Q:=by
 unfold Oper.wp execOp;simp only[e,X,Sem.run_bind,Sem.run_pure,Result.andThen_ok,f];exact h
end
theorem a1W{o:Oper}{a:Act}{w:H}{K:Act->H->Prop}{Q:Exit->Act->H->Prop}(x:Operand)(f:o.op=.convert 9 25 x)(l:O)(X:a.eval x=S l)(e:l.length<=maxLen)
  (h:∀ d c,Sl c.heap.size c d (Lib.byteCells l)->r7 w c->K (a.put o.dst d) c):Oper.wp prog o a w K Q:=by
 obtain⟨d,c,g,i,_,U⟩:=Wa l w e;exact a1Y _ _ x f (S l) X g (h d c i U)
theorem a1w{p:qh}{b:Url}{d name c r2:O}(e:jw c=jw r2)(Y:(c.length:Int)<=p.most)(I:(r2.length:Int)<=p.most):dQ p b d name c=dQ p b d name r2:=by
 unfold dQ;rw[e,if_neg (show ¬p.most<(c.length:Int) by omega),if_neg (show ¬p.most<(r2.length:Int) by omega)]
theorem a1P(kind:Int)(w:H)(h0:0<=kind):bP prog 11 #[.int .i64 kind] w (.tuple #[S (a1k kind).1,S (a1k kind).2]):=by
 have g:Int.tmod kind 4=kind%4:=ei h0;have f:0<=kind%4/\kind%4<4:=M0;obtain⟨R,c⟩:=V (a1k kind);rw[<-c];unfold a1k at c;obtain⟨r,d⟩:=V (kind%4);rw[<-d]at c g f;have e:=F c;clear c d h0;have hw:IntKind.i64.wrap r=r:=IntWalk.i64_in _ M0;rcases(show r=1\/r=2\/r=3\/r=0 by omega)with rfl|rfl|rfl|rfl
 all_goals
  go_enter func11,ntmps11;go_wp2_with fail
  go_ret2
  exact⟨by rw[e.o];rfl,rfl⟩
theorem a2z(l:O){j:Nat}(c:j<l.length):a1l (l.take (j+1))=a1l (l.take j)++a1q l[j].toNat:=by
 rw[List.take_add_one,aG c];show a1l (l.take j++[l[j]])=_;unfold a1l;rw[dL];simp
theorem a1E:∀ l:O,(a1l l).length<=6*l.length
 | []=>ag _
 |x::r=>by
  have ih:=a1E r;have Y:(Lib.decDigits x.toNat).length<=3:=my 2 x.toNat (by have:=x.toNat_lt;omega);show(a1q x.toNat++a1l r).length<=_;unfold a1q;simp only[ae,ah,aO];omega
def a2f(p:qh)(m:Int):qh:=⟨p.schemes,p.hosts,p.types,m⟩
theorem filterCoded_walk(p:qh)(d f g:Z)(t:ByteArray)(kind:Int)(rv:Z)(l:O)(w:H)(hp:BB w d f g p)(_:t.size<=maxLen)(_:(Lit.int .i64 kind).wf=true)(hr:Sl w.heap.size w rv (Lib.byteCells l))(ub:t.size<=1048576)(hE:Env w)(hN:NE w) :
  bF prog 6 #[.agg (aY d f g p.most),.string t,.int .i64 kind,rv] w (.bool true):=by
 have YF:=F<|λW (U:r7 w W)=>DM W (hE.below U) (hN.below U);have M:=F<|λW (U:r7 w W)=>KV p d f g W (hp.below U);obtain⟨u,q,h8,hq,C⟩:=a1D t w ub hE;have H8:=F h8;have HQ:=F hq;have xt:=F C;obtain⟨L,hL⟩:=V (l.length)
 obtain⟨av,cv,rfl⟩:∃ a c,rv=.slice a L c:=by
  rcases AU hr with⟨rfl,a,c,rfl⟩|⟨b,o,c,_,_,rfl,_⟩
  ·exact⟨a,c,by rw[hL];rfl⟩
  exact⟨_,c,by rw[hL]⟩
 have HL:=F hL;have HP:=F hp;have HR:=F hr;have HE:=F hE;have HN:=F hN;obtain⟨W,hw,c1,G⟩:=a3E w 24 (aY d f g p.most);have C1:=F c1;have B2:=F G;have HW:=F hw;clear c1 G hw hL hp hr hE hN h8 hq C;go_enter func6,ntmps6
 go_upto_region 1 with fail
 rw[HW.o]
 go_upto_region 4 with(first
  |(go_at_call 8;refine(YF.o _ B2.o).m ?_;rintro e w3 ⟨rfl,U⟩;have B3:=F<|dw B2.o U;have D1:=F<|C1.o.keep U;clear U)
  |((with_reducible apply bS);refine fj r5 (.tmp 4) rfl w.heap.size d f g p.most rfl D1.o ?_)
  |(go_at_call 9;refine(M.o _ B3.o).m ?_;rintro e w4 ⟨⟨b1,rfl,hf1⟩,U⟩;have F1:=F hf1;have B4:=F<|dw B3.o U;have E1:=F<|D1.o.keep U;clear U hf1)
  |(go_at_call 10;refine(xt.o _ B4.o).m ?_;rintro e w5 ⟨A,rfl,Y,hs,D,U⟩;have B5:=F<|dw B4.o U;have G1:=F<|E1.o.keep U;have S5:=F hs;have O5:=F Y;have T5:=F D;clear U hs Y D)
  |((with_reducible apply bS);refine aM rfl 34 rfl _ _ (eD _) ?_;refine fL rfl (.tmp 11) (.tmp 23) rfl A u H8.o O5.o rfl rfl rfl ?_;intro w6 h3 U;have B6:=F<|dw B5.o U;have K:=F (show K27 w w6 p d f g (.slice av L cv) l w5.heap.size A u []from⟨B6.o,HE.o.below B6.o,HN.o.below B6.o,G1.o.keep U,HP.o.below B6.o,(HR.o.below B6.o).more B6.o.size,h3,(S5.o.below U).more U.size,λx X=>by cases X⟩);have T6:=F<|λW2 (t:Tn w.heap.size w6 W2)=>T5.o w.heap.size W2 E1.o.lt ((Tn.of_below U).trans t);have b5I:=F (show w5.heap.size≠w.heap.size by have:=G1.o.lt;omega);clear h3 U))
 obtain⟨g11,hg⟩:=V (w5.heap.size);rw[<-hg]at K b5I ⊢;clear hg C1 B2 HW YF M xt B3 D1 B4 E1 B5 G1 S5 O5 T5;cases b1 with
 |false =>
  go_wp2_with fail;go_ret;exact⟨rfl,K.o.b⟩
 |true =>
  cases q with
  |false =>
   go_wp2_with fail;go_ret;exact⟨rfl,K.o.b⟩
  |true =>
   by_cases h3:(200:Int)<L
   ·go_wp2_with fail
    go_ret;exact⟨rfl,K.o.b⟩
   by_cases h0:kind<0
   ·go_wp2_with fail
    go_ret;exact⟨rfl,K.o.b⟩
   obtain⟨el,hel⟩:=V (S (a1k kind).1);obtain⟨nm,hnm⟩:=V (S (a1k kind).2);have Z5:=F<|λW=>(show bP prog 11 #[.int .i64 kind] W (.tuple #[el,nm])from by rw[hel,hnm];exact a1P kind W M0);obtain⟨U,ht⟩:=HQ.o rfl;obtain⟨v,B⟩:=V (a1l l);have hcs:v.length<=1200:=by have:=a1E l;rw[B];have:=HL.o;omega
   have xl:=F (show v.length<=maxLen by unfold maxLen;omega);obtain⟨V',hV⟩:=V (dQ (a2f p 100000) u (a1k kind).1 (a1k kind).2 l);have z:=F1.o rfl
   have zD:=F<|λ(D:∀ x∈l,1<=x.toNat/\x.toNat<128/\x≠38) W (h:K27 w W (a2f p 100000) d f g (.slice av L cv) l g11 A u [])=>(show bF prog 12 #[.agg (aY d f g 100000),.agg (ai A u),el,nm,.slice av L cv] W (.agg (vF V'))from by
    rw[hel,hnm,hV];exact h.call ⟨z.s,z.h,z.t⟩ U ht kind h.r (vw _ (T:=300) ⟨M0,M0⟩ ht U (by have:=HL.o;omega)))
   have HFC:=F<|λ(D:∀ x∈l,1<=x.toNat/\x.toNat<128/\x≠38) W (h:K27 w W (a2f p 100000) d f g (.slice av L cv) l g11 A u []) (ev:Z) (hs:Sl W.heap.size W ev (Lib.byteCells v))=>(show bF prog 12 #[.agg (aY d f g 100000),.agg (ai A u),el,nm,ev] W (.agg (vF V'))from by
    have e1:jw v=l:=by rw[B];exact a2u (λx X=>⟨(D x X).1,(D x X).2.1⟩)
    have I:=h.call ⟨z.s,z.h,z.t⟩ U ht kind hs (UK _ (T:=300) ⟨M0,M0⟩ ht U (WD _ M0) (by rw[e1];have:=HL.o;omega));rw[a1w (r2:=l) (by rw[e1,a2K D]) (show(v.length:Int)<=100000 by omega) (show(l.length:Int)<=100000 by have:=HL.o;omega),<-hV]at I;rw[hel,hnm];exact I)
   have TB:=F (show L=l.length from HL.o);have HCD:=F B;have YJ:=F<|λ(k:Nat) W (hk:k<256)=>a1S k W M0;obtain⟨a3q,hvk⟩:=V (V'.kind);obtain⟨a2L,hvy⟩:=V (V'.why);obtain⟨a2x,hvo⟩:=V (E V'.o);rw[show vF V'=bH a3q a2L a2x by rw[hvk,hvy,hvo]]at zD HFC;clear hV hel hnm U ht hcs B z F1 HQ HL hvk hvy hvo;go_wp2_with fail
   go_loopw [13,14] (λd iv wr=>∃ (j:Nat) (c:ByteArray),j<=L/\iv=.int .i64 j/\d=.string c/\Hid (c=E (a1l (l.take j)))/\Hid (∀i (hi:i<l.length),i<j->1<=l[i].toNat/\l[i].toNat<128/\l[i]≠38)/\Hid (r7 w6 wr)) (λ_ i _=>L-(intOf i).toNat)
   case atStart=>exact⟨0,⟨#[]⟩,aL _,rfl,rfl,F rfl,F (λi _ h=>absurd h (cL _)),F (Below.refl _ _)⟩
   case round =>
    obtain⟨j,c,hj,rfl,rfl,HC,HNQ,n⟩:=hrel;by_cases hlt:j<L
    ·have hjl:j<l.length:=by have:=TB.o;omega
     rcases AU K.o.r with⟨hnil,_⟩|⟨b,o,cc,hbl,hcc,hve,C⟩
     ·rw[hnil]at hjl;exact absurd hjl (cL _)
     injection hve with hav x1 hcv
     clear x1
     have hcell:wr.cell? ⟨b,o+j,none⟩=some (.int .u8 (l[j].toNat:Int)):=by
      have Y:=C j l[j] (aG hjl);exact(n.o.cell (p:=⟨b,o+j,none⟩) hbl).trans Y
     obtain⟨k,hk⟩:=V (l[j].toNat);have a6G:k<256:=by rw[hk];exact l[j].toNat_lt
     rw[<-hk]at hcell;subst hav;clear C hcv hbl hcc;have N:=F<|dw K.o.b n.o;by_cases h0:k=0
     ·subst h0
      clear hk;go_wp2_with fail;go_ret;exact⟨rfl,N.o⟩
     have q0:((k:Int)==0)=false:=by simp;omega
     have n0:¬ (k:Int)=0:=M0;by_cases h127:127<k
     ·have a6Q:(127:Int)<(k:Int):=by omega
      clear hk h0;go_wp2_with fail;go_ret;exact⟨rfl,N.o⟩
     have a6Q:¬ (127:Int)<(k:Int):=M0;by_cases h38:k=38
     ·subst h38
      clear hk h0 h127 n0 q0 a6Q;go_wp2_with fail;go_ret;exact⟨rfl,N.o⟩
     have q38:((k:Int)==38)=false:=by simp;omega
     have n38:¬ (k:Int)=38:=M0
     have a2n:=F (show ∀i (hi:i<l.length),i<j+1->1<=l[i].toNat/\l[i].toNat<128/\l[i]≠38 from λi hi h=>by
      by_cases he:i=j
      ·subst he
       refine⟨M0,M0,λe=>h38 ?_⟩;rw[hk,e];rfl
      exact HNQ.o i hi M0)
     obtain⟨db,hdb⟩:=V (E (Lib.decDigits k));have hdl:db.size<=3:=by rw[hdb,aF];exact my 2 k M0
     have hcl:c.size<=1200:=by
      rw[HC.o,aF];have:=a1E (l.take j);rw[aD]at this;omega
     obtain⟨c1,P⟩:=V (c++(⟨#[38,35]⟩:ByteArray));obtain⟨c2,R⟩:=V (c1++db);obtain⟨c3,hc3⟩:=V (c2++(⟨#[59]⟩:ByteArray));have hs1:c1.size<=1202:=by rw[P,ByteArray.size_append];show _+2<=_;omega
     have hs2:c2.size<=1205:=by rw[R,ByteArray.size_append];omega
     have b5V:¬ 9223372036854775807<c.size+2:=M0;have b5W:¬ 9223372036854775807<c1.size+db.size:=M0;have b5X:¬ 9223372036854775807<c2.size+1:=M0
     have HC3:=F (show c3=E (a1l (l.take (j+1))) by
      rw[a2z l hjl,<-hk,hc3,R,P,HC.o,hdb];unfold a1q;rw[<-mm,<-mm,<-mm,ByteArray.append_assoc,ByteArray.append_assoc];rfl)
     have b2L:=P.symm;have b14:=R.symm;have b2M:=hc3.symm;have HT:=F<|λW=>(show bF prog 21 #[.int .i64 (k:Int)] W (.string db)from by rw[hdb];exact YJ.o k W a6G);have hwk:IntKind.i64.wrap (k:Int)=(k:Int):=IntWalk.i64_in _ M0;clear hk h0 h38 h127 hdb P R hc3 hs1 hs2 hdl hcl N
     go_wp2_with (first
      |(go_at_call 21;refine(HT.o _).m ?_;rintro e w4 ⟨rfl,U⟩;have B4:=F<|n.o.trans (U.m n.o.size);clear U))
     go_roundw
     case rel=>exact⟨j+1,c3,M0,by go_num,rfl,HC3,a2n,B4⟩
     case measure=>simp[intOf];omega
    obtain rfl:j=L:=M0
    have D:∀ x∈l,1<=x.toNat/\x.toNat<128/\x≠38:=λx X=>by
     obtain⟨i,hi,rfl⟩:=List.mem_iff_getElem.mp X;exact HNQ.o i hi (by rw[TB.o];exact hi)
    have B:c=E v:=by rw[HC.o,HCD.o,TB.o,di]
    subst B;have M:=F<|zD.o D;have Hs:=F<|HFC.o D;have K9:=F<|K.o.below n.o;have T9:=F<|λW2 (t:Tn w.heap.size wr W2)=>T6.o W2 ((Tn.of_below n.o).trans t);have O9:=F<|OB.of K9.o.c (ag _) K9.o.b;clear D HC HNQ HCD YJ K T6 n TB zD HFC
    go_upto_region 14 with(first
     |((with_reducible apply bS);refine dX rfl 3 (.tmp 77) (.const (.int .i64 100000)) rfl w w.heap.size 24 (aY d f g p.most) O9.o 3 (.int .i64 100000) rfl rfl (show 3<4 by decide) Rz rfl (aY d f g 100000) rfl ?_;intro w8 i8 t8;have K8:=F (show K27 w w8 (a2f p 100000) d f g (.slice av j cv) l g11 A u []from⟨i8.bL,HE.o.below i8.bL,HN.o.below i8.bL,i8.cb,⟨(HP.o.below i8.bL).s,(HP.o.below i8.bL).h,(HP.o.below i8.bL).t⟩,(HR.o.below i8.bL).more i8.bL.size,t8.cb K9.o.y b5I.o,T9.o _ t8,λx X=>by cases X⟩);clear i8 t8))
    clear O9 T9 K9 HE HN HP HR b5I
    go_upto_region 15 with(first
     |(go_at_call 11;refine(Z5.o _).m ?_;rintro e w7 ⟨rfl,hw⟩;subst hw))
    refine wp_region_held_drew (S:=λW=>K27 w W (a2f p 100000) d f g (.slice av j cv) l g11 A u []) Rz (by first|exact hHeld|exact K8.o.below (bG (bg _))|exact J.o) (λhHeld=>?_);refine ek 0 ?_;refine ek 1 ?_;refine tq 2 rfl ?_ (λwS hSw=>?_) ?_;rotate_left
    ·(try dsimp only at hSw)
     refine je 24 (.tmp 4) ?_ w.heap.size (aY d f g 100000) _ underlying24 rfl wn ?_ ?_
     ·rfl
     ·rfl
     exact hSw.c
    try simp only[Act.put,fH,fI,fJ]
    refine tq 3 rfl ?_ (λwS hSw=>?_) ?_;rotate_left
    ·(try dsimp only at hSw)
     refine q8 (.tmp 11) ?_ g11 A u H8.o ?_ ?_
     ·rfl
     ·rfl
     exact hSw.y
    try simp only[Act.put,fH,fI,fJ]
    refine ek 4 ?_;refine ek 5 ?_;refine ek 6 ?_;refine tq 9 rfl ?_ (λwS hSw=>?_) ?_;rotate_left
    ·(try dsimp only at hSw)
     refine je 24 (.tmp 4) ?_ w.heap.size (aY d f g 100000) _ underlying24 rfl wn ?_ ?_
     ·rfl
     ·rfl
     exact hSw.c
    try simp only[Act.put,fH,fI,fJ]
    refine tq 10 rfl ?_ (λwS hSw=>?_) ?_;rotate_left
    ·(try dsimp only at hSw)
     refine q8 (.tmp 11) ?_ g11 A u H8.o ?_ ?_
     ·rfl
     ·rfl
     exact hSw.y
    try simp only[Act.put,fH,fI,fJ]
    refine ek 11 ?_;refine ek 12 ?_;refine ek 13 ?_;refine rn 7 Rz rfl r5 (λK hK=>?_);refine a1W (.tmp 89) rfl v rfl xl.o ?_;intro ev w1x hs1 U;have J:=F<|hHeld.below U;have SE1:=F hs1;clear hs1 U;refine hK.out _ _ ?_ (λhHeld=>?_)
    ·first|exact hHeld|exact K8.o.below (bG (bg _))|exact J.o
    clear hK K
    try simp only[Act.put,fH,fI,fJ]
    refine rn 8 Rz rfl r5 (λK hK=>?_)
    go_simp
    refine(Hs.o _ hHeld ev SE1.o).m ?_;rintro e w2x ⟨rfl,U⟩;have J:=F<|hHeld.below U;clear U;refine hK.out _ _ ?_ (λhHeld=>?_)
    ·first|exact hHeld|exact K8.o.below (bG (bg _))|exact J.o
    clear hK K;refine rn 14 Rz rfl r5 (λK hK=>?_)
    go_simp
    refine(M.o _ hHeld).m ?_;rintro e w3x ⟨rfl,U⟩;have J:=F<|hHeld.below U;clear U;refine hK.out _ _ ?_ (λhHeld=>?_)
    ·first|exact hHeld|exact K8.o.below (bG (bg _))|exact J.o
    clear hK K;refine tq 15 rfl ?_ (λwS hSw=>?_) ?_;rotate_left
    ·(try dsimp only at hSw)
     refine eqX (.tmp 91) (.tmp 97) ?_ a3q a2L a2x ?_ ?_
     ·rfl
     ·rfl
     rfl
    try simp only[Act.put,fH,fI,fJ]
    refine ek 16 ?_;refine ek 17 ?_;refine wpAnyH_done Rz ?_ _;go_wp2_with fail;go_ret;exact⟨rfl,J.o.b⟩
