import Derived.Shelf.Strconv.Itoa4
import Derived.Test.YtagfilhbpnjhkaaGreatDoorFGNumB
set_option maxRecDepth 10000
set_option maxHeartbeats 0
namespace Go.Proofs.Q
open Tryz Go.RowKit
variable{ops:Array Oper}{w' w1 wb:H}{bx:Nat}{G':Prop}
theorem a1x(u:Nat)(w:H)(a:u<10):bF prog 156 #[.int .i64 u] w (S (Lib.decDigits u)):=by
 have hi:(u:Int)<10:=M0;have hi0:(0:Int)<=u:=M0;have c:=λW=>a2M (P:=prog) underlying25 underlying5 underlying9 ((48:Int)+u) M0 W;have hd:=a1N a;have U:UInt8.ofNat ((48:Int)+u).toNat=UInt8.ofNat (48+u):=by congr 1
 rw[U,<-hd]at c;clear U hd;go_enter func156,ntmps156;go_wp2_with fail;go_ret;exact⟨rfl,(gT _ _).alloc (ag _) _⟩
theorem a1S:∀(u:Nat) (w:H),u<=9223372036854775807->bF prog 156 #[.int .i64 u] w (S (Lib.decDigits u)):=by
 intro u
 induction u using Nat.strongRecOn with
 |ind u s =>
  intro w hu;by_cases i:u<10
  ·exact a1x u w i
  have hi:¬(u:Int)<10:=M0;have hi0:(0:Int)<=u:=M0;have j:=λW=>a2M (P:=prog) underlying25 underlying5 underlying9 ((48:Int)+(u:Int)%10) M0 W;have hi2:(u:Int)<=9223372036854775807:=M0;have w1:IntKind.i64.wrap ((u:Int)/10)=(u:Int)/10:=gS _ M0;have h:(u:Int).tmod 10=(u:Int)%10:=ei M0;have w3:IntKind.i64.wrap (48+(u:Int)%10)=48+(u:Int)%10:=gS _ M0;have w4:IntKind.u8.wrap (48+(u:Int)%10)=48+(u:Int)%10:=IntWalk.u8_in _ M0;have hd:=a2E i;have U:UInt8.ofNat ((48:Int)+(u:Int)%10).toNat=UInt8.ofNat (48+u%10):=by congr 1
  have f:=λb W=>a2S (P:=prog) underlying25 underlying5 underlying9 ((48:Int)+(u:Int)%10) M0 b W;rw[U]at j f;have hrec:∀(q:Int),q=((u/10:Nat):Int)->∀W,bF prog 156 #[.int .i64 q] W (S (Lib.decDigits (u/10))):=λq t W=>t▸s (u/10) M0 W M0;have hlen:=my 18 (u/10) M0;have t4:=mm (Lib.decDigits (u/10)) [UInt8.ofNat (48+u%10)];rw[<-hd]at t4;generalize UInt8.ofNat (48+u%10)=dg at t4 j f;obtain⟨D,n,T,r⟩:=ac (Lib.decDigits u) (Lib.decDigits (u/10));rw[<-n]at t4⊢;rw[<-r]at t4 hrec hlen;have hlt:¬ 9223372036854775807<T.length+1:=M0;clear U hd s n r;have g:=F hrec;clear hrec;have l:=F f;clear f;go_enter func156,ntmps156;go_wp2_with fail;refine wp_region_held_drew (S:=λ_=>True) Rz (by exact trivial) (λhHeld=>?_);refine ek 0 ?_;refine ek 1 ?_;refine ek 3 ?_;refine ek 4 ?_;refine ek 5 ?_;refine ek 6 ?_
  refine rn2 2 7 Rz rfl r5 ?_ rfl r5 ?_
  ·intro K hK
   go_simp
   refine(g.o _ M0 _).k λh d=>?_;dsimp only;refine hK.out _ _ ?_ (λhHeld=>?_)
   ·exact trivial
   clear hK K;refine rn 7 Rz rfl r5 (λK hK=>?_)
   go_simp
   refine hK.out _ _ ?_ (λhHeld=>?_)
   ·exact trivial
   clear hK K;refine rn 8 Rz rfl r5 (λK hK=>?_)
   go_simp
   refine hK.out _ _ ?_ (λhHeld=>?_)
   ·exact trivial
   clear hK K;refine ek 9 ?_;refine ek 10 ?_
   refine wpAnyH_done Rz ?_ _;go_wp2_with fail;go_ret;refine⟨rfl,?_⟩;have a:=d.o
   have c:r7 w h:=by
    first
     |exact(gT w.heap.size w).drew.trans a
     |exact((gT w.heap.size w).alloc (ag _) _).drew.trans (Below.m (B':=w.heap.size) a Oc)
   first
    |exact c
    |exact c.alloc c.size _
  intro K hK
  go_simp
  refine hK.out _ _ ?_ (λhHeld=>?_)
  ·exact trivial
  clear hK K;refine rn2 2 8 Rz rfl r5 ?_ rfl r5 ?_
  ·intro K hK
   go_simp
   refine(g.o _ M0 _).k λh d=>?_;dsimp only;refine hK.out _ _ ?_ (λhHeld=>?_)
   ·exact trivial
   clear hK K;refine rn 8 Rz rfl r5 (λK hK=>?_)
   go_simp
   rw[l.o _ _ ((d.o.cell (p:=⟨w.heap.size,0,none⟩) Oc).trans (by simp[hx]))];simp only[Result.andThen];rw[Oper.upon_value]
   go_simp
   refine hK.out _ _ ?_ (λhHeld=>?_)
   ·exact trivial
   clear hK K;refine ek 9 ?_;refine ek 10 ?_
   refine wpAnyH_done Rz ?_ _;go_wp2_with fail;go_ret;refine⟨rfl,?_⟩;have a:=d.o
   have c:r7 w h:=by
    first
     |exact(gT w.heap.size w).drew.trans a
     |exact((gT w.heap.size w).alloc (ag _) _).drew.trans (Below.m (B':=w.heap.size) a Oc)
   first
    |exact c
    |exact c.alloc c.size _
  intro K hK
  go_simp
  rw[l.o _ _ (by simp[hx])];simp only[Result.andThen];rw[Oper.upon_value]
  go_simp
  refine hK.out _ _ ?_ (λhHeld=>?_)
  ·exact trivial
  clear hK K;refine rn 2 Rz rfl r5 (λK hK=>?_)
  go_simp
  refine(g.o _ M0 _).k λh d=>?_;dsimp only;refine hK.out _ _ ?_ (λhHeld=>?_)
  ·exact trivial
  clear hK K;refine ek 9 ?_;refine ek 10 ?_
  refine wpAnyH_done Rz ?_ _;go_wp2_with fail;go_ret;refine⟨rfl,?_⟩;have a:=d.o
  have c:r7 w h:=by
   first
    |exact(gT w.heap.size w).drew.trans a
    |exact((gT w.heap.size w).alloc (ag _) _).drew.trans (Below.m (B':=w.heap.size) a Oc)
  first
   |exact c
   |exact c.alloc c.size _
theorem a6P:∀(m:Nat) (w:H),1<=m->m<=9223372036854775808->bF prog 156 #[.int .i64 (-(m:Int))] w (S (45::Lib.decDigits m)):=by
 intro m
 induction m using Nat.strongRecOn with
 |ind m M =>
  intro w B hm;by_cases i:m<10
  ·have hrec:=λW=>a1S m W (by omega)
   have hlen:=my 0 m (by simpa using i);have t4:=mm [45] (Lib.decDigits m);have s:E [45]=⟨#[45]⟩:=rfl;rw[s]at t4;generalize Lib.decDigits m=T at t4 hrec hlen⊢;have z:¬ 9223372036854775807<1+T.length:=M0;obtain⟨n,k⟩:=V (-(m:Int):Int);have v:(m:Int)=-n:=M0;rw[v]at hrec;rw[<-k];have C:n<0:=M0;have J:-10<n:=M0;have hw:IntKind.i64.wrap (-n)=-n:=gS _ M0;have g:=F hrec;clear hrec M v k s;go_enter func156,ntmps156
   go_wp2_with(go_at_call 156;refine(g.o _).k λl f=>?_)
   go_ret;refine⟨AK ?_,f.o⟩;exact cW _
  obtain⟨n,k,q,L,r,hr⟩:=ax (-(m:Int):Int) (-((m/10:Nat):Int):Int) (-((m%10:Nat):Int):Int);have x:n.tdiv 10=q:=by rw[k,L,Int.neg_tdiv,a1A M0];omega
  have w1:IntKind.i64.wrap (n.tdiv 10)=q:=by rw[x];exact gS _ M0
  have w1b:IntKind.i64.wrap q=q:=gS _ M0;have l:n.tmod 10=r:=by rw[k,hr,Int.neg_tmod,ei M0];omega
  obtain⟨d,j⟩:=V (48-r:Int);have w3:IntKind.i64.wrap (48-r)=d:=by rw[<-j];exact gS _ M0
  have N:48-r=d:=j.symm;have w4:IntKind.u8.wrap d=d:=IntWalk.u8_in _ M0;have t:=λW=>a2M (P:=prog) underlying25 underlying5 underlying9 d M0 W;have h:=λb W=>a2S (P:=prog) underlying25 underlying5 underlying9 d M0 b W;have U:UInt8.ofNat d.toNat=UInt8.ofNat (48+m%10):=by congr 1;omega
  rw[U]at t h;have hd:=a2E i;have hrec:∀W,bF prog 156 #[.int .i64 q] W (S (45::Lib.decDigits (m/10))):=λW=>L▸M (m/10) M0 W M0 M0;have hlen:=my 18 (m/10) M0;have t4:=mm (45::Lib.decDigits (m/10)) [UInt8.ofNat (48+m%10)];rw[dE,<-hd]at t4;generalize UInt8.ofNat (48+m%10)=dg at t4 t h;obtain⟨D,R,T,y⟩:=ac (45::Lib.decDigits m) (45::Lib.decDigits (m/10));have hTl:T.length<=21:=by rw[y,cz];omega
  rw[<-R]at t4⊢;rw[<-y]at t4 hrec;have z:¬ 9223372036854775807<T.length+1:=M0;rw[<-k];have C:n<=-10:=M0;have b4L:n<0:=M0;have J:¬ -10<n:=M0;have CO:¬(0:Int)<=n:=M0;have hn4:¬(10:Int)<=n:=M0;clear U hd M R y k L hr j hlen N x hm B i;have g:=F hrec;clear hrec;have Q:=F h;clear h;go_enter func156,ntmps156;go_wp2_with fail;refine wp_region_held_drew (S:=λ_=>True) Rz (by exact trivial) (λhHeld=>?_);refine ek 0 ?_;refine ek 1 ?_;refine ek 3 ?_;refine ek 4 ?_;refine ek 5 ?_;refine ek 6 ?_
  refine rn2 2 7 Rz rfl r5 ?_ rfl r5 ?_
  ·intro K hK
   go_simp
   refine(g.o _).k λl f=>?_;dsimp only;refine hK.out _ _ ?_ (λhHeld=>?_)
   ·exact trivial
   clear hK K
   try simp only[Act.put,fH,fI,fJ]
   refine rn 7 Rz rfl r5 (λK hK=>?_)
   go_simp
   refine hK.out _ _ ?_ (λhHeld=>?_)
   ·exact trivial
   clear hK K
   try simp only[Act.put,fH,fI,fJ]
   refine rn 8 Rz rfl r5 (λK hK=>?_)
   go_simp
   refine hK.out _ _ ?_ (λhHeld=>?_)
   ·exact trivial
   clear hK K
   try simp only[Act.put,fH,fI,fJ]
   refine ek 9 ?_;refine ek 10 ?_
   refine wpAnyH_done Rz ?_ _;go_wp2_with fail;go_ret;refine⟨rfl,?_⟩;have a:=f.o
   have c:r7 w l:=by
    first
     |exact(gT w.heap.size w).drew.trans a
     |exact((gT w.heap.size w).alloc (ag _) _).drew.trans (Below.m (B':=w.heap.size) a Oc)
   first
    |exact c
    |exact c.alloc c.size _
  intro K hK
  go_simp
  refine hK.out _ _ ?_ (λhHeld=>?_)
  ·exact trivial
  clear hK K
  try simp only[Act.put,fH,fI,fJ]
  refine rn2 2 8 Rz rfl r5 ?_ rfl r5 ?_
  ·intro K hK
   go_simp
   refine(g.o _).k λl f=>?_;dsimp only;refine hK.out _ _ ?_ (λhHeld=>?_)
   ·exact trivial
   clear hK K
   try simp only[Act.put,fH,fI,fJ]
   refine rn 8 Rz rfl r5 (λK hK=>?_)
   go_simp
   rw[Q.o _ _ ((f.o.cell (p:=⟨w.heap.size,0,none⟩) Oc).trans (by simp[hx]))];simp only[Result.andThen];rw[Oper.upon_value]
   go_simp
   refine hK.out _ _ ?_ (λhHeld=>?_)
   ·exact trivial
   clear hK K
   try simp only[Act.put,fH,fI,fJ]
   refine ek 9 ?_;refine ek 10 ?_
   refine wpAnyH_done Rz ?_ _;go_wp2_with fail;go_ret;refine⟨rfl,?_⟩;have a:=f.o
   have c:r7 w l:=by
    first
     |exact(gT w.heap.size w).drew.trans a
     |exact((gT w.heap.size w).alloc (ag _) _).drew.trans (Below.m (B':=w.heap.size) a Oc)
   first
    |exact c
    |exact c.alloc c.size _
  intro K hK
  go_simp
  rw[Q.o _ _ (by simp[hx])];simp only[Result.andThen];rw[Oper.upon_value]
  go_simp
  refine hK.out _ _ ?_ (λhHeld=>?_)
  ·exact trivial
  clear hK K
  try simp only[Act.put,fH,fI,fJ]
  refine rn 2 Rz rfl r5 (λK hK=>?_)
  go_simp
  refine(g.o _).k λl f=>?_;dsimp only;refine hK.out _ _ ?_ (λhHeld=>?_)
  ·exact trivial
  clear hK K
  try simp only[Act.put,fH,fI,fJ]
  refine ek 9 ?_;refine ek 10 ?_
  refine wpAnyH_done Rz ?_ _;go_wp2_with fail;go_ret;refine⟨rfl,?_⟩;have a:=f.o
  have c:r7 w l:=by
   first
    |exact(gT w.heap.size w).drew.trans a
    |exact((gT w.heap.size w).alloc (ag _) _).drew.trans (Below.m (B':=w.heap.size) a Oc)
  first
   |exact c
   |exact c.alloc c.size _
theorem a6a(n:Int)(w:H)(h0:-9223372036854775808<=n)(Y:n<=9223372036854775807):bF prog 156 #[.int .i64 n] w (S (Lib.itoa n)):=by
 unfold Lib.itoa
 split
 ·next h =>
  have:=a6P n.natAbs w M0 M0;rw[show -(n.natAbs:Int)=n by omega]at this;exact this
 next h =>
 have:=a1S n.toNat w M0;rw[show(n.toNat:Int)=n by omega]at this;exact this
theorem Qu(n:Int)(w:H)(a:-9223372036854775808<=n)(Y:n<=9223372036854775807)(d:NE w) :
  bF prog 31 #[.int .i64 n] w (S (Lib.itoa n)) :=
 (Any.strconv_Itoa laysItoa n a Y w d.tab).m λ_ _ ⟨I,k,os,c⟩=>⟨I,c▸Lib.below_grow w.heap.size w (ag _) k os⟩

def yS(u:Url):O:=if u.bz then [58]++Lib.itoa u.port else []
def Fq(u:Url):O:=if u.opq=false/\2<=u.path.length/\u.path.head? = some []then [47,46]else []
def ld(u:Url):O:=if u.host.kind=0 then Fq u else [47,47]++uf u++lJ u.host++yS u
def qF(u:Url):O:=if u.bZ then [63]++u.q else []
def Nc(u:Url)(Zz:Bool):O:=if u.cg&&Zz then [35]++u.f else []
def dA(u:Url)(Zz:Bool):O:=u.aJ++[58]++ld u++nh u++qF u++Nc u Zz
structure nc (u:Url):Prop where
 aJ:u.aJ.length<=1024000000
 usr:u.usr.length<=102400000
 ib:u.ib.length<=102400000
 name:u.host.name.length<=102400000
 flat:u.flat.length<=1024000000
 path:(cH u.path).length<=1024000000
 q:u.q.length<=1024000000
 f:u.f.length<=1024000000
theorem Da(n:Int)(h0:-9223372036854775808<=n)(Y:n<=9223372036854775807):(Lib.itoa n).length<=21:=by
 unfold Lib.itoa
 split
 ·have:=my 18 n.natAbs (by omega)
  rw[cz];omega
 have:=my 18 n.toNat M0;omega
theorem Ec(u:Url)(h:nc u):(uf u).length<=204800002:=by
 have Y:=h.usr;have I:=h.ib;unfold uf
 split
 ·simp
 split <;>simp only[ae,cz,aO] <;>omega
theorem sC(u:Url)(ok:gG u):(yS u).length<=22:=by
 have:=Da u.port ok.p.1 ok.p.2;unfold yS
 split
 ·rw[ae];simp;omega
 simp
theorem uN(u:Url)(ok:gG u)(h:nc u):(ld u).length<=409600000:=by
 have Y:=Ec u h;have I:=oQ u.host ok.h 102400000 h.name;have h3:=sC u ok;unfold ld Fq
 split
 ·split <;>simp
 simp only[ae,cz,aO];omega
theorem yQ(u:Url)(h:nc u):(nh u).length<=1024000000:=by
 unfold nh
 split
 ·exact h.flat
 exact h.path
theorem Ry(u:Url)(h:nc u):(qF u).length<=1024000001:=by
 have:=h.q;unfold qF
 split
 ·rw[ae];simp;omega
 simp
theorem UP(u:Url)(h:nc u)(fr:Bool):(Nc u fr).length<=1024000001:=by
 have:=h.f;unfold Nc
 split
 ·rw[ae];simp;omega
 simp
theorem RZ(u:Url)(ok:gG u)(h:nc u)(fr:Bool):(dA u fr).length<=5120000000:=by
 have Y:=uN u ok h;have I:=yQ u h;have h3:=Ry u h;have h4:=UP u h fr;have h5:=h.aJ;unfold dA;simp only[ae,cz,aO];omega
theorem Xw{W:H}{cs:Array Z}(U:r7 w1 W)(a:bx<w1.heap.size)(c:∀i,w1.cell? ⟨bx,i,none⟩=cs[i]?)(i:Nat):W.cell? ⟨bx,i,none⟩=cs[i]? :=
 (U.cell (p:=⟨bx,i,none⟩) a).trans (c i)
theorem rr(u:Url)(cs:Array Z)(A:Z)(fr:Bool)(w:H)(h:sY cs A u)(hp:Sl w.heap.size w A (u.path.map S))(r:nc u)(hE:NE w) :
  bF prog 11 #[.agg cs,.bool fr] w (S (dA u fr)):=by
 have hwho:=λW=>WF u cs A W h r.usr r.ib;have PX:=λW (z:r7 w W)=>vJ u.host _ W (CS h.ok.h) r.name (hE.below z);have XN:=λW (z:r7 w W)=>Mt u cs A W h ((hp.below z).more z.size) r.path;have XI:=λW (z:r7 w W)=>Qu u.port W h.ok.p.1 h.ok.p.2 (hE.below z);have h0:=h.aJ;have h3:=h.kind;have B:=h.bz;have UX:=h.port;have C:=h.opq;have D:=h.path;have J:=h.bZ;have L:=h.q;have M:=h.cg;have N:=h.f;have hsz:=h.sz
 have hC:∀j v,(aS u.host)[j]?= some v->cs[3+j]?= some v:=by
  intro j v hj;have hl:(aS u.host).length=11:=by simp[aS,h.ok.h.l]
  have hj2:j<11:=by
   have:=(bh.1 hj).1;omega
  rw[h.XM j hj2];exact hj
 have ZS:(aS u.host).length=11:=by simp[aS,h.ok.h.l]
 have pV:dA u fr=u.aJ++[58]++ld u++nh u++qF u++Nc u fr:=rfl;have d:ld u=if u.host.kind=0 then Fq u else [47,47]++uf u++lJ u.host++yS u:=rfl;have s:Fq u=if u.opq=false/\2<=u.path.length/\u.path.head? = some []then [47,46]else []:=rfl;have g:yS u=if u.bz then [58]++Lib.itoa u.port else []:=rfl;have Te:qF u=if u.bZ then [63]++u.q else []:=rfl;have Q:Nc u fr=if u.cg&&fr then [35]++u.f else []:=rfl;have l1:=Ec u r;have l2:=oQ u.host h.ok.h 102400000 r.name;have l3:=uN u h.ok r;have l4:=yQ u r;have l5:=Ry u r;have l6:=Da u.port h.ok.p.1 h.ok.p.2;have l7:=r.aJ;have l8:=r.q;have l9:=r.f;have k:=F<|And.intro l1 (And.intro l2 (And.intro l3 (And.intro l4 (And.intro l5 (And.intro l6 (And.intro l7 (And.intro l8 l9)))))));clear l1 l2 l3 l4 l5 l6 l7 l8 l9 h r hE;generalize aS u.host=c11 at hC ZS PX;generalize dA u fr=RS at pV⊢;generalize uf u=WH at *;generalize lJ u.host=HO at *;generalize yS u=PO at *;generalize ld u=AH at *;generalize Fq u=DO at *;generalize nh u=PA at *;generalize qF u=QU at *;generalize Nc u fr=FR at *;generalize Lib.itoa u.port=IT at *;generalize u.aJ=aJ at *;generalize u.host.kind=K at *;generalize u.bz=bz at *;generalize u.port=port at *;generalize u.opq=opq at *;generalize u.path=path at *;generalize u.bZ=bZ at *;generalize u.q=q at *;generalize u.cg=cg at *;generalize u.f=f at *;have a8h:=F hwho;clear hwho;have a2k:=F PX;clear PX;have a2r:=F XN;clear XN;have a2l:=F XI;clear XI;have a7d:=F hC;clear hC;have a7E:=F ZS;clear ZS;have xy:=F pV;clear pV;have HAH:=F d;clear d;have a7m:=F s;clear s;have ED:=F g;clear g;have HQF:=F Te;clear Te;have HFF:=F Q;clear Q;have HP:=F hp;clear hp;have eM:=F hsz;clear hsz;have HH:=F<|And.intro h3 (And.intro B (And.intro UX (And.intro C (And.intro D (And.intro J (And.intro L (And.intro M N)))))));clear h3 B UX C D J L M N;go_enter func11,ntmps11
 go_upto_region 4 with(first|(refine boxed rfl _ _ rfl cs rfl ?_;intro bx w1 hb1 hb2 hb3 n x;obtain⟨HC,HB,pw⟩:=cZ n x hb2;have c0:=(Xw ((gT w1.heap.size w1).alloc (ag _) (.cells #[.pointer none,.slice none 0 0] 70)) hb2 n 0).trans h0;clear hb1 hb2 hb3 n x)|(go_at_call 27;refine(Hb.ws aJ (Hb.fresh w1) (by have:=k.o;simp;omega)).k λw2 tQ=>?_)|(go_at_call 28;refine(Hb.Ti 58 _ rfl tQ.o (by have:=k.o;simp;omega)).k λw3 y=>?_))
 have hH:=HH.o;obtain⟨h3,B,UX,C,D,J,L,M,N⟩:=hH;have CB:=F<|λ(W:H) (l:O) (U:Hb w1 l W) (i:Nat)=>Xw U.bL pw.o HC.o i;have BW:=F<|λ(W:H) (l:O) (U:Hb w1 l W)=>HB.o.trans (U.bL.m HB.o.size);have c3:=(CB.o _ _ y.o 3).trans h3
 go_upto_if 13 with fail
 go_cut []from 6 (λwx=>Hid (Hb w1 (aJ++[58]++AH) wx))
 case first =>
  by_cases hk:K=0
  ·have d:=HAH.o
   rw[ge hk]at d;subst d;obtain⟨av,cc,hpv⟩:=cQ HP.o;rw[ay]at hpv;subst hpv;have c16:=(CB.o _ _ y.o 16).trans C;have c18:=(CB.o _ _ y.o 18).trans D;have s:=a7m.o;cases opq
   ·cases path with
    |nil =>
     rw[gc Oc]at s;subst s;go_wp2_with fail
     go_meet
     ·show Hb w1 (aJ++[58]++[]) _;rw[aV];exact y.o
    |cons p0 ps =>
     have hpp:=HP.o;cases ps with
     |nil =>
      rw[gc Oc]at s;subst s;go_wp2_with fail
      go_meet
      ·show Hb w1 (aJ++[58]++[]) _;rw[aV];exact y.o
     |cons p1 ps =>
      obtain⟨pb,po,rfl,hpb,hpc⟩:=gO (hpp.below (BW.o _ _ y.o)) 0 Oc;simp only[gZ,dH]at hpc;have b2f:(2:Int)<=((p0::p1::ps).length:Nat):=by simp;omega
      by_cases P:p0=[]
      ·subst P
       rw[ge Oc]at s;subst s;have e1:(E []).toList.isEmpty=true:=by rw[aB];rfl
       have e2:(E []).toList=[]:=aB _
       go_wp2_with(go_at_call 27;refine(Hb.ws [47,46] y.o (by have:=k.o;simp;omega)).k λw4 zA=>?_)
       go_meet
       exact zA.o
      rw[gc (by simp[P])]at s;subst s;have e1:(E p0).toList.isEmpty=false:=by rw[aB];simpa using P
      have e2:¬(E p0).toList=[]:=by rw[aB];exact P
      go_wp2_with fail
      go_meet
      ·show Hb w1 (aJ++[58]++[]) _;rw[aV];exact y.o
   rw[gc Oc]at s;subst s;go_wp2_with fail
   go_meet
   ·show Hb w1 (aJ++[58]++[]) _;rw[aV];exact y.o
  have d:=HAH.o;rw[gc hk]at d;have c0w:=F d;clear d;have g:=ED.o;have T:=λW (z:Hb w1 (aJ++[58]++[47,47]++WH++HO) W)=>(CB.o _ _ z 14).trans B;have c15:=λW (l:O) (z:Hb w1 l W)=>(CB.o _ _ z 15).trans UX;have a7e:=F T;clear T;have a7f:=F c15;clear c15;go_wp2_with fail;refine(Hb.ws [47,47] y.o (by have:=k.o;simp;omega)).k λw4 zA=>?_
  go_wp2_with(refine wpList_load_mid rfl 34 _ rfl bx 0 rfl cs.toList _ (oC 0 (λi=>by rw[bM];exact CB.o _ _ zA.o i)) underlying34 rfl (by rw[fb,eM.o];kernel_rfl) ?_)
  rw[jh];refine(a8h.o _).k λw5 x=>?_;have Yo:=F<|zA.o.step x.o;clear x;go_wp2_with fail;refine(Hb.ws WH Yo.o (by have:=k.o;simp;omega)).k λw6 Yp=>?_
  go_wp2_with(refine wpList_load_mid rfl 32 _ rfl bx 3 rfl c11 _ (λj v hv=>by rw[CB.o _ _ Yp.o (3+j)];exact a7d.o j v hv) underlying32 rfl (by rw[a7E.o];kernel_rfl) ?_)
  refine(a2k.o _ (BW.o _ _ Yp.o)).k λw7 Em=>?_;have a7a:=F<|Yp.o.step Em.o;clear Em;go_wp2_with fail;refine(Hb.ws HO a7a.o (by have:=k.o;simp;omega)).k λw8 a7b=>?_;have h8:=a7b.o;have e8:[]++aJ++[58]++[47,47]++WH++HO=aJ++[58]++[47,47]++WH++HO:=rfl;rw[e8]at h8;have T:=a7e.o _ h8;cases bz
  ·have Vf:PO=[]:=g
   clear g;subst Vf;go_wp2_with fail
   go_meet
   ·show Hb w1 (aJ++[58]++AH) _;rw[c0w.o];simp only[aV,bB]at h8⊢;exact h8
  have Vf:PO=[58]++IT:=g;have a7V:=F Vf;clear g Vf;have H8:=F h8;clear h8;go_wp2_with fail;refine(Hb.Ti 58 _ rfl H8.o (by have:=k.o;simp;omega)).k λw9 Yq=>?_;have c15:=a7f.o _ _ Yq.o;go_wp2_with fail;refine(a2l.o _ (BW.o _ _ Yq.o)).k λxr a3Z=>?_;have c0B:=F<|Yq.o.step a3Z.o;clear a3Z;go_wp2_with fail;refine(Hb.ws IT c0B.o (by have:=k.o;simp;omega)).k λEb a2a=>?_;go_wp2_with fail
  go_meet
  ·show Hb w1 (aJ++[58]++AH) _;rw[c0w.o,a7V.o];have h:=a2a.o;simp only[bB]at h⊢;exact h
 case rest =>
  have HA:=hcut;clear hcut;clear y tQ c0 c3
  go_wp2_with(refine wpList_load_mid rfl 34 _ rfl bx 0 rfl cs.toList _ (oC 0 (λi=>by rw[bM];exact CB.o _ _ HA.o i)) underlying34 rfl (by rw[fb,eM.o];kernel_rfl) ?_)
  try rw[jh]
  refine(a2r.o _ (BW.o _ _ HA.o)).k λw4 n=>?_;have HA2:=F<|HA.o.step n.o;clear n;go_wp2_with fail;refine(Hb.ws PA HA2.o (by have:=k.o;simp;omega)).k λw5 Nt=>?_;have c19:=(CB.o _ _ Nt.o 19).trans J
  go_upto_if 50 with fail
  go_cut []from 6 (λwx=>Hid (Hb w1 (aJ++[58]++AH++PA++QU) wx))
  case first =>
   have Te:=HQF.o;cases bZ
   ·have c:QU=[]:=Te
    subst c;go_wp2_with fail
    go_meet
    ·show Hb w1 (aJ++[58]++AH++PA++[]) _;rw[aV];exact Nt.o
   have c:QU=[63]++q:=Te;have t:=F c;clear c;go_wp2_with fail;refine(Hb.Ti 63 _ rfl Nt.o (by have:=k.o;simp;omega)).k λw20 Bo=>?_;have cq:=(CB.o _ _ Bo.o 20).trans L;go_wp2_with fail;refine(Hb.ws q Bo.o (by have:=k.o;simp;omega)).k λSH Nu=>?_;go_wp2_with fail
   go_meet
   ·show Hb w1 (aJ++[58]++AH++PA++QU) _;rw[t.o];have h:=Nu.o;simp only[bB]at h⊢;exact h
  case rest =>
   have R:=hcut;clear hcut c19;have c21:=(CB.o _ _ R.o 21).trans M;have Q:=HFF.o;cases cg <;>cases fr
   case true.true =>
    have c:FR=[35]++f:=Q;have t:=F c;clear Q c;go_wp2_with fail;refine(Hb.Ti 35 _ rfl R.o (by have:=k.o;simp;omega)).k λw20 Bo=>?_;have cq:=(CB.o _ _ Bo.o 22).trans N;go_wp2_with fail;refine(Hb.ws f Bo.o (by have:=k.o;simp;omega)).k λSH Nu=>?_;go_wp2_with fail;refine(Hb.str Nu.o).k λw30 Ym=>?_;go_wp2_with fail;go_ret;refine⟨?_,HB.o.trans (Ym.o.m HB.o.size)⟩;rw[xy.o,t.o];simp only[bB];rfl
   all_goals
    have c:FR=[]:=Q;have t:=F c;clear Q c;go_wp2_with fail;refine(Hb.str R.o).k λw30 Ym=>?_;go_wp2_with fail;go_ret;refine⟨?_,HB.o.trans (Ym.o.m HB.o.size)⟩;rw[xy.o,t.o];simp only[aV,bB];rfl

theorem b02(u:Url)(cs:Array Z)(A:Z)(w:H)(h:sY cs A u)(hp:Sl w.heap.size w A (u.path.map S))(t:(cH u.path).length<=1024000000) :
  bF prog 110 #[.agg cs] w (S (nh u)):=by
 have Y:=h.opq;have I:=h.flat;have v:=h.path;clear h;obtain⟨R,f⟩:=V (nh u);rw[<-f];unfold nh at f;generalize u.flat=Q at I f;generalize u.path=l at hp t f v;cases B:u.opq
 ·rw[B]at Y f
  obtain⟨av,c,s⟩:=cQ hp;rw[ay]at s;subst s;obtain⟨N,x⟩:=V (l.length);rw[<-x]at v hp;have mc:=sw l;have oP:N<=1024000000:=M0;clear mc;have C:=F x;clear x;have D:=F t;clear t;have J:=F hp;clear hp;have g:R=cH l:=f;clear f;have K:=F g;clear g;clear B I;go_enter func110,ntmps110
  go_wp2_with(refine boxed rfl _ _ rfl cs rfl ?_;intro bx w1 p q m a j;have M:=(a 16).trans Y;have P:=(a 18).trans v;clear a m)
  have HB:=F j;clear j p q
  go_loopw [3,4] (λsv iv wr=>∃k:Nat,k<=N/\iv=.int .i64 k/\sv=.string (E (cH (l.take k)))/\w1=wr) (λ_ i _=>N-(intOf i).toNat)
  exact⟨0,M0,Oc,rfl,rfl⟩
  obtain⟨k,hk,rfl,rfl,rfl⟩:=hrel;by_cases z:k<N
  ·have r:k<l.length:=by rw[<-C.o];exact z
   obtain⟨b,o,rfl,hbb,y⟩:=gO (J.o.below HB.o) k r;have e:=Gk l k r;have d:=vO l (k+1);have W:=D.o;rw[e]at d;simp only[ae,cz,aO]at d;generalize l[k]=piece at y e d;generalize cH (l.take k)=T at e d⊢;have hj1:T.length+1+piece.length<=1024000000:=M0;have t4:=mm (T++[47]) piece;rw[<-mm T [47],<-e]at t4;have n:E [47]=⟨#[47]⟩:=rfl;rw[n]at t4;clear d W n e;have L:=F t4;clear t4;go_wp2_with fail;go_roundw
   exact⟨k+1,M0,Oc,by rw[L.o],by trivial⟩
   exact aa
  obtain rfl:k=N:=M0;go_wp2_with fail;go_ret;refine⟨?_,HB.o⟩;rw[K.o,C.o,di];rfl
 rw[B]at Y f;have g:R=Q:=f;clear f hp t;subst g;go_enter func110,ntmps110
 go_wp2_with(refine boxed rfl _ _ rfl cs rfl ?_;intro bx w1 p q m a j;have M:=(a 16).trans Y;have P:=(a 17).trans I;clear a m)
 go_ret;exact⟨rfl,j⟩
theorem b8a(u:Url)(cs:Array Z)(A:Z)(w:H)(h:sY cs A u)(hp:Sl w.heap.size w A (u.path.map S))(R:nc u) :
  bF prog 109 #[.agg cs] w (S (ld u)):=by
 have PX:=λW=>b7i u.host _ W (CS h.ok.h) R.name;have htext:=λW=>a6a u.port W h.ok.p.1 h.ok.p.2;have Y:=h.usr;have I:=h.ib;have Q:=h.kind;have D:=h.bz;have UX:=h.port;have n:=h.opq;have q:=h.path
 have hC:∀j v,(aS u.host)[j]?= some v->cs[3+j]?= some v:=by
  intro j v hj;have hl:(aS u.host).length=11:=by simp[aS,h.ok.h.l]
  have hj2:j<11:=by
   have:=(bh.1 hj).1;omega
  rw[h.XM j hj2];exact hj
 have ZS:(aS u.host).length=11:=by simp[aS,h.ok.h.l]
 have t:ld u=if u.host.kind=0 then Fq u else [47,47]++uf u++lJ u.host++yS u:=rfl;have r:Fq u=if u.opq=false/\2<=u.path.length/\u.path.head? = some []then [47,46]else []:=rfl;have i:yS u=if u.bz then [58]++Lib.itoa u.port else []:=rfl;have s:uf u=if u.usr=[]/\u.ib=[]then []else if u.ib=[]then u.usr++[64]else u.usr++[58]++u.ib++[64]:=rfl;have l1:=Ec u R;have l2:=oQ u.host h.ok.h 102400000 R.name;have l6:=Da u.port h.ok.p.1 h.ok.p.2;have l7:=R.usr;have l8:=R.ib;clear h R;generalize aS u.host=c11 at hC ZS PX;generalize uf u=WH at *;generalize lJ u.host=HO at *;generalize yS u=PO at *;generalize ld u=AH at *;generalize Fq u=DO at *;generalize Lib.itoa u.port=IT at *;generalize u.usr=x at *;generalize u.ib=y at *;generalize u.host.kind=K at *;generalize u.bz=bz at *;generalize u.port=port at *;generalize u.opq=opq at *;generalize u.path=path at *;have a2k:=F PX;clear PX;have b59:=F htext;clear htext;have a7d:=F hC;clear hC;have a7E:=F ZS;clear ZS;have HP:=F hp;clear hp;have ED:=F i;clear i;have pP:=F s;clear s;have a7m:=F r;clear r;have l2':HO.length<=102400074:=l2;clear l2;by_cases hk:K=0
 ·rw[ge hk]at t
  subst t;obtain⟨av,cc,hpv⟩:=cQ HP.o;rw[ay]at hpv;subst hpv;have r:=a7m.o;clear D UX Y I;cases opq
  ·cases path with
   |nil =>
    rw[gc Oc]at r;subst r;go_enter func109,ntmps109
    go_wp2_with(refine boxed rfl _ _ rfl cs rfl ?_;intro bx w1 f d g a c;have c3:=(a 3).trans Q;have B:=(a 16).trans n;have C:=(a 18).trans q;have HB:=F c;clear f d g a c)
    go_ret;exact⟨rfl,HB.o⟩
   |cons p0 ps =>
    cases ps with
    |nil =>
     rw[gc Oc]at r;subst r;go_enter func109,ntmps109
     go_wp2_with(refine boxed rfl _ _ rfl cs rfl ?_;intro bx w1 f d g a c;have c3:=(a 3).trans Q;have B:=(a 16).trans n;have C:=(a 18).trans q;have HB:=F c;clear f d g a c)
     go_ret;exact⟨rfl,HB.o⟩
    |cons p1 ps =>
     obtain⟨pb,po,rfl,hpb,P⟩:=gO HP.o 0 Oc;simp only[gZ,dH]at P;have b2f:(1:Int)<((p0::p1::ps).length:Nat):=by simp;omega
     have b6P:=λ(W:H) (N:r7 w W)=>(N.cell (p:=⟨pb,po,none⟩) hpb).trans P;have HPC:=F b6P;clear b6P P;by_cases z:p0=[]
     ·subst z
      rw[ge Oc]at r;subst r;have e1:(E []).toList.isEmpty=true:=by rw[aB];rfl
      have e2:(E []).toList=[]:=aB _;go_enter func109,ntmps109
      go_wp2_with(refine boxed rfl _ _ rfl cs rfl ?_;intro bx w1 f d g a c;have c3:=(a 3).trans Q;have B:=(a 16).trans n;have C:=(a 18).trans q;have cp:=HPC.o _ c;have HB:=F c;clear f d g a c)
      go_ret;exact⟨rfl,HB.o⟩
     rw[gc (by simp[z])]at r;subst r;have e1:(E p0).toList.isEmpty=false:=by rw[aB];simpa using z
     have e2:¬(E p0).toList=[]:=by rw[aB];exact z
     clear z;go_enter func109,ntmps109
     go_wp2_with(refine boxed rfl _ _ rfl cs rfl ?_;intro bx w1 f d g a c;have c3:=(a 3).trans Q;have B:=(a 16).trans n;have C:=(a 18).trans q;have cp:=HPC.o _ c;have HB:=F c;clear f d g a c)
     go_ret;exact⟨rfl,HB.o⟩
  rw[gc Oc]at r;subst r;go_enter func109,ntmps109
  go_wp2_with(refine boxed rfl _ _ rfl cs rfl ?_;intro bx w1 f d g a c;have c3:=(a 3).trans Q;have B:=(a 16).trans n;have C:=(a 18).trans q;have HB:=F c;clear f d g a c)
  go_ret;exact⟨rfl,HB.o⟩
 rw[gc hk]at t;have L:=F t;clear t;clear n q;go_enter func109,ntmps109
 go_upto_region 6 with(refine boxed rfl _ _ rfl cs rfl ?_;intro bx w1 f d g a c;have c3:=(a 3).trans Q;have c1:=(a 1).trans Y;have c2:=(a 2).trans I;have c14:=(a 14).trans D;have c15:=(a 15).trans UX;obtain⟨HC,HB,pw⟩:=cZ a c d;clear f d g a c)
 have e47:(⟨#[47,47]⟩:ByteArray)=E [47,47]:=rfl;obtain⟨T,M⟩:=V (!decide (x=[]/\y=[]));have HT:=F M;clear M
 go_cut [31]from 4 (λs31 wx=>s31=.bool T/\w1=wx)
 case first =>
  go_wp2_with fail
  all_goals
   go_meet
   ·have M:=HT.o
    first
     |(simp_all[aB];done)
     |(simp_all[aB];cases y <;>simp)
 case rest =>
  obtain⟨rfl,rfl⟩:=hcut
  go_upto_if 31 with fail
  go_cut [3]from 4 (λs3 wx=>s3=.string (E ([47,47]++WH))/\w1=wx)
  case first =>
   have s:=pP.o;by_cases k:x=[]/\y=[]
   ·rw[ge k]at s
    have M:T=false:=by rw[HT.o];simp[k]
    subst M;subst s;clear k;go_wp2_with fail
    go_meet
    exact⟨rfl,rfl⟩
   rw[gc k]at s;have M:T=true:=by rw[HT.o];simp only[k,decide_false,Bool.not_false]
   subst M;by_cases hy:y=[]
   ·rw[ge hy]at s
    have ey1:(E y).toList.isEmpty=true:=by rw[aB,hy];rfl
    have ey2:(E y).toList=[]:=by rw[aB,hy]
    have N:E [47,47]++E x++⟨#[64]⟩=E ([47,47]++WH):=by
     rw[s,mm];exact(mm _ [64]).trans (by rw[bB])
    have HW:=F N;clear N s hy k;go_wp2_with fail
    go_meet
    exact⟨by rw[<-HW.o],rfl⟩
   rw[gc hy]at s;have ey1:(E y).toList.isEmpty=false:=by rw[aB];simpa using hy
   have ey2:¬(E y).toList=[]:=by rw[aB];exact hy
   have N:E [47,47]++E x++⟨#[58]⟩++E y++⟨#[64]⟩=E ([47,47]++WH):=by
    have e1:(⟨#[58]⟩:ByteArray)=E [58]:=rfl;have e2:(⟨#[64]⟩:ByteArray)=E [64]:=rfl;rw[s,e1,e2,mm,mm,mm,mm];simp
   have HW:=F N;clear N s hy k;go_wp2_with fail
   go_meet
   exact⟨by rw[<-HW.o],rfl⟩
  case rest =>
   obtain⟨rfl,rfl⟩:=hcut;have hwl:([47,47]++WH).length<=204800004:=by rw[ae];simp;omega
   generalize [47,47]++WH=A' at L hwl⊢;have t4:=mm A' HO;have Hq:=F t4;clear t4;have i:=ED.o;cases bz
   ·have Vf:PO=[]:=i
    clear i;subst Vf
    go_wp2_with(first|(refine wpList_load_mid rfl 32 _ rfl bx 3 rfl c11 _ (λj v hv=>by rw[HC.o (3+j)];exact a7d.o j v hv) underlying32 rfl (by rw[a7E.o];kernel_rfl) ?_)|(go_at_call 36;refine(a2k.o _).k λw7 J=>?_;have b83:=(Xw J.o pw.o HC.o 14).trans D;have IF:=F<|HB.o.trans (J.o.m HB.o.size);clear J))
    go_ret;refine⟨AK ?_,IF.o⟩;rw[L.o];simp[Gs]
   have Vf:PO=[58]++IT:=i;have a7V:=F Vf;clear i Vf
   go_wp2_with(first|(refine wpList_load_mid rfl 32 _ rfl bx 3 rfl c11 _ (λj v hv=>by rw[HC.o (3+j)];exact a7d.o j v hv) underlying32 rfl (by rw[a7E.o];kernel_rfl) ?_)|(go_at_call 36;refine(a2k.o _).k λw7 J=>?_;have b83:=(Xw J.o pw.o HC.o 14).trans D;have c2M:=(Xw J.o pw.o HC.o 15).trans UX;have IF:=F<|HB.o.trans (J.o.m HB.o.size);clear J)|(go_at_call 156;refine(b59.o _).k λw8 Eo=>?_;have HB8:=F<|IF.o.trans (Eo.o.m IF.o.size);clear Eo))
   go_ret;refine⟨AK ?_,HB8.o⟩;rw[L.o,a7V.o];simp[Gs,Jl]
theorem b7n{P:Program}{a:Act}{o:Oper}{w:H}{ty:TypeId}{x:Operand}{v:Z}(c:o.op=.load ty x)(p:Z)(X:a.eval x=p)(d:(Instr.loadAt ty p).run P w=.ok v w):(execOp a.eval o).run P w=.ok (.value v) w:=by
 unfold execOp;simp only[c,X,h2,io,h1,d]
theorem b7m{W:H}{cs:Array Z}(d:∀i,w1.cell? ⟨bx,i,none⟩=cs[i]?)(a:bx<w1.heap.size)(c:cs.size=23)(U:r7 w1 W) :
  (Instr.loadAt 34 (.pointer (some ⟨bx,0,none⟩))).run prog W=.ok (.agg cs) W:=by
 have h:=run_loadAt_mid (P:=prog) W bx 0 34 cs.toList _ (oC 0 (λi=>by rw[bM];exact Xw U a d i)) underlying34 rfl (by rw[fb,c];kernel_rfl);rw[jh]at h;exact h
theorem b7a(u:Url)(cs:Array Z)(A:Z)(fr:Bool)(w:H)(h:sY cs A u)(hp:Sl w.heap.size w A (u.path.map S))(l:nc u) :
  bF prog 66 #[.agg cs,.bool fr] w (S (dA u fr)):=by
 have XN:=λW (B:r7 w W)=>b02 u cs A W h ((hp.below B).more B.size) l.path;have z:=λW (B:r7 w W)=>b8a u cs A W h ((hp.below B).more B.size) l;have h0:=h.aJ;have d:=h.bZ;have g:=h.q;have j:=h.cg;have k:=h.f;have L:=h.sz;have s:dA u fr=u.aJ++[58]++ld u++nh u++qF u++Nc u fr:=rfl;have y:qF u=if u.bZ then [63]++u.q else []:=rfl;have t:Nc u fr=if u.cg&&fr then [35]++u.f else []:=rfl;have l3:=uN u h.ok l;have l4:=yQ u l;have l5:=Ry u l;have l7:=l.aJ;have l8:=l.q;have l9:=l.f;clear h l hp;generalize dA u fr=RS at s⊢;generalize ld u=n at *;generalize nh u=r at *;generalize qF u=QU at *;generalize Nc u fr=FR at *;generalize u.aJ=aJ at *;generalize u.bZ=bZ at *;generalize u.q=q at *;generalize u.cg=cg at *;generalize u.f=f at *;have R:=F XN;clear XN;have b78:=F z;clear z;have T:=F s;clear s;have Q:=F y;clear y;have P:=F t;clear t;have eM:=F L;clear L;have e1:¬ 9223372036854775807<aJ.length+1:=M0;have e2:¬ 9223372036854775807<aJ.length+1+n.length:=M0;have e3:¬ 9223372036854775807<aJ.length+1+n.length+r.length:=M0;have HH:=F<|And.intro d (And.intro g (And.intro j k));clear d g j k;go_enter func66,ntmps66
 go_upto_region 1 with(refine boxed rfl _ _ rfl cs rfl ?_;intro bx w1 hb1 C hb3 a D;obtain⟨M,HB,N⟩:=cZ a D C;clear hb1 C hb3 a D)
 have t4:E aJ++⟨#[58]⟩++E n++E r=E (aJ++[58]++n++r):=by
  have e58:(⟨#[58]⟩:ByteArray)=E [58]:=rfl;rw[e58,mm,mm,mm]
 go_cut [5]from 6 (λs5 wx=>Hid (s5=.string (E (aJ++[58]++n++r))/\r7 w1 wx))
 case first =>
  refine wp_region_held_drew (S:=λW=>r7 w1 W) Rz (by first|exact bG (bg _)|assumption|exact b7t (by assumption) (by assumption)|exact bG (by assumption)) (λhHeld=>?_);refine ek 0 ?_
  refine tq 1 rfl ?_ (λw hSw=>?_) ?_;rotate_left
  ·(try dsimp only at hSw)
   have c:=(Xw hSw N.o M.o 0).trans h0
   go_simp
   first|done|with_reducible rfl
  try simp only[Act.put,fH,fI,fJ]
  refine ek 2 ?_
  refine e_l 3 rfl (λ_ hS=>b7n (v:=.agg cs) (ty:=34) (x:=.tmp 2) rfl (.pointer (some ⟨bx,0,none⟩)) rfl (b7m M.o N.o eM.o hS)) ?_
  refine e_l 6 rfl (λ_ hS=>b7n (v:=.agg cs) (ty:=34) (x:=.tmp 2) rfl (.pointer (some ⟨bx,0,none⟩)) rfl (b7m M.o N.o eM.o hS)) ?_
  refine rn 4 Rz rfl r5 (λK hK=>?_)
  go_simp
  refine(b78.o _ HB.o.drew).k λw4 a=>?_;have p:r7 w1 w4:=(gT w1.heap.size w1).drew.trans a.o;clear a;dsimp only;refine hK.out _ _ ?_ (λhHeld=>?_)
  ·first|exact bG (bg _)|assumption|exact b7t (by assumption) (by assumption)|exact bG (by assumption)
  clear hK K
  try simp only[Act.put,fH,fI,fJ]
  refine ek 5 ?_
  refine rn 7 Rz rfl r5 (λK hK=>?_)
  go_simp
  refine(R.o _ (HB.o.trans (p.m HB.o.size))).k λw7 Em=>?_;have hB7:r7 w1 w7:=p.trans (Em.o.m p.size);clear Em;dsimp only;refine hK.out _ _ ?_ (λhHeld=>?_)
  ·first|exact bG (bg _)|assumption|exact b7t (by assumption) (by assumption)|exact bG (by assumption)
  clear hK K
  try simp only[Act.put,fH,fI,fJ]
  refine ek 8 ?_;refine ek 9 ?_
  refine wpAnyH_done Rz ?_ _;go_wp2_with fail
  go_meet
  exact⟨Oc,hB7⟩
 case rest =>
  have hl1:(aJ++[58]++n++r).length<=3072000000:=by simp only[ae,cz,aO];omega
  obtain⟨A',hA⟩:=V (aJ++[58]++n++r);rw[<-hA]at hcut hl1;obtain⟨rfl,J⟩:=hcut.o;have Hp:=F J;clear J hcut t4;have s:=T.o;rw[<-hA]at s;have xy:=F s;clear hA;have hH:=HH.o;obtain⟨d,g,j,k⟩:=hH;have CB:=F<|λi=>Xw Hp.o N.o M.o i;have c19:=(CB.o 19).trans d;have c20:=(CB.o 20).trans g;have c21:=(CB.o 21).trans j;have c22:=(CB.o 22).trans k;have y:=Q.o;have t:=P.o;have b8E:=F y;have b8m:=F t;clear y t;go_wp2_with fail
  all_goals
   go_ret;refine⟨AK ?_,HB.o.trans (Hp.o.m HB.o.size)⟩;rw[xy.o,b8E.o,b8m.o];simp_all[Gs,Jl]

def iA(d:O)(has:Bool)(u:O):O:=if has then d++[59,32,117,114,108,61]++u else d
theorem V5(d u:O)(has:Bool)(w:H)(hd:d.length<=1024000000)(hu:u.length<=160000000000) :
  bF prog 40 #[.agg #[S d,.bool has,S u]] w (S (iA d has u)):=by
 cases has
 all_goals
  go_enter func40,ntmps40;go_wp2_with fail;go_ret;refine⟨AK ?_,(gT _ _).alloc (ag _) _⟩;simp[iA,Gs,Jl]
def ti(l:O):Bool:=(l.all λx=>!iW (G x)) && !l.isEmpty && !(Lib.hasPrefix l [44]) && !(Lib.hasSuffix l [44])
theorem FI{l:O}{k:Nat}(a:k<l.length)(h:iW (G l[k])=true):ti l=false:=by
 have:(l.all λx=>!iW (G x))=false:=by
  rw[M5];exact⟨l[k],be a,by simp[h]⟩
 unfold ti;rw[this];rfl
theorem Y4{l:O}(h:∀k (a:k<l.length),iW (G l[k])=false):(l.all λx=>!iW (G x))=true:=by
 rw[dl];intro x X;obtain⟨k,a,rfl⟩:=cC X;simp[h k a]
theorem Pk(u:Url)(cs:Array Z)(A:Z)(w:H)(h:sY cs A u)(hp:Sl w.heap.size w A (u.path.map S))(c:nc u)(hE:NE w) :
  bF prog 51 #[.agg cs] w (.bool (ti (dA u true))):=by
 have K:=λW (hW:r7 w W)=>rr u cs A true W h ((hp.below hW).more hW.size) c (hE.below hW);have hlen:=RZ u h.ok c true;have J:=h.sz;clear h hp c hE;generalize dA u true=T at K hlen⊢;obtain⟨s,c⟩:=V (E T);have t:s.size=T.length:=by rw[c,aF]
 have e:∀k (L:k<s.size) (B:k<T.length),((s[k]'L).toNat:Int)=G T[k]:=λk L B=>cy c L B
 have hpre:∀W,bP prog 83 #[.string s,.string ⟨#[44]⟩] W (.bool (Lib.hasPrefix T [44])):=λW=>by
  have h:=Any.strings_HasPrefix laysHP s ⟨#[44]⟩ W;rw[show s.data.toList=T by rw[c];exact cW T]at h;exact h
 have R:∀W,bP prog 84 #[.string s,.string ⟨#[44]⟩] W (.bool (Lib.hasSuffix T [44])):=λW=>by
  have h:=Any.strings_HasSuffix laysHS s ⟨#[44]⟩ W M0;rw[show s.data.toList=T by rw[c];exact cW T]at h;exact h
 obtain⟨em,l⟩:=V (T.isEmpty);have hemp:(s.toList.isEmpty)=em:=by rw[c,aB,l]
 have IO:(s.toList=[]) ↔ em=true:=by rw[c,aB,l];simp
 obtain⟨hp,rH,X,n⟩:=ac (Lib.hasPrefix T [44]) (Lib.hasSuffix T [44]);rw[<-rH]at hpre;rw[<-n]at R;dsimp only[S]at K;rw[<-c]at K;clear c;obtain⟨N,hN⟩:=V (s.size);have iP:s.size=N:=hN.symm;have oP:N<=5120000000:=M0;have iV:=F e;clear e;have r:=F t;clear t hlen hN;have xy:=F K;clear K;have eM:=F J;clear J;have UK:=F l;clear l;have tS:=F rH;clear rH;have Q:=F n;clear n;have M:=F hemp;have P:=F IO;clear hemp IO;have a7W:=F hpre;clear hpre;have a75:=F R;clear R;go_enter func51,ntmps51
 go_wp2_with(first|(refine boxed rfl _ _ rfl cs rfl ?_;intro bx w1 hb1 d hb3 v y;obtain⟨HC,HB,pw⟩:=cZ v y d;clear hb1 d hb3 v y)|(refine wpList_load_mid rfl 34 _ rfl bx 0 rfl cs.toList _ (oC 0 (λi=>by rw[bM];exact HC.o i)) underlying34 rfl (by rw[fb,eM.o];kernel_rfl) ?_)|(go_at_call 11;try rw[jh];refine(xy.o _ HB.o).m ?_;rintro e1 w2⟨rfl,d⟩;have q:=F<|HB.o.trans (d.m HB.o.size);clear d))
 go_loopw [4] (λiv wr=>∃k:Nat,k<=N/\iv=.int .i64 k/\Hid (∀j (z:j<T.length),j<k->iW (G T[j])=false)/\w2=wr) (λi _=>N-(intOf i).toNat)
 exact⟨0,M0,Oc,λj _ h=>absurd h (cL j),rfl⟩
 obtain⟨k,L,rfl,f,rfl⟩:=hrel;by_cases hlt:k<N
 ·have mf:k<s.size:=by omega
  have C:k<T.length:=by have:=r.o;omega
  have e:=iV.o k mf C;have a:=λW=>fh (G T[k]) W;have D:=jL T[k];cases p:iW (G T[k])
  ·rw[p]at a
   have MW:=fo (∀j (z:j<T.length),j<k+1->iW (G T[j])=false) (λj z h=>by
    rcases cI j k with Y|Y
    ·exact f.o j z Y
    obtain rfl:j=k:=M0;exact p)
   clear p f;generalize G T[k]=x at e a D;have lZ:=F a;clear a
   go_wp2_with(go_at_call 34;refine(lZ.o _).m ?_;rintro e3 w3⟨rfl,g⟩;subst g)
   go_roundw
   exact⟨k+1,M0,Oc,MW.o,by trivial⟩
   exact aa
  rw[p]at a;have HF:=F<|FI C p;clear p f;generalize G T[k]=x at e a D;have lZ:=F a;clear a
  go_wp2_with(go_at_call 34;refine(lZ.o _).m ?_;rintro e3 w3⟨rfl,g⟩;subst g)
  go_ret;exact⟨by rw[HF.o];rfl,q.o⟩
 obtain rfl:k=N:=M0;have hall:(T.all λx=>!iW (G x))=true:=Y4 λj z=>f.o j z (by have:=r.o;omega)
 have hfit:ti T=(!em && !hp && !X):=by
  unfold ti;rw[hall,<-UK.o,<-tS.o,<-Q.o];rfl
 have a7r:=F hfit;clear hfit hall f;have hemp:=M.o;have IO:=P.o;cases em <;>cases hp <;>cases X
 all_goals
  simp only[eH,iff_false,iff_true]at IO
  go_wp2_with(first|(go_at_call 83;refine(a7W.o _).m ?_;rintro e3 w3⟨rfl,g⟩;subst g)|(go_at_call 84;refine(a75.o _).m ?_;rintro e4 w4⟨rfl,hw4⟩;subst hw4))
  go_ret;exact⟨by rw[a7r.o];rfl,q.o⟩
theorem b0i(x:UInt8)(r:O):Lib.hasPrefix (x::r) [44]=decide (G x=44):=by
 have a:Lib.hasPrefix (x::r) [44]=((44:UInt8)==x):=by simp[Lib.hasPrefix,List.isPrefixOf]
 rw[a];by_cases h:x=44
 ·subst h;rfl
 have I:((44:UInt8)==x)=false:=by simpa using Ne.symm h
 rw[I];symm
 apply gh
 intro Y
 apply h
 apply eZ.mp
 have h4:(x.toNat:Int)=44:=Y;have h5:(44:UInt8).toNat=44:=rfl;omega
theorem b0p(x:UInt8)(r:O):Lib.hasSuffix (r++[x]) [44]=decide (G x=44):=by
 have h:=b0i x r.reverse;unfold Lib.hasSuffix List.isSuffixOf;rw[jK];exact h

theorem EN.sm{u:Url}(h:EN u):nc u:=by
 have Y:=sw u.path;exact⟨by have:=h.aJ;omega,by have:=h.usr;omega,by have:=h.ib;omega,by have:=h.name;omega,by have:=h.flat;omega,by have:=h.path;have:=h.tot;omega,by have:=h.q;omega,by have:=h.f;omega⟩
def zH(G':Prop)(e:Ending):Prop:=∃b,e=.returned (.bool b)/\(b=true->G')
theorem zH.ff:zH G' (.returned (.bool false)):=⟨false,rfl,λh=>(by cases h)⟩
theorem zH.of{b:Bool}(h:b=true->G'):zH G' (.returned (.bool b)):=⟨b,rfl,h⟩

structure eu where
 right:Bool
 url:Url
 words:List O
def bN(A wv:Z)(i:eu):List Z:=.bool i.right::(cu A i.url++[wv])
def sW(B:Nat)(w:H)(b o:Nat)(i:eu):Prop:=∃A wv,w.rangeAt b o (bN A wv i)/\gG i.url/\Sl B w A (i.url.path.map S)/\Sl B w wv (i.words.map S)
def Items(B:Nat)(w:H)(v:Z)(l:List eu):Prop :=
 ∃c,l.length<=c/\((l=[]/\∃a,v=.slice a 0 c)\/∃b o,b<B/\v=.slice (some ⟨b,o,none⟩) l.length c/\∀k (hk:k<l.length),sW B w b (o+k*25) l[k])
theorem sW.below{B b o:Nat}{w:H}{i:eu}(h:sW B w b o i)(U:Below B w w')(d:b<B):sW B w' b o i:=by
 obtain⟨A,wv,Y,I,a,c⟩:=h;exact⟨A,wv,λj v e=>(U.cell (p:=⟨b,o+j,none⟩) d).trans (Y j v e),I,a.below U,c.below U⟩
theorem sW.more{B B' b o:Nat}{w:H}{i:eu}(h:sW B w b o i)(a:B<=B'):sW B' w b o i:=by
 obtain⟨A,wv,Y,I,c,d⟩:=h;exact⟨A,wv,Y,I,c.more a,d.more a⟩
theorem Items.below{B:Nat}{w:H}{v:Z}{l:List eu}(h:Items B w v l)(U:Below B w w'):Items B w' v l:=by
 obtain⟨c,e,h⟩:=h;refine⟨c,e,?_⟩;rcases h with h|⟨b,o,a,g,d⟩
 ·exact .inl h
 exact .inr ⟨b,o,a,g,λk f=>(d k f).below U a⟩
theorem Items.more{B B':Nat}{w:H}{v:Z}{l:List eu}(h:Items B w v l)(a:B<=B'):Items B' w v l:=by
 obtain⟨c,e,h⟩:=h;refine⟨c,e,?_⟩;rcases h with h|⟨b,o,U,g,d⟩
 ·exact .inl h
 exact .inr ⟨b,o,M0,g,λk f=>(d k f).more a⟩
theorem lM{B:Nat}{w:H}{v:Z}{l:List eu}(h:Items B w v l):∃a c,v=.slice a l.length c:=by
 obtain⟨c,hc,h⟩:=h;rcases h with⟨rfl,a,rfl⟩|⟨b,o,_,rfl,_⟩
 ·exact⟨a,c,rfl⟩
 exact⟨_,c,rfl⟩
theorem oh{B:Nat}{w:H}{a:Option Addr}{n c:Nat}{l:List eu}(h:Items B w (.slice a n c) l)(k:Nat)(d:k<l.length) :
  ∃b o,a=some ⟨b,o,none⟩/\b<B/\sW B w b (o+k*25) l[k]:=by
 obtain⟨c',_,h⟩:=h;rcases h with⟨rfl,_⟩|⟨b,o,U,f,e⟩
 ·simp at d
 injection f with Y I h3
 exact⟨b,o,Y,U,e k d⟩
theorem iK(A:Z)(u:Url)(ok:gG u):(cu A u).length=23:=by
 simp[cu,aS,ok.h.l]
theorem qX(A wv:Z)(i:eu)(ok:gG i.url):(bN A wv i).length=25:=by
 simp[bN,iK A i.url ok]
theorem Aq{w:H}{b o:Nat}{A wv:Z}{i:eu}(h:w.rangeAt b o (bN A wv i)):w.rangeAt b (o+1) (cu A i.url):=by
 intro j v a
 have:=h (j+1) v (by
  have c:=(bh.1 a).1;unfold bN;rw[dx,cX c];exact a)
 rw[show o+1+j=o+(j+1) by omega];exact this
theorem Lt{w:H}{b o:Nat}{A wv:Z}{i:eu}(ok:gG i.url)(h:w.rangeAt b o (bN A wv i)):w.cell? ⟨b,o+24,none⟩=some wv:=by
 refine h 24 wv ?_;unfold bN;rw[dx,dB (by rw[iK A i.url ok];omega),iK A i.url ok];rfl
theorem cells_one(A wv:Z)(i:eu)(hp:A.oneCell'=true)(hw:wv.oneCell'=true):(bN A wv i).toArray.all (·.oneCell')=true:=by
 refine all_oneCell_toArray λv a=>?_;simp only[bN,cu,aS,aK,bO,dt,cV,or_false]at a;rcases a with rfl|((((rfl|rfl|rfl)|(rfl|rfl|rfl|⟨n,_,rfl⟩))|h)|rfl)
 all_goals first|rfl|assumption|skip
 rcases h with rfl|rfl|rfl|rfl|rfl|rfl|rfl|rfl|rfl
 all_goals first|rfl|assumption
theorem rq{B:Nat}{w:H}{v:Z}{xs:List Z}(h:Sl B w v xs):v.oneCell'=true:=by
 obtain⟨a,c,rfl⟩:=cQ h;rfl
def ZI:Array Z:=#[.bool false,.string ⟨#[]⟩,.string ⟨#[]⟩,.string ⟨#[]⟩,.int .i64 0,.string ⟨#[]⟩,.int .u32 0,.int .u16 0,.int .u16 0,.int .u16 0,.int .u16 0,.int .u16 0,.int .u16 0,.int .u16 0,.int .u16 0,.bool false,.int .i64 0,.bool false,.string ⟨#[]⟩,.slice none 0 0,.bool false,.string ⟨#[]⟩,.bool false,.string ⟨#[]⟩,.slice none 0 0]
theorem allI(w:H):(Instr.alloc 48 true (Value.tuple #[])).run prog w=.ok (.pointer (some ⟨w.heap.size,0,none⟩)) (w.alloc (.cells ZI 48)):=Rz
def Kb(nb:Nat)(C:Array Z)(w:H):Prop:=w.heap[nb]?= some (.cells C 48 (0,0))
theorem Kb.cell{nb:Nat}{C:Array Z}{w:H}(h:Kb nb C w)(i:Nat):w.cell? ⟨nb,i,none⟩=C[i]?:=Go.Joins.cell_of_block h i
theorem Kb.below{nb:Nat}{C:Array Z}{w:H}(h:Kb nb C w)(U:r7 w w'):Kb nb C w':=by
 have a:nb<w.heap.size:=by
  rcases cI nb w.heap.size with a|c
  ·exact a
  unfold Kb at h;rw[cD c]at h;cases h
 exact(U.block nb a).trans h
theorem Kb.fr{nb:Nat}{C:Array Z}{w:H}{b:Nat}{g:Option Nat}{l:O}(h:Kb nb C w)(c:sR b g l w)(m:Fr (λk=>k=b\/g=some k) w w'):Kb nb C w':=by
 have a:nb<w.heap.size:=by
  rcases cI nb w.heap.size with a|f
  ·exact a
  unfold Kb at h;rw[cD f]at h;cases h
 refine(m.block nb a ?_).trans h
 have key:∀p,ql p b g l w->¬(nb=b\/g=some nb):=by
  rintro p⟨v,U,n,i⟩ X;unfold Kb at h;rcases X with rfl|X
  ·rw[U]at h
   injection h with h
   injection h with _ h
   revert h;decide
  rcases n.2 with⟨rfl,_⟩|⟨j,cap,cur,rfl,_,d,_⟩
  ·rw[<-i]at X;cases X
  have e:j=nb:=by rw[<-i]at X;injection X
  rw[e]at d;rw[d]at h;injection h with h
  injection h with _ h
  revert h;decide
 rcases c with c|c
 ·exact key _ c
 exact key _ c
theorem Hb.ws2{w:H}{l:O}{nb:Nat}{C:Array Z}(m:O)(h:Hb wb l w)(d:Kb nb C w)(hlen:l.length+m.length<=1099511627776) :
  Calls prog 27 #[.pointer (some ⟨wb.heap.size,0,none⟩),S m] w λe w'=>e=.returned (.tuple #[.int .i64 m.length,.nilIface])/\Hb wb (l++m) w'/\Kb nb C w':=by
 obtain⟨g,Y,I⟩:=h.bld;refine(py m Y hlen).m ?_;rintro e w'⟨rfl,a⟩;refine⟨rfl,Hb.Ax I h.bL a,?_⟩;obtain⟨_,_,_,c⟩:=a;exact d.fr Y c
theorem Hb.wb2{w:H}{l:O}{nb:Nat}{C:Array Z}(m:UInt8)(n:Int)(f:n=G m)(h:Hb wb l w)(d:Kb nb C w)(hlen:l.length+1<=1099511627776) :
  Calls prog 28 #[.pointer (some ⟨wb.heap.size,0,none⟩),.int .u8 n] w λe w'=>e=.returned .nilIface/\Hb wb (l++[m]) w'/\Kb nb C w':=by
 subst f;obtain⟨g,Y,I⟩:=h.bld;refine(pM m Y hlen).m ?_;rintro e w'⟨rfl,a⟩;refine⟨rfl,Hb.Ax I h.bL a,?_⟩;obtain⟨_,_,_,c⟩:=a;exact d.fr Y c
def du(l:List O):O:=l.flatMap λx=>[32]++x
def eS(i:eu):O:=dA i.url true++du i.words
def ij:List eu->O
 | []=>[]
 |x::r=>eS x++r.flatMap λy=>[44,32]++eS y
theorem Ef(l:List O)(k:Nat)(a:k<l.length):du (l.take (k+1))=du (l.take k)++[32]++l[k]:=by
 unfold du;rw[aH a,dL,cM,uj,aV,bB]
theorem Gn(l:List eu)(k:Nat)(c:k<l.length):ij (l.take (k+1))=ij (l.take k)++(if k=0 then []else [44,32])++eS l[k]:=by
 cases l with
 |nil=>simp at c
 |cons x r =>
  cases k with
  |zero=>simp[ij]
  |succ k =>
   have a:k<r.length:=by simpa using c
   rw[dM,dM,gc M0];simp only[ij,b1m];rw[aH a,dL,cM,uj,aV];simp only[bB]

theorem CY{B:Nat}{w:H}{v:Z}{l:List eu}(h:Items B w v l):∀i∈l,gG i.url:=by
 intro i hi;obtain⟨k,d,rfl⟩:=cC hi;obtain⟨a,c,rfl⟩:=lM h;obtain⟨b,o,_,_,⟨_,_,_,I,_,_⟩⟩:=oh h k d;exact I
theorem a0V{rest:List Oper}{o:Oper}{a:Act}{w:H}{Q:Exit->Act->H->Prop}(c:o.guard=none)(x y:Operand)(e:o.op=.store 48 x y)(A wv:Z)(it:eu)
  (X:a.eval x=.pointer (some ⟨w.heap.size,0,none⟩)) (hy:a.eval y=.agg (bN A wv it).toArray) (ok:gG it.url) (Y:(bN A wv it).toArray.all (·.oneCell')=true)
  (h:wpList prog ops Q rest (a.put o.dst undef) (w.alloc (.cells (bN A wv it).toArray 48))):wpList prog ops Q (o::rest) a (w.alloc (.cells ZI 48)):=by
 have d:=qX A wv it ok;exact gy c 48 x y e (bN A wv it).toArray ZI 48 X hy (by rw[fZ,d];kernel_rfl) (by rw[show(bN A wv it).toArray.size=25 by rw[fZ,d]];rfl) Y h
theorem a0n{nb:Nat}{A wv:Z}{it:eu}{w:H}(h:Kb nb (bN A wv it).toArray w):w.rangeAt nb 1 (cu A it.url):=by
 have a:w.rangeAt nb 0 (bN A wv it):=λj v c=>by
  rw[bM,h.cell j,cf];exact c
 exact Aq a
theorem QE{nb:Nat}{A wv:Z}{it:eu}{w:H}(ok:gG it.url)(h:Kb nb (bN A wv it).toArray w):w.cell? ⟨nb,24,none⟩=some wv:=by
 have a:w.rangeAt nb 0 (bN A wv it):=λj v c=>by
  rw[bM,h.cell j,cf];exact c
 have:=Lt ok a;rw[bM]at this;exact this
theorem MO(l:List O)(k:Nat):(du (l.take k)).length<=(du l).length:=by
 have h:du l=du (l.take k)++du (l.drop k):=by
  unfold du;rw[<-List.flatMap_append,cT]
 rw[h,ae];omega
theorem Ee:∀l:List O,l.length<=(du l).length
 | []=>ag _
 |x::r=>by
  have:=Ee r;simp only[du,cM,ae,cz,aO]at this⊢;omega
theorem Hn{l:List O}{x:O}(h:x∈l):x.length<=(du l).length:=by
 obtain⟨a,b,rfl⟩:=List.append_of_mem h;simp only[du,dL,cM,ae];omega
theorem QL(l:List eu)(k:Nat):(ij (l.take k)).length<=(ij l).length:=by
 cases l with
 |nil=>simp
 |cons x r =>
  cases k with
  |zero=>exact aL _
  |succ k =>
   have h:(r.flatMap λy=>[44,32]++eS y)=((r.take k).flatMap λy=>[44,32]++eS y)++((r.drop k).flatMap λy=>[44,32]++eS y):=by
    rw[<-List.flatMap_append,cT]
   rw[dM];show(eS x++_).length<=(eS x++_).length;rw[h];simp only[ae];omega
theorem KM(l:List eu)(v:Z)(w:H)(h:Items w.heap.size w v l)(hs:∀i∈l,nc i.url)(hm:(ij l).length<=150000000000)(hn:l.length<=1000000000)(hE:NE w) :
  bF prog 39 #[v] w (S (ij l)):=by
 have f:=CY h;obtain⟨av,cc,hv⟩:=lM h;subst hv;obtain⟨N,hN⟩:=V (l.length);have oP:N<=1000000000:=M0;have hlk:∀k,(ij (l.take k)).length<=150000000000:=λk=>am (QL l k) hm;rw[<-hN]at h⊢;obtain⟨HI,HS,Kd,HN,HLK,HE⟩:=ee h hs f hN hlk hE;clear h hs f hN hlk hE hn hm;go_enter func39,ntmps39;go_wp2_with fail
 go_loopw [10] (λiv wr=>∃k:Nat,k<=N/\iv=.int .i64 k/\Hid (Hb w (ij (l.take k)) wr)) (λi _=>N-(intOf i).toNat)
 exact⟨0,M0,Oc,Hb.fresh w⟩
 obtain⟨k,hk,rfl,r⟩:=hrel;by_cases hlt:k<N
 ·have L:k<l.length:=by rw[<-HN.o];exact hlt
  have Lf:(k:Int)<N:=M0;obtain⟨b,o,rfl,hbb,hat⟩:=oh HI.o k L;obtain⟨A,wv,Q,f,t,d⟩:=hat;have u:=HS.o _ (be L);have a:=Gn l k L;have hl0:=HLK.o k;have P:=HLK.o (k+1);generalize l[k]=it at Q f t d u a;generalize ij (l.take k)=T at r a hl0
  have hL:T.length+2+(eS it).length<=150000000002:=by
   rw[a]at P;simp only[ae]at P;omega
  have hcl:=qX A wv it f;have hone:=cells_one A wv it (rq t) (rq d);have IM:sY (cu A it.url).toArray A it.url:=lV A f;have huc:=iK A it.url f;have pV:=λ(W:H) (hW:r7 w W) (hp:Sl W.heap.size W A (it.url.path.map S))=>rr it.url _ A true W IM hp u (HE.o.below hW);have a4z:World.rangeAt _ b (o+k*25) (bN A wv it):=λj v hj=>(r.o.bL.cell (p:=⟨b,o+k*25+j,none⟩) hbb).trans (Q j v hj);have EE:=F a4z;clear a4z;obtain⟨a2p,HPV,HWV,YF,uh,xM,xl,TF⟩:=er f t d u a hL hcl hone;have HUC:=F huc;have xy:=F pV;clear Q f t d u a hL hcl hone huc pV IM hl0 P hlt
  go_upto_region 5 with(first|(refine wpList_load_mid rfl 48 _ rfl b (o+k*25) rfl (bN A wv it) _ EE.o underlying48 rfl (by rw[xl.o];kernel_rfl) ?_)|(refine aM rfl 48 rfl _ _ (allI _) ?_)|(refine a0V rfl 5 14 rfl A wv it rfl rfl a2p.o TF.o ?_))
  have q:Kb wr.heap.size (bN A wv it).toArray (wr.alloc (.cells (bN A wv it).toArray 48)):=jp wr _;have c:Hb w T (wr.alloc (.cells (bN A wv it).toArray 48)):=r.o.step ((gT _ _).alloc (ag _) _);generalize wr.heap.size=nb at q c⊢;generalize wr.alloc (.cells (bN A wv it).toArray 48)=w2 at q c⊢;clear r EE;obtain⟨wa,wc,d⟩:=cQ HWV.o;rw[ay]at d;obtain⟨M,HM⟩:=ey (it.words.length);rw[<-HM.o]at d
  have a9A:(dA it.url true).length+(du it.words).length<=150000000002:=by
   have Y:(eS it).length=(dA it.url true).length+(du it.words).length:=by unfold eS;rw[ae]
   have:=xM.o;omega
  have hMm:M<=150000000002:=by have:=HM.o;have:=Ee it.words;omega
  have a9z:(dA it.url true).length<=150000000002:=M0;have a4N:∀j,(du (it.words.take j)).length<=150000000002:=λj=>by have:=MO it.words j;omega
  have a4Q:∀x∈it.words,x.length<=150000000002:=λx X=>by have:=Hn X;omega
  have a8g:=F a4N;clear a4N;have a8i:=F a4Q;clear a4Q a9A;have hif:eS it=dA it.url true++du it.words:=rfl;have HIF:=F hif;clear hif;have hTl:T.length+2<=150000000002:=by have:=xM.o;omega
  have hsep:k=0\/(0:Int)<k:=M0;rcases hsep with J|J
  all_goals first
   | (skip
      have a:=uh.o;rw[ge J,aV]at a;have b4E:¬(0:Int)<k:=M0;clear J;obtain⟨z,g⟩:=V (T);rw[<-g]at a c;have a9g:z.length<=150000000002:=by rw[g];omega
      obtain⟨n,UF,a2D⟩:=cZ c q a;clear g c q a uh;generalize w2=w3 at n UF⊢
      go_upto_region 7 with fail)
   | (skip
      have a:=uh.o;rw[gc M0]at a;obtain⟨z,g⟩:=V (T++[44,32]);rw[<-g]at a;have a9g:z.length<=150000000002:=by rw[g,ae];simp;omega
      obtain⟨HT1,B,SZ,a2D⟩:=dT g c q a;clear g c q a uh
      go_upto_region 7 with(go_at_call 27;refine(Hb.ws2 [44,32] B.o SZ.o (by simp;omega)).m ?_;rintro e w3⟨rfl,hb3,hk3⟩;have n:=F<|HT1.o▸hb3;have UF:=F hk3;clear hb3 hk3))
  all_goals
   generalize dA it.url true=R at xy HIF a9z
   go_wp2_with(first|(refine wpList_load_mid rfl 34 _ rfl nb 1 rfl (cu A it.url) _ (a0n UF.o) underlying34 rfl (by rw[HUC.o];kernel_rfl) ?_)|(go_at_call 11;refine(xy.o _ n.o.bL ((HPV.o.below n.o.bL).more n.o.bL.size)).k λw4 C=>?_;have eI:=F<|n.o.step C.o;have HK4:=F<|UF.o.below C.o;clear C)|(go_at_call 27;refine(Hb.ws2 R eI.o HK4.o M0).m ?_;rintro e w5⟨rfl,hb5,K⟩;have cw:=(QE a2p.o K).trans (congrArg some d);have gD:=F hb5;have HK5:=F K;clear hb5 K))
   have a8j:=F d;clear d cw
   go_loopw [25] (λjv wr=>∃j:Nat,j<=M/\jv=.int .i64 j/\Hid (Hb w (z++R++du (it.words.take j)) wr)/\Hid (Kb nb (bN A wv it).toArray wr)) (λj _=>M-(intOf j).toNat)
   exact⟨0,M0,Oc,(by have:=gD.o;show Hb w (z++R++du []) _;rw[show du []=[]from rfl,aV];exact this),HK5.o⟩
   obtain⟨j,hj,rfl,s,hkj⟩:=hrel;by_cases hjl:j<M
   ·have D:j<it.words.length:=by rw[<-HM.o];exact hjl
    have Z9:=HWV.o.below s.o.bL;rw[a8j.o]at Z9;obtain⟨wb,wo,rfl,hwb,hwc⟩:=gO Z9 j D;have y:=Ef it.words j D;have hwl:=a8i.o _ (be D);have hf1:=a8g.o j;generalize it.words[j]=word at hwc y hwl;generalize du (it.words.take j)=U' at s y hf1;have HWT:=F y;clear y Z9;have hLn:(z++R++U').length<=450000000006:=by rw[ae,ae];omega
    go_wp2_with(first|(go_at_call 28;refine(Hb.wb2 32 _ rfl s.o hkj.o M0).m ?_;rintro e w6⟨rfl,hb6,hk6⟩;have j8:=F hb6;have HK6:=F hk6;clear hb6 hk6)|(go_at_call 27;refine(Hb.ws2 word j8.o HK6.o (by rw[ae];simp only[cz,aO];omega)).m ?_;rintro e w7⟨rfl,Em,hk7⟩;have IF:=F Em;have HK7:=F hk7;clear Em hk7))
    have h7:Hb w (z++R++du (it.words.take (j+1))) w7:=by
     have h:=IF.o;rw[HWT.o];simp only[bB]at h⊢;exact h
    have H7:=F h7;clear h7;go_roundw
    ·first
      |exact⟨j+1,M0,Oc,H7.o,HK7.o⟩
      |((repeat apply Exists.intro);exact⟨⟨j+1,M0,Oc,H7.o,HK7.o⟩,rfl⟩)
    ·simp[intOf];omega
   obtain rfl:j=M:=M0
   have hU:z++R++du (it.words.take j)=ij (l.take (k+1)):=by
    rw[HM.o,di,a2D.o,HIF.o,bB]
   have HU:=F<|hU▸s.o;clear hU s;go_wp2_with fail;go_roundw
   ·first
     |exact⟨k+1,M0,Oc,HU.o⟩
     |((repeat apply Exists.intro);exact⟨⟨k+1,M0,Oc,HU.o⟩,rfl⟩)
   ·simp[intOf];omega
 obtain rfl:k=N:=M0
 go_wp2_with(go_at_call 33;refine(Hb.str r.o).k λw2 B=>?_)
 go_ret;refine⟨?_,B.o⟩;rw[HN.o,di];rfl

def Pj(l:List eu):O:=match l with | []=>[]|i::_=>dA i.url true
def ye(k:Int)(l:List eu)(d:O):O:=if k=1 then Pj l else if k=2 then ij l else if k=3 then iA d true (Pj l)else []
def kK(k:Int)(l:List eu)(d:O):O:=if l=[]then []else qM (ye k l d)
theorem Pa:qM []=[]:=rfl
theorem FC(kind:Int)(l:List eu)(v:Z)(d:O)(w:H)(h:Items w.heap.size w v l)(hs:∀i∈l,nc i.url)(hm:(ij l).length<=150000000000)(hn:l.length<=1000000000)(hd:d.length<=100000)(hE:NE w) :
  bF prog 15 #[.int .i64 kind,.agg #[v,S d]] w (S (kK kind l d)):=by
 have hok:=CY h;have hlist:=λ(W:H) (s:r7 w W)=>KM l v W ((h.below s).more s.size) hs hm hn (hE.below s);have FS:=λ(x:O) (W:H) (X:x.length<=200000000000)=>FB x W X;obtain⟨av,cc,hv⟩:=lM h;subst hv;have W6:=F hlist;clear hlist;have JZ:=F FS;clear FS;cases l with
 |nil =>
  go_enter func15,ntmps15;go_wp2_with fail;go_ret;exact⟨rfl,(gT _ _).alloc (ag _) _⟩
 |cons it r =>
  obtain⟨b,o,rfl,hbb,y⟩:=oh h 0 Oc;simp only[gZ,c4q,dH]at y;obtain⟨A,wv,J,ZU,C,hwv⟩:=y;have K:=hs it fA;have IM:sY (cu A it.url).toArray A it.url:=lV A ZU;have L:=iK A it.url ZU;have pV:=λ(W:H) (s:r7 w W)=>rr it.url _ A true W IM ((C.below s).more s.size) K (hE.below s)
  have hsl:(dA it.url true).length<=(ij (it::r)).length:=by
   show _<=(eS it++_).length;unfold eS;simp only[ae];omega
  have u:∀W,r7 w W->W.rangeAt b (o+1) (cu A it.url):=λW s j v hj=>(s.cell (p:=⟨b,o+1+j,none⟩) hbb).trans (Aq J j v hj);have hw:kK kind (it::r) d=qM (ye kind (it::r) d):=rfl;have a:ye kind (it::r) d=if kind=1 then dA it.url true else if kind=2 then ij (it::r)else if kind=3 then iA d true (dA it.url true)else []:=rfl;obtain⟨N,hN⟩:=V ((it::r).length);have hN0:(0:Int)<N:=by rw[hN,cz];omega
  have hN1:¬(N:Int)=0:=M0;rw[<-hN]at W6⊢;have a9J:(ij (it::r)).length<=200000000000:=am hm P8
  have hrl:(iA d true (dA it.url true)).length<=200000000000:=by
   simp only[iA,if_true,ae,cz,aO];omega
  generalize ij (it::r)=LI at *;generalize kK kind (it::r) d=WR at *;generalize ye kind (it::r) d=BO at *;generalize dA it.url true=SE at *;have D:=λW=>V5 d SE true W M0 M0;generalize iA d true SE=RF at *;obtain⟨xy,EE,t,T,M,Q⟩:=ee pV u L D hw a;clear pV u L D hw a h hs hn hE hok J ZU C hwv K IM hN;have hbel:∀o,Below w.heap.size w (w.alloc o):=λo=>(gT w.heap.size w).alloc (ag _) o;have n:=F hbel;clear hbel;by_cases P:kind=1
  ·have a:=Q.o
   rw[ge P]at a;have hw:=M.o;rw[a]at hw;have k:=F hw;clear a hw;go_enter func15,ntmps15
   go_wp2_with(first|(refine wpList_load_mid rfl 34 _ rfl b (o+1) rfl (cu A it.url) _ (EE.o _ (n.o _)) underlying34 rfl (by rw[t.o];kernel_rfl) ?_)|(go_at_call 11;refine(xy.o _ (n.o _)).k λw2 c=>?_;have f:=F<|(n.o _).trans (c.o.m (n.o _).size);clear c)|(go_at_call 38;refine(JZ.o SE _ M0).k λw3 g=>?_;have q:=F<|f.o.trans (g.o.m f.o.size);clear g))
   go_ret;exact⟨by rw[k.o];rfl,q.o⟩
  by_cases k2:kind=2
  ·have a:=Q.o
   rw[gc P,ge k2]at a;have hw:=M.o;rw[a]at hw;have k:=F hw;clear a hw;go_enter func15,ntmps15
   go_wp2_with(first|(go_at_call 39;refine(W6.o _ (n.o _)).k λw2 c=>?_;have f:=F<|(n.o _).trans (c.o.m (n.o _).size);clear c)|(go_at_call 38;refine(JZ.o LI _ a9J).k λw3 g=>?_;have q:=F<|f.o.trans (g.o.m f.o.size);clear g))
   go_ret;exact⟨by rw[k.o];rfl,q.o⟩
  by_cases k3:kind=3
  ·have a:=Q.o
   rw[gc P,gc k2,ge k3]at a;have hw:=M.o;rw[a]at hw;have k:=F hw
   have B:∀W,Below (w.heap.size+1) (w.alloc (.cells #[.slice (some ⟨b,o,none⟩) N cc,S d] 45)) W->W.cell? ⟨w.heap.size,1,none⟩=some (S d):=λW s=>by
    rw[s.cell (p:=⟨w.heap.size,1,none⟩) Oc];rw[hx];rfl
   have R:=F B;clear a hw B;go_enter func15,ntmps15
   go_wp2_with(first|(refine wpList_load_mid rfl 34 _ rfl b (o+1) rfl (cu A it.url) _ (EE.o _ (n.o _)) underlying34 rfl (by rw[t.o];kernel_rfl) ?_)|(go_at_call 11;refine(xy.o _ (n.o _)).k λw2 c=>?_;have c1:=R.o _ (c.o.m Oc);have f:=F<|(n.o _).trans (c.o.m (n.o _).size);clear c)|(go_at_call 40;refine(T.o _).k λw4 z=>?_;have eI:=F<|f.o.trans (z.o.m f.o.size);clear z)|(go_at_call 38;refine(JZ.o RF _ hrl).k λw3 g=>?_;have q:=F<|eI.o.trans (g.o.m eI.o.size);clear g))
   go_ret;exact⟨by rw[k.o];rfl,q.o⟩
  have a:=Q.o;rw[gc P,gc k2,gc k3]at a;have hw:=M.o;rw[a,Pa]at hw;have k:=F hw;clear a hw;go_enter func15,ntmps15;go_wp2_with fail;go_ret;exact⟨by rw[k.o];rfl,n.o _⟩

def hA:gF:=⟨2,[97],0,[0,0,0,0,0,0,0,0]⟩
theorem a3l(w:H):(Instr.build 32 #[(0,.int .i64 2),(1,.string ⟨#[97]⟩)]).run prog w=.ok (.agg (aS hA).toArray) w:=Rz
section
variable {ops:Array Oper} {rest:List Oper} {o:Oper} {a:Act} {w:H} {Q:Exit->Act->H->Prop}
theorem yg(c:o.guard=none)(t:TypeId)(n:Nat)(parts:Array (Nat×Operand))(d:o.op=.buildSlice t n parts)(v:Z)(w':H)(xs:Array (Nat×Z))(X:parts.map (λ(i,x)=>(i,a.eval x))=xs)(e:(Instr.buildSlice t n xs).run prog w=.ok v w')(h:wpList prog ops Q rest (a.put o.dst v) w'):wpList prog ops Q (o::rest) a w:=by
 refine wpList_plain c λK hK=>?_;subst X;unfold Oper.wp execOp;simp only[d,h2,io,h1,e];exact hK _ _ h
theorem N4(c:o.guard=none)(d:o.op=.build 32 #[(0,.const (.int .i64 2)),(1,.const (.string ⟨#[97]⟩))])(h:wpList prog ops Q rest (a.put o.dst (.agg (aS hA).toArray)) w):wpList prog ops Q (o::rest) a w :=
 bR c 32 _ d (.agg (aS hA).toArray) #[(0,.int .i64 2),(1,.string ⟨#[97]⟩)] (by simp[Act.eval]) a3l h
end
theorem Wl(W:H)(s:O):Sl (W.alloc (.cells #[S s] 9)).heap.size (W.alloc (.cells #[S s] 9)) (.slice (some ⟨W.heap.size,0,none⟩) 1 1) ([s].map S):=by
 refine⟨1,Oc,by unfold maxLen;omega,.inr ⟨W.heap.size,0,Oc,rfl,λj d=>?_⟩⟩;have c:j=0:=by simpa using d
 subst c;rw[hx];rfl
section
variable {ops:Array Oper} {rest:List Oper} {o:Oper} {a:Act} {w:H} {Q:Exit->Act->H->Prop}
end
theorem lm{P:Program}{rest:List Oper}{op:Oper}{a:Act}{w:H}{Q:Exit->Act->H->Prop}(hw:Region.wanted op (yielded ops a.tmps)=true)(ty:TypeId)(x:Operand)(e:op.op=.load ty x)
  (b o:Nat) (X:a.eval x=.pointer (some ⟨b,o,none⟩)) (cs:List Z) (d:TypeDesc) (c:w.rangeAt b o cs)
  (hu:P.underlying ty=some d) (hd:d.isRow=true) (hi:(P.info? ty).map (·.size)=some cs.length)
  (h:wpList P ops Q rest (a.put op.dst (.agg cs.toArray)) w):wpList P ops Q (op::rest) a w:=by
 unfold wpList;rw[ge hw];exact .inl (wp_load_mid ty x e b o X cs d c hu hd hi h)
