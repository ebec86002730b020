import Derived.Test.YtagfilhbpnjhkaaGreatDoorFGTextA
import Derived.Test.YtagfilhbpnjhkaaGreatDoorShel
set_option maxRecDepth 10000
set_option maxHeartbeats 0
namespace Go.Proofs.Q
open Tryz Go.RowKit
def iO(l:O)(c:Int):Bool:=l.any λx=>G x==c
def pJ(set:Int):O :=
 if set=1 then [32,34,60,62,96]else if set=2 then [32,34,35,60,62]else if set=3 then [32,34,35,60,62,39]else if set=4 then [32,34,35,60,62,63,94,96,123,125]
 else if set=5 then [32,34,35,60,62,63,94,96,123,125,47,58,59,61,64,91,92,93,124]
 else if set=6 then [32,34,35,60,62,63,94,96,123,125,47,58,59,61,64,91,92,93,124,36,37,38,43,44]else []
def jU(c:Int):Bool:=decide (c<32\/126<c)
def k6(set c:Int):Bool:=if set<0\/6<set then false else jU c||iO (pJ set) c
theorem oe:∀(l:O) (x:UInt8),(0<=Lib.indexByte l x) ↔ iO l (G x)=true
 | [],x=>by simp[Lib.indexByte,iO]
 |y::l,x=>by
  have c:=oe l x
  have a:(G y=G x) ↔ y=x:=by
   constructor
   ·intro h
    apply eZ.mp
    have Y:(y.toNat:Int)=x.toNat:=h;omega
   rintro rfl;rfl
  unfold Lib.indexByte;by_cases h:y=x
  ·subst h
   simp[iO]
  have I:(y==x)=false:=by simpa using h
  have d:iO (y::l) (G x)=iO l (G x):=by
   have:(G y==G x)=false:=by simpa using λe=>h (a.mp e)
   simp[iO,this]
  rw[I,d];simp only[eH,if_false];by_cases Y:Lib.indexByte l x=-1
  ·rw[<-c,Y];simp
  have f:(Lib.indexByte l x == -1)=false:=by simpa using Y
  rw[f];simp only[eH,if_false];rw[<-c]
  have:-1<=Lib.indexByte l x:=by
   clear c Y f d I h a
   induction l with
   |nil=>simp[Lib.indexByte]
   |cons z l c =>
    unfold Lib.indexByte
    split
    ·omega
    split
    ·omega
    omega
  omega
theorem lC(l:O)(c:Int)(j:0<=c)(Y:c<256)(w:H):bP prog 231 #[.string (E l),.int .u8 c] w (.bool (iO l c)):=by
 obtain⟨x,rfl⟩:∃x:UInt8,c=G x:=⟨UInt8.ofNat c.toNat,by simp[G];omega⟩;have d:=λW=>Any.strings_IndexByte laysIB (E l) (G x) W;rw[show(E l).data.toList=l from cW l,show(G x).toNat.toUInt8=x by simp[G]]at d;have f:∀W,bP prog 98 #[.string (E l),.int .u8 (G x)] W (.int .i64 (Lib.indexByte l x)):=d;have hi:=oe l x;generalize Lib.indexByte l x=I' at f hi;generalize iO l (G x)=a at hi⊢;have i:=F f;clear f d j Y;have h:=F hi;clear hi;go_enter func231,ntmps231
 go_wp2_with(go_at_call 98;refine(i.o _).e ?_)
 all_goals
  go_ret;refine⟨eA ?_,rfl⟩;have:=h.o;cases a <;>simp_all

theorem pR(l m:O)(c:Int):iO (l++m) c=(iO l c||iO m c):=by simp[iO]
theorem Qn(c:Int) :
  k6 0 c=jU c/\k6 2 c=(iO [32,34,35,60,62] c||jU c) /\
  k6 4 c=(iO [63,94,96,123,125] c||(iO [32,34,35,60,62] c||jU c)) /\
  k6 5 c=(iO [47,58,59,61,64,91,92,93,124] c||(iO [63,94,96,123,125] c||(iO [32,34,35,60,62] c||jU c))) /\
  k6 6 c=(iO [36,37,38,43,44] c||(iO [47,58,59,61,64,91,92,93,124] c||(iO [63,94,96,123,125] c||(iO [32,34,35,60,62] c||jU c)))) /\
  k6 3 c=(decide (c=39)||k6 2 c)/\k6 1 c=(iO [32,34,60,62,96] c||k6 0 c):=by
 have j:pJ 4=[32,34,35,60,62]++[63,94,96,123,125]:=rfl;have k:pJ 5=([32,34,35,60,62]++[63,94,96,123,125])++[47,58,59,61,64,91,92,93,124]:=rfl;have l:pJ 6=(([32,34,35,60,62]++[63,94,96,123,125])++[47,58,59,61,64,91,92,93,124])++[36,37,38,43,44]:=rfl;have i:pJ 3=[32,34,35,60,62]++[39]:=rfl
 have g:iO [39] c=decide (c=39):=by
  have:(G 39==c)=decide (c=39):=by
   by_cases h:c=39
   ·subst h;rfl
   have:(G 39==c)=false:=by simpa[G]using λe=>h e.symm
   simp[this,h]
  simp[iO,this]
 refine⟨?_,?_,?_,?_,?_,?_,?_⟩
 ·simp[k6,pJ,iO]
 ·show(if(2:Int)<0\/6<(2:Int)then false else jU c||iO [32,34,35,60,62] c)=_
  rw[gc M0,Bool.or_comm]
 ·show(if(4:Int)<0\/6<(4:Int)then false else jU c||iO (pJ 4) c)=_
  rw[gc M0,j,pR];generalize jU c=a,iO [32,34,35,60,62] c=b,iO [63,94,96,123,125] c=d;revert a b d;decide
 ·show(if(5:Int)<0\/6<(5:Int)then false else jU c||iO (pJ 5) c)=_
  rw[gc M0,k,pR,pR];generalize jU c=a,iO [32,34,35,60,62] c=b,iO [63,94,96,123,125] c=d,iO [47,58,59,61,64,91,92,93,124] c=e;revert a b d e;decide
 ·show(if(6:Int)<0\/6<(6:Int)then false else jU c||iO (pJ 6) c)=_
  rw[gc M0,l,pR,pR,pR];generalize jU c=a,iO [32,34,35,60,62] c=b,iO [63,94,96,123,125] c=d,iO [47,58,59,61,64,91,92,93,124] c=e,iO [36,37,38,43,44] c=f;revert a b d e f;decide
 ·show(if(3:Int)<0\/6<(3:Int)then false else jU c||iO (pJ 3) c)=(_||if(2:Int)<0\/6<(2:Int)then false else jU c||iO [32,34,35,60,62] c)
  rw[gc M0,gc M0,i,pR,g];generalize jU c=a,iO [32,34,35,60,62] c=b,decide (c=39)=d;revert a b d;decide
 show(if(1:Int)<0\/6<(1:Int)then false else jU c||iO [32,34,60,62,96] c)=(_||if(0:Int)<0\/6<(0:Int)then false else jU c||iO [] c);rw[gc M0,gc M0];have:iO [] c=false:=rfl;rw[this];generalize jU c=a,iO [32,34,60,62,96] c=b;revert a b;decide
theorem Gf(set c:Int)(l:0<=c)(Y:c<256)(y:set=0\/set=2\/set=4\/set=5\/set=6)(w:H):bP prog 208 #[.int .i64 set,.int .u8 c] w (.bool (k6 set c)):=by
 obtain⟨i0,i2,i4,i5,n,-,-⟩:=Qn c;obtain⟨s,d,t,f,u,g,v,j⟩:=aA (iO [32,34,35,60,62] c) (iO [63,94,96,123,125] c) (iO [47,58,59,61,64,91,92,93,124] c) (iO [36,37,38,43,44] c);rw[<-d]at i2;rw[<-d,<-f]at i4;rw[<-d,<-f,<-g]at i5;rw[<-d,<-f,<-g,<-j]at n;have m2:Hid (∀W,bP prog 231 #[.string {data:=#[32,34,35,60,62]},.int .u8 c] W (.bool s)):=F (λW=>by rw[d];exact lC [32,34,35,60,62] c l Y W);have m4:Hid (∀W,bP prog 231 #[.string {data:=#[63,94,96,123,125]},.int .u8 c] W (.bool t)):=F (λW=>by rw[f];exact lC [63,94,96,123,125] c l Y W);have m5:Hid (∀W,bP prog 231 #[.string {data:=#[47,58,59,61,64,91,92,93,124]},.int .u8 c] W (.bool u)):=F (λW=>by rw[g];exact lC [47,58,59,61,64,91,92,93,124] c l Y W);have m6:Hid (∀W,bP prog 231 #[.string {data:=#[36,37,38,43,44]},.int .u8 c] W (.bool v)):=F (λW=>by rw[j];exact lC [36,37,38,43,44] c l Y W);clear d f g j
 have k:(c<32/\jU c=true)\/(¬c<32/\126<c/\jU c=true)\/(¬c<32/\¬ 126<c/\jU c=false):=by
  unfold jU;by_cases a:c<32
  ·simp[a]
  by_cases b:126<c
  ·simp[a,b]
  simp[a,b]
 generalize jU c=C at i0 i2 i4 i5 n k;obtain⟨F',i⟩:=V (k6 set c);rw[<-i];obtain h|h|h|h|h:=y
 all_goals
  subst h
  first|rw[i0]at i|rw[i2]at i|rw[i4]at i|rw[i5]at i|rw[n]at i
  clear i0 i2 i4 i5 n;obtain⟨r,rfl⟩|⟨r,p,rfl⟩|⟨r,p,rfl⟩:=k
  all_goals
   have x:=F i;clear i;go_enter func208,ntmps208
   go_wp2_with(go_at_call 231;(with_reducible first|refine(m6.o _).m ?_|refine(m5.o _).m ?_|refine(m4.o _).m ?_|refine(m2.o _).m ?_);rintro e w2⟨rfl,q⟩;subst q)
   all_goals
    go_ret;refine⟨eA ?_,rfl⟩;have:=x.o;simp_all

def np(c:Int):Bool:=decide (c=0\/c=9\/c=10\/c=13\/c=32\/c=35\/c=47\/c=58\/c=60\/c=62\/c=63\/c=64\/c=91\/c=92\/c=93\/c=94\/c=124)
theorem Im(c:Int)(w:H):bP prog 229 #[.int .u8 c] w (.bool (np c)):=by
 go_enter func229,ntmps229;go_wp2_with fail
 all_goals
  go_ret;refine⟨eA ?_,rfl⟩;unfold np
  first
   |(rw[eq_comm,gx];omega)
   |(rw[eq_comm,gz];simp_all;done)
   |(simp_all;done)

theorem VT(set c:Int)(f:0<=c)(Y:c<256)(w:H):bP prog 208 #[.int .i64 set,.int .u8 c] w (.bool (k6 set c)):=by
 obtain⟨-,-,-,-,-,i3,d⟩:=Qn c;by_cases g:set=0\/set=2\/set=4\/set=5\/set=6
 ·exact Gf set c f Y g w
 by_cases h:set=3
 ·subst h
  clear g d;have m2:Hid (∀W,bP prog 208 #[.int .i64 2,.int .u8 c] W (.bool (k6 2 c))):=F<|λW=>Gf 2 c f Y Oc W;generalize k6 3 c=n at i3⊢;generalize k6 2 c=p at i3 m2;by_cases i:c=39
  ·subst i
   simp at i3;subst i3;go_enter func208,ntmps208
   go_wp2_with(go_at_call 208;(with_reducible refine(m2.o _).m ?_);rintro e j⟨rfl,a⟩;subst a)
   all_goals
    go_ret
    try exact⟨rfl,rfl⟩
  have hd:decide (c=39)=false:=by simpa using i
  rw[hd,Bool.false_or]at i3;subst i3;clear hd;go_enter func208,ntmps208
  go_wp2_with(go_at_call 208;(with_reducible refine(m2.o _).m ?_);rintro e j⟨rfl,a⟩;subst a)
  all_goals
   go_ret
   first
   |exact⟨rfl,rfl⟩
   |(refine⟨eA ?_,rfl⟩;simp[i])
 by_cases h:set=1
 ·subst h
  clear g i3;have m2:Hid (∀W,bP prog 208 #[.int .i64 0,.int .u8 c] W (.bool (k6 0 c))):=F<|λW=>Gf 0 c f Y Oc W;obtain⟨k,hA⟩:=V (iO [32,34,60,62,96] c);rw[<-hA]at d;have m1:Hid (∀W,bP prog 231 #[.string {data:=#[32,34,60,62,96]},.int .u8 c] W (.bool k)):=F (λW=>by rw[hA];exact lC [32,34,60,62,96] c f Y W);generalize k6 1 c=n at d⊢;generalize k6 0 c=p at d m2;clear hA;cases k
  iterate 2
   ·simp at d
    subst d;go_enter func208,ntmps208
    go_wp2_with(first|(go_at_call 231;(with_reducible refine(m1.o _).m ?_);rintro e j⟨rfl,a⟩;subst a)|(go_at_call 208;(with_reducible refine(m2.o _).m ?_);rintro e j⟨rfl,a⟩;subst a))
    all_goals
     go_ret
     try exact⟨rfl,rfl⟩
 have l:k6 set c=false:=by
  unfold k6;rw[ge M0]
 rw[l];have n6:¬set=6:=M0;have n5:¬set=5:=M0;have n4:¬set=4:=M0;have n2:¬set=2:=M0;have n0:¬set=0:=M0;have n3:¬set=3:=M0;have n1:¬set=1:=M0;clear g l i3 d;go_enter func208,ntmps208;go_wp2_with fail
 all_goals
  go_ret
  try exact⟨rfl,rfl⟩
