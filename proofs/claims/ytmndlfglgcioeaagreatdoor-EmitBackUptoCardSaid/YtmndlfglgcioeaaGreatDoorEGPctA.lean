/- Joined texts. -/
import Derived.Test.YtmndlfglgcioeaaGreatDoorEGTextA
import Derived.Test.YtmndlfglgcioeaaGreatDoorShel
set_option maxHeartbeats 40000000
namespace Go.Proofs.YtmndlfglgcioeaaGreatDoor
open Tryz
open Go.RowKit
set_option maxRecDepth 10000
def jJ(l:Bytes)(c:Int):Bool:=l.any fun x=>b2 x==c
def nU(set:Int):Bytes :=
 if set=1 then [32,34,60,62,96]else if set=2 then [32,34,35,60,62]else if set=3 then [32,34,35,60,62,39]else if set=4 then [32,34,35,60,62,63,94,96,123,125]
 else if set=5 then [32,34,35,60,62,63,94,96,123,125,47,58,59,61,64,91,92,93,124]
 else if set=6 then [32,34,35,60,62,63,94,96,123,125,47,58,59,61,64,91,92,93,124,36,37,38,43,44]else []
def kj(c:Int):Bool:=decide (c<32∨126<c)
def ip(set c:Int):Bool:=if set<0∨6<set then false else kj c||jJ (nU set) c
theorem rR:∀ (l:Bytes) (x:UInt8),(0<=Lib.indexByte l x) ↔ jJ l (b2 x)=true
 | [],x=>by simp[Lib.indexByte,jJ]
 |y::l,x=>by
  have ih:=rR l x
  have hxy:(b2 y=b2 x) ↔ y=x:=by
   constructor
   ·intro h
    apply fH.mp
    have h1:(y.toNat:Int)=x.toNat:=h;omega
   rintro rfl;rfl
  unfold Lib.indexByte;by_cases h:y=x
  ·subst h
   simp[jJ]
  have h2:(y==x)=false:=by simpa using h
  have h3:jJ (y::l) (b2 x)=jJ l (b2 x):=by
   have:(b2 y==b2 x)=false:=by simpa using fun e=>h (hxy.mp e)
   simp[jJ,this]
  rw[h2,h3];simp only[fd,if_false];by_cases h1:Lib.indexByte l x=-1
  ·rw[<-ih,h1];simp
  have h4:(Lib.indexByte l x == -1)=false:=by simpa using h1
  rw[h4];simp only[fd,if_false];rw[<-ih]
  have:-1<=Lib.indexByte l x:=by
   clear ih h1 h4 h3 h2 h hxy
   induction l with
   |nil=>simp[Lib.indexByte]
   |cons z l ih =>
    unfold Lib.indexByte
    split
    ·omega
    split
    ·omega
    omega
  omega
theorem mz(l:Bytes)(c:Int)(h0:0<=c)(h1:c<256)(w:World):bV prog 189 #[.string (bs l),.int .u8 c] w (.bool (jJ l c)):=by
 obtain⟨x,rfl⟩:∃ x:UInt8,c=b2 x:=⟨UInt8.ofNat c.toNat,by simp[b2];omega⟩;have hib:=fun W=>Any.strings_IndexByte laysIB (bs l) (b2 x) W;rw[show(bs l).data.toList=l from dR l,show(b2 x).toNat.toUInt8=x by simp[b2]]at hib;have GD:∀ W,bV prog 81 #[.string (bs l),.int .u8 (b2 x)] W (.int .i64 (Lib.indexByte l x)):=hib;have hi:=rR l x;generalize Lib.indexByte l x=I at GD hi;generalize jJ l (b2 x)=a at hi ⊢;have HI:=h_ GD;clear GD hib h0 h1;have HA:=h_ hi;clear hi;go_enter func189,ntmps189
 go_wp2_with (first|(go_at_call 81;refine(HI.out _).mono ?_;rintro e w2 ⟨rfl,hw2⟩;subst hw2)|fail)
 all_goals
  go_ret;refine⟨dX ?_,rfl⟩;have:=HA.out;cases a <;>simp_all

theorem qC(l m:Bytes)(c:Int):jJ (l++m) c=(jJ l c||jJ m c):=by simp[jJ]
theorem Rw(c:Int) :
  ip 0 c=kj c∧ip 2 c=(jJ [32,34,35,60,62] c||kj c) ∧
  ip 4 c=(jJ [63,94,96,123,125] c||(jJ [32,34,35,60,62] c||kj c)) ∧
  ip 5 c=(jJ [47,58,59,61,64,91,92,93,124] c||(jJ [63,94,96,123,125] c||(jJ [32,34,35,60,62] c||kj c))) ∧
  ip 6 c=(jJ [36,37,38,43,44] c||(jJ [47,58,59,61,64,91,92,93,124] c||(jJ [63,94,96,123,125] c||(jJ [32,34,35,60,62] c||kj c)))) ∧
  ip 3 c=(decide (c=39)||ip 2 c)∧ip 1 c=(jJ [32,34,60,62,96] c||ip 0 c):=by
 have e4:nU 4=[32,34,35,60,62]++[63,94,96,123,125]:=rfl;have e5:nU 5=([32,34,35,60,62]++[63,94,96,123,125])++[47,58,59,61,64,91,92,93,124]:=rfl;have e6:nU 6=(([32,34,35,60,62]++[63,94,96,123,125])++[47,58,59,61,64,91,92,93,124])++[36,37,38,43,44]:=rfl;have e3:nU 3=[32,34,35,60,62]++[39]:=rfl
 have e39:jJ [39] c=decide (c=39):=by
  have:(b2 39==c)=decide (c=39):=by
   by_cases h:c=39
   ·subst h;rfl
   have:(b2 39==c)=false:=by simpa[b2]using fun e=>h e.symm
   simp[this,h]
  simp[jJ,this]
 refine⟨?_,?_,?_,?_,?_,?_,?_⟩
 ·simp[ip,nU,jJ]
 ·show(if(2:Int)<0∨6<(2:Int)then false else kj c||jJ [32,34,35,60,62] c)=_
  rw[if_neg (by omega),Bool.or_comm]
 ·show(if(4:Int)<0∨6<(4:Int)then false else kj c||jJ (nU 4) c)=_
  rw[if_neg (by omega),e4,qC];generalize kj c=a,jJ [32,34,35,60,62] c=b,jJ [63,94,96,123,125] c=d;revert a b d;decide
 ·show(if(5:Int)<0∨6<(5:Int)then false else kj c||jJ (nU 5) c)=_
  rw[if_neg (by omega),e5,qC,qC];generalize kj c=a,jJ [32,34,35,60,62] c=b,jJ [63,94,96,123,125] c=d,jJ [47,58,59,61,64,91,92,93,124] c=e;revert a b d e;decide
 ·show(if(6:Int)<0∨6<(6:Int)then false else kj c||jJ (nU 6) c)=_
  rw[if_neg (by omega),e6,qC,qC,qC];generalize kj c=a,jJ [32,34,35,60,62] c=b,jJ [63,94,96,123,125] c=d,jJ [47,58,59,61,64,91,92,93,124] c=e,jJ [36,37,38,43,44] c=f;revert a b d e f;decide
 ·show(if(3:Int)<0∨6<(3:Int)then false else kj c||jJ (nU 3) c)=(_||if(2:Int)<0∨6<(2:Int)then false else kj c||jJ [32,34,35,60,62] c)
  rw[if_neg (by omega),if_neg (by omega),e3,qC,e39];generalize kj c=a,jJ [32,34,35,60,62] c=b,decide (c=39)=d;revert a b d;decide
 show(if(1:Int)<0∨6<(1:Int)then false else kj c||jJ [32,34,60,62,96] c)=(_||if(0:Int)<0∨6<(0:Int)then false else kj c||jJ [] c);rw[if_neg (by omega),if_neg (by omega)];have:jJ [] c=false:=rfl;rw[this];generalize kj c=a,jJ [32,34,60,62,96] c=b;revert a b;decide
theorem GU(set c:Int)(h0:0<=c)(h1:c<256)(hs:set=0∨set=2∨set=4∨set=5∨set=6)(w:World):bV prog 165 #[.int .i64 set,.int .u8 c] w (.bool (ip set c)):=by
 obtain⟨i0,i2,i4,i5,i6,-,-⟩:=Rw c;obtain⟨A2,hA2⟩:=az (jJ [32,34,35,60,62] c);obtain⟨A4,hA4⟩:=az (jJ [63,94,96,123,125] c);obtain⟨A5,hA5⟩:=az (jJ [47,58,59,61,64,91,92,93,124] c);obtain⟨A6,hA6⟩:=az (jJ [36,37,38,43,44] c);rw[<-hA2]at i2;rw[<-hA2,<-hA4]at i4;rw[<-hA2,<-hA4,<-hA5]at i5;rw[<-hA2,<-hA4,<-hA5,<-hA6]at i6;have m2:Hid (∀W,bV prog 189 #[.string {data:=#[32,34,35,60,62]},.int .u8 c] W (.bool A2)):=h_ (fun W=>by rw[hA2];exact mz [32,34,35,60,62] c h0 h1 W);have m4:Hid (∀W,bV prog 189 #[.string {data:=#[63,94,96,123,125]},.int .u8 c] W (.bool A4)):=h_ (fun W=>by rw[hA4];exact mz [63,94,96,123,125] c h0 h1 W);have m5:Hid (∀W,bV prog 189 #[.string {data:=#[47,58,59,61,64,91,92,93,124]},.int .u8 c] W (.bool A5)):=h_ (fun W=>by rw[hA5];exact mz [47,58,59,61,64,91,92,93,124] c h0 h1 W);have m6:Hid (∀W,bV prog 189 #[.string {data:=#[36,37,38,43,44]},.int .u8 c] W (.bool A6)):=h_ (fun W=>by rw[hA6];exact mz [36,37,38,43,44] c h0 h1 W);clear hA2 hA4 hA5 hA6
 have hct:(c<32∧kj c=true)∨(¬c<32∧126<c∧kj c=true)∨(¬c<32∧¬ 126<c∧kj c=false):=by
  unfold kj;by_cases a:c<32
  ·simp[a]
  by_cases b:126<c
  ·simp[a,b]
  simp[a,b]
 obtain⟨C,hC⟩:=az (kj c);rw[<-hC]at i0 i2 i4 i5 i6 hct;clear hC;obtain⟨F,hF⟩:=az (ip set c);rw[<-hF];obtain h|h|h|h|h:=hs
 all_goals
  subst h
  first|rw[i0]at hF|rw[i2]at hF|rw[i4]at hF|rw[i5]at hF|rw[i6]at hF
  clear i0 i2 i4 i5 i6;obtain⟨hc,rfl⟩|⟨hc,hc2,rfl⟩|⟨hc,hc2,rfl⟩:=hct
  all_goals
   have HF:=h_ hF;clear hF;go_enter func165,ntmps165
   go_wp2_with (first|(go_at_call 189;(with_reducible first|refine(m6.out _).mono ?_|refine(m5.out _).mono ?_|refine(m4.out _).mono ?_|refine(m2.out _).mono ?_);rintro e w2 ⟨rfl,hw2⟩;subst hw2)|fail)
   all_goals
    go_ret;refine⟨dX ?_,rfl⟩;have:=HF.out;simp_all

def gg(c:Int):Bool:=decide (c=0∨c=9∨c=10∨c=13∨c=32∨c=35∨c=47∨c=58∨c=60∨c=62∨c=63∨c=64∨c=91∨c=92∨c=93∨c=94∨c=124)
theorem Jp(c:Int)(w:World):bV prog 187 #[.int .u8 c] w (.bool (gg c)):=by
 go_enter func187,ntmps187
 go_wp2_with fail
 all_goals
  go_ret;refine⟨dX ?_,rfl⟩;unfold gg
  first
   |(rw[eq_comm,decide_eq_true_eq];omega)
   |(rw[eq_comm,decide_eq_false_iff_not];simp_all;done)
   |(simp_all;done)

theorem WT(set c:Int)(h0:0<=c)(h1:c<256)(w:World):bV prog 165 #[.int .i64 set,.int .u8 c] w (.bool (ip set c)):=by
 obtain⟨-,-,-,-,-,i3,i1⟩:=Rw c;by_cases hs:set=0∨set=2∨set=4∨set=5∨set=6
 ·exact GU set c h0 h1 hs w
 by_cases h3:set=3
 ·subst h3
  clear hs i1;have m2:Hid (∀W,bV prog 165 #[.int .i64 2,.int .u8 c] W (.bool (ip 2 c))):=h_ (fun W=>GU 2 c h0 h1 (by simp) W);generalize ip 3 c=F at i3 ⊢;generalize ip 2 c=G at i3 m2;by_cases hc:c=39
  ·subst hc
   simp at i3;subst i3;go_enter func165,ntmps165
   go_wp2_with (first|(go_at_call 165;(with_reducible refine(m2.out _).mono ?_);rintro e w2 ⟨rfl,hw2⟩;subst hw2)|fail)
   all_goals
    go_ret
    try exact⟨rfl,rfl⟩
  have hd:decide (c=39)=false:=by simpa using hc
  rw[hd,Bool.false_or]at i3;subst i3;clear hd;go_enter func165,ntmps165
  go_wp2_with (first|(go_at_call 165;(with_reducible refine(m2.out _).mono ?_);rintro e w2 ⟨rfl,hw2⟩;subst hw2)|fail)
  all_goals
   go_ret
   first
   |exact⟨rfl,rfl⟩
   |(refine⟨dX ?_,rfl⟩;simp[hc])
 by_cases h3:set=1
 ·subst h3
  clear hs i3;have m2:Hid (∀W,bV prog 165 #[.int .i64 0,.int .u8 c] W (.bool (ip 0 c))):=h_ (fun W=>GU 0 c h0 h1 (by simp) W);obtain⟨A,hA⟩:=az (jJ [32,34,60,62,96] c);rw[<-hA]at i1;have m1:Hid (∀W,bV prog 189 #[.string {data:=#[32,34,60,62,96]},.int .u8 c] W (.bool A)):=h_ (fun W=>by rw[hA];exact mz [32,34,60,62,96] c h0 h1 W);generalize ip 1 c=F at i1 ⊢;generalize ip 0 c=G at i1 m2;clear hA;cases A
  iterate 2
   ·simp at i1
    subst i1;go_enter func165,ntmps165
    go_wp2_with (first|(go_at_call 189;(with_reducible refine(m1.out _).mono ?_);rintro e w2 ⟨rfl,hw2⟩;subst hw2)|(go_at_call 165;(with_reducible refine(m2.out _).mono ?_);rintro e w2 ⟨rfl,hw2⟩;subst hw2)|fail)
    all_goals
     go_ret
     try exact⟨rfl,rfl⟩
 have hF:ip set c=false:=by
  unfold ip;rw[if_pos (by omega)]
 rw[hF];have n6:¬ set=6:=by omega
 have n5:¬ set=5:=by omega
 have n4:¬ set=4:=by omega
 have n2:¬ set=2:=by omega
 have n0:¬ set=0:=by omega
 have n3:¬ set=3:=by omega
 have n1:¬ set=1:=by omega
 clear hs hF i3 i1;go_enter func165,ntmps165
 go_wp2_with fail
 all_goals
  go_ret
  try exact⟨rfl,rfl⟩
end Go.Proofs.YtmndlfglgcioeaaGreatDoor
