/- Joined texts. -/
import Derived.Maps.AppendAt
import Derived.Test.YthfkicfjlljjiaaGreatDoorGPunJ
import Derived.Great.Ranges
import Derived.Deep.MidRow
import Derived.ChangeArms
import Derived.ProofKit
import Derived.OpenShut
import Derived.ShutString
import Derived.ChangeOld
import Derived.Below
set_option maxHeartbeats 40000000
namespace Go.Proofs.YthfkicfjlljjiaaGreatDoor
open Tryz
open Go.RowKit
set_option maxRecDepth 10000
def iO(l:O)(c:Int):Bool:=l.any λx=>G x==c
def pJ(set:Int):O :=
 if set=1 then [32,34,60,62,96]else if set=2 then [32,34,35,60,62]else if set=3 then [32,34,35,60,62,39]else if set=4 then [32,34,35,60,62,63,94,96,123,125]
 else if set=5 then [32,34,35,60,62,63,94,96,123,125,47,58,59,61,64,91,92,93,124]
 else if set=6 then [32,34,35,60,62,63,94,96,123,125,47,58,59,61,64,91,92,93,124,36,37,38,43,44]else []
def jU(c:Int):Bool:=decide (c<32\/126<c)
def k6(set c:Int):Bool:=if set<0\/6<set then false else jU c||iO (pJ set) c
theorem oe:∀ (l:O) (x:UInt8),(0<=Lib.indexByte l x) ↔ iO l (G x)=true
 | [],x=>by simp[Lib.indexByte,iO]
 |y::l,x=>by
  have c:=oe l x
  have a:(G y=G x) ↔ y=x:=by
   constructor
   ·intro h
    apply eZ.mp
    have Y:(y.toNat:Int)=x.toNat:=h;omega
   rintro rfl;rfl
  unfold Lib.indexByte;by_cases h:y=x
  ·subst h
   simp[iO]
  have I:(y==x)=false:=by simpa using h
  have d:iO (y::l) (G x)=iO l (G x):=by
   have:(G y==G x)=false:=by simpa using λe=>h (a.mp e)
   simp[iO,this]
  rw[I,d];simp only[eH,if_false];by_cases Y:Lib.indexByte l x=-1
  ·rw[<-c,Y];simp
  have f:(Lib.indexByte l x == -1)=false:=by simpa using Y
  rw[f];simp only[eH,if_false];rw[<-c]
  have:-1<=Lib.indexByte l x:=by
   clear c Y f d I h a
   induction l with
   |nil=>simp[Lib.indexByte]
   |cons z l c =>
    unfold Lib.indexByte
    split
    ·omega
    split
    ·omega
    omega
  omega
theorem lC(l:O)(c:Int)(h0:0<=c)(Y:c<256)(w:H):bP prog 211 #[.string (E l),.int .u8 c] w (.bool (iO l c)):=by
 obtain⟨x,rfl⟩:∃ x:UInt8,c=G x:=⟨UInt8.ofNat c.toNat,by simp[G];omega⟩;have d:=λW=>Any.strings_IndexByte laysIB (E l) (G x) W;rw[show(E l).data.toList=l from cW l,show(G x).toNat.toUInt8=x by simp[G]]at d;have f:∀ W,bP prog 161 #[.string (E l),.int .u8 (G x)] W (.int .i64 (Lib.indexByte l x)):=d;have hi:=oe l x;generalize Lib.indexByte l x=I' at f hi;generalize iO l (G x)=a at hi ⊢;have i:=F f;clear f d h0 Y;have h:=F hi;clear hi;go_enter func211,ntmps211
 go_wp2_with (first|(go_at_call 161;refine(i.o _).m ?_;rintro e w2 ⟨rfl,g⟩;subst g))
 all_goals
  go_ret;refine⟨eA ?_,rfl⟩;have:=h.o;cases a <;>simp_all

theorem pR(l m:O)(c:Int):iO (l++m) c=(iO l c||iO m c):=by simp[iO]
theorem Qn(c:Int) :
  k6 0 c=jU c/\k6 2 c=(iO [32,34,35,60,62] c||jU c) /\
  k6 4 c=(iO [63,94,96,123,125] c||(iO [32,34,35,60,62] c||jU c)) /\
  k6 5 c=(iO [47,58,59,61,64,91,92,93,124] c||(iO [63,94,96,123,125] c||(iO [32,34,35,60,62] c||jU c))) /\
  k6 6 c=(iO [36,37,38,43,44] c||(iO [47,58,59,61,64,91,92,93,124] c||(iO [63,94,96,123,125] c||(iO [32,34,35,60,62] c||jU c)))) /\
  k6 3 c=(decide (c=39)||k6 2 c)/\k6 1 c=(iO [32,34,60,62,96] c||k6 0 c):=by
 have j:pJ 4=[32,34,35,60,62]++[63,94,96,123,125]:=rfl;have k:pJ 5=([32,34,35,60,62]++[63,94,96,123,125])++[47,58,59,61,64,91,92,93,124]:=rfl;have l:pJ 6=(([32,34,35,60,62]++[63,94,96,123,125])++[47,58,59,61,64,91,92,93,124])++[36,37,38,43,44]:=rfl;have i:pJ 3=[32,34,35,60,62]++[39]:=rfl
 have g:iO [39] c=decide (c=39):=by
  have:(G 39==c)=decide (c=39):=by
   by_cases h:c=39
   ·subst h;rfl
   have:(G 39==c)=false:=by simpa[G]using λe=>h e.symm
   simp[this,h]
  simp[iO,this]
 refine⟨?_,?_,?_,?_,?_,?_,?_⟩
 ·simp[k6,pJ,iO]
 ·show(if(2:Int)<0\/6<(2:Int)then false else jU c||iO [32,34,35,60,62] c)=_
  rw[if_neg M0,Bool.or_comm]
 ·show(if(4:Int)<0\/6<(4:Int)then false else jU c||iO (pJ 4) c)=_
  rw[if_neg M0,j,pR];generalize jU c=a,iO [32,34,35,60,62] c=b,iO [63,94,96,123,125] c=d;revert a b d;decide
 ·show(if(5:Int)<0\/6<(5:Int)then false else jU c||iO (pJ 5) c)=_
  rw[if_neg M0,k,pR,pR];generalize jU c=a,iO [32,34,35,60,62] c=b,iO [63,94,96,123,125] c=d,iO [47,58,59,61,64,91,92,93,124] c=e;revert a b d e;decide
 ·show(if(6:Int)<0\/6<(6:Int)then false else jU c||iO (pJ 6) c)=_
  rw[if_neg M0,l,pR,pR,pR];generalize jU c=a,iO [32,34,35,60,62] c=b,iO [63,94,96,123,125] c=d,iO [47,58,59,61,64,91,92,93,124] c=e,iO [36,37,38,43,44] c=f;revert a b d e f;decide
 ·show(if(3:Int)<0\/6<(3:Int)then false else jU c||iO (pJ 3) c)=(_||if(2:Int)<0\/6<(2:Int)then false else jU c||iO [32,34,35,60,62] c)
  rw[if_neg M0,if_neg M0,i,pR,g];generalize jU c=a,iO [32,34,35,60,62] c=b,decide (c=39)=d;revert a b d;decide
 show(if(1:Int)<0\/6<(1:Int)then false else jU c||iO [32,34,60,62,96] c)=(_||if(0:Int)<0\/6<(0:Int)then false else jU c||iO [] c);rw[if_neg M0,if_neg M0];have:iO [] c=false:=rfl;rw[this];generalize jU c=a,iO [32,34,60,62,96] c=b;revert a b;decide
theorem Gf(set c:Int)(h0:0<=c)(Y:c<256)(x:set=0\/set=2\/set=4\/set=5\/set=6)(w:H):bP prog 176 #[.int .i64 set,.int .u8 c] w (.bool (k6 set c)):=by
 obtain⟨i0,i2,i4,i5,l,-,-⟩:=Qn c;obtain⟨r,d⟩:=V (iO [32,34,35,60,62] c);obtain⟨s,f⟩:=V (iO [63,94,96,123,125] c);obtain⟨t,g⟩:=V (iO [47,58,59,61,64,91,92,93,124] c);obtain⟨u,j⟩:=V (iO [36,37,38,43,44] c);rw[<-d]at i2;rw[<-d,<-f]at i4;rw[<-d,<-f,<-g]at i5;rw[<-d,<-f,<-g,<-j]at l;have m2:Hid (∀W,bP prog 211 #[.string {data:=#[32,34,35,60,62]},.int .u8 c] W (.bool r)):=F (λW=>by rw[d];exact lC [32,34,35,60,62] c h0 Y W);have m4:Hid (∀W,bP prog 211 #[.string {data:=#[63,94,96,123,125]},.int .u8 c] W (.bool s)):=F (λW=>by rw[f];exact lC [63,94,96,123,125] c h0 Y W);have m5:Hid (∀W,bP prog 211 #[.string {data:=#[47,58,59,61,64,91,92,93,124]},.int .u8 c] W (.bool t)):=F (λW=>by rw[g];exact lC [47,58,59,61,64,91,92,93,124] c h0 Y W);have m6:Hid (∀W,bP prog 211 #[.string {data:=#[36,37,38,43,44]},.int .u8 c] W (.bool u)):=F (λW=>by rw[j];exact lC [36,37,38,43,44] c h0 Y W);clear d f g j
 have k:(c<32/\jU c=true)\/(¬c<32/\126<c/\jU c=true)\/(¬c<32/\¬ 126<c/\jU c=false):=by
  unfold jU;by_cases a:c<32
  ·simp[a]
  by_cases b:126<c
  ·simp[a,b]
  simp[a,b]
 obtain⟨C,hC⟩:=V (jU c);rw[<-hC]at i0 i2 i4 i5 l k;clear hC;obtain⟨F',i⟩:=V (k6 set c);rw[<-i];obtain h|h|h|h|h:=x
 all_goals
  subst h
  first|rw[i0]at i|rw[i2]at i|rw[i4]at i|rw[i5]at i|rw[l]at i
  clear i0 i2 i4 i5 l;obtain⟨q,rfl⟩|⟨q,n,rfl⟩|⟨q,n,rfl⟩:=k
  all_goals
   have v:=F i;clear i;go_enter func176,ntmps176
   go_wp2_with (first|(go_at_call 211;(with_reducible first|refine(m6.o _).m ?_|refine(m5.o _).m ?_|refine(m4.o _).m ?_|refine(m2.o _).m ?_);rintro e w2 ⟨rfl,p⟩;subst p))
   all_goals
    go_ret;refine⟨eA ?_,rfl⟩;have:=v.o;simp_all

def np(c:Int):Bool:=decide (c=0\/c=9\/c=10\/c=13\/c=32\/c=35\/c=47\/c=58\/c=60\/c=62\/c=63\/c=64\/c=91\/c=92\/c=93\/c=94\/c=124)
theorem Im(c:Int)(w:H):bP prog 209 #[.int .u8 c] w (.bool (np c)):=by
 go_enter func209,ntmps209;go_wp2_with fail
 all_goals
  go_ret;refine⟨eA ?_,rfl⟩;unfold np
  first
   |(rw[eq_comm,decide_eq_true_eq];omega)
   |(rw[eq_comm,decide_eq_false_iff_not];simp_all;done)
   |(simp_all;done)

theorem VT(set c:Int)(h0:0<=c)(Y:c<256)(w:H):bP prog 176 #[.int .i64 set,.int .u8 c] w (.bool (k6 set c)):=by
 obtain⟨-,-,-,-,-,i3,d⟩:=Qn c;by_cases f:set=0\/set=2\/set=4\/set=5\/set=6
 ·exact Gf set c h0 Y f w
 by_cases g:set=3
 ·subst g
  clear f d;have m2:Hid (∀W,bP prog 176 #[.int .i64 2,.int .u8 c] W (.bool (k6 2 c))):=F<|λW=>Gf 2 c h0 Y Oc W;generalize k6 3 c=k at i3 ⊢;generalize k6 2 c=l at i3 m2;by_cases h:c=39
  ·subst h
   simp at i3;subst i3;go_enter func176,ntmps176
   go_wp2_with (first|(go_at_call 176;(with_reducible refine(m2.o _).m ?_);rintro e w2 ⟨rfl,a⟩;subst a))
   all_goals
    go_ret
    try exact⟨rfl,rfl⟩
  have hd:decide (c=39)=false:=by simpa using h
  rw[hd,Bool.false_or]at i3;subst i3;clear hd;go_enter func176,ntmps176
  go_wp2_with (first|(go_at_call 176;(with_reducible refine(m2.o _).m ?_);rintro e w2 ⟨rfl,a⟩;subst a))
  all_goals
   go_ret
   first
   |exact⟨rfl,rfl⟩
   |(refine⟨eA ?_,rfl⟩;simp[h])
 by_cases g:set=1
 ·subst g
  clear f i3;have m2:Hid (∀W,bP prog 176 #[.int .i64 0,.int .u8 c] W (.bool (k6 0 c))):=F<|λW=>Gf 0 c h0 Y Oc W;obtain⟨i,hA⟩:=V (iO [32,34,60,62,96] c);rw[<-hA]at d;have m1:Hid (∀W,bP prog 211 #[.string {data:=#[32,34,60,62,96]},.int .u8 c] W (.bool i)):=F (λW=>by rw[hA];exact lC [32,34,60,62,96] c h0 Y W);generalize k6 1 c=k at d ⊢;generalize k6 0 c=l at d m2;clear hA;cases i
  iterate 2
   ·simp at d
    subst d;go_enter func176,ntmps176
    go_wp2_with (first|(go_at_call 211;(with_reducible refine(m1.o _).m ?_);rintro e w2 ⟨rfl,a⟩;subst a)|(go_at_call 176;(with_reducible refine(m2.o _).m ?_);rintro e w2 ⟨rfl,a⟩;subst a))
    all_goals
     go_ret
     try exact⟨rfl,rfl⟩
 have j:k6 set c=false:=by
  unfold k6;rw[if_pos M0]
 rw[j];have n6:¬ set=6:=M0;have n5:¬ set=5:=M0;have n4:¬ set=4:=M0;have n2:¬ set=2:=M0;have n0:¬ set=0:=M0;have n3:¬ set=3:=M0;have n1:¬ set=1:=M0;clear f j i3 d;go_enter func176,ntmps176;go_wp2_with fail
 all_goals
  go_ret
  try exact⟨rfl,rfl⟩
end Go.Proofs.YthfkicfjlljjiaaGreatDoor
set_option maxHeartbeats 40000000
namespace Go.Proofs.YthfkicfjlljjiaaGreatDoor
open Tryz
open Go.RowKit
set_option maxRecDepth 10000
theorem RQ{P:Program}{e:TypeId}{i:TypeInfo}(hi:P.info? e=some i)(hsize:i.size=1)(w:H):(sizeOf e).run P w=.ok 1 w:=by
 simp[sizeOf,typeInfo,hi,hsize]
section
variable {P:Program} {t:TypeId} {i:TypeInfo} (ht:P.underlying t=some (.slice (P.elem t))) (hi:P.info? (P.elem t)=some i) (hsize:i.size=1)
include ht hi hsize
end
end Go.Proofs.YthfkicfjlljjiaaGreatDoor
set_option maxHeartbeats 40000000
namespace Go.Proofs.YthfkicfjlljjiaaGreatDoor
open Tryz
open Go.RowKit
set_option maxRecDepth 10000
def Cut(s:O)(k c:Nat):Prop:=(c=0/\∀ j (h:j<s.length),1<=j->j<k->G s[j]≠45)\/(1<=c/\c<k/\(∃h:c<s.length,G s[c]=45)/\∀ j (h:j<s.length),c<j->j<k->G s[j]≠45)
end Go.Proofs.YthfkicfjlljjiaaGreatDoor
set_option maxHeartbeats 40000000
namespace Go.Proofs.YthfkicfjlljjiaaGreatDoor
open Tryz
open Go.RowKit
set_option maxRecDepth 10000
structure gF where
 kind:Int
 name:O
 four:Int
 six:List Int
structure Url where
 aJ:O
 usr:O
 er:O
 host:gF
 bz:Bool
 port:Int
 opq:Bool
 flat:O
 path:List O
 bZ:Bool
 q:O
 cg:Bool
 f:O
def aS(h:gF):List Z:=.int .i64 h.kind::S h.name::.int .u32 h.four::h.six.map (Value.int .u16)
def cu(A:Z)(u:Url):List Z :=
 [S u.aJ,S u.usr,S u.er]++aS u.host++[.bool u.bz,.int .i64 u.port,.bool u.opq,S u.flat,A,.bool u.bZ,S u.q,.bool u.cg,S u.f]
structure sV (h:gF):Prop where
 k:-9223372036854775808<=h.kind/\h.kind<=9223372036854775807
 f:0<=h.four/\h.four<4294967296
 l:h.six.length=8
 s:∀ n∈h.six,0<=n/\n<65536
structure gG (u:Url):Prop where
 h:sV u.host
 p:-9223372036854775808<=u.port/\u.port<=9223372036854775807
structure By (cs:Array Z) (h:gF):Prop where
 sz:cs.size=11
 kind:cs[0]? = some (.int .i64 h.kind)
 name:cs[1]? = some (S h.name)
 four:cs[2]? = some (.int .u32 h.four)
 six:∀ k (hk:k<h.six.length),cs[3+k]? = some (.int .u16 h.six[k])
 ok:sV h
structure sY (cs:Array Z) (A:Z) (u:Url):Prop where
 sz:cs.size=23
 aJ:cs[0]? = some (S u.aJ)
 usr:cs[1]? = some (S u.usr)
 er:cs[2]? = some (S u.er)
 kind:cs[3]? = some (.int .i64 u.host.kind)
 XM:∀ k,k<11->cs[3+k]? = (aS u.host)[k]?
 bz:cs[14]? = some (.bool u.bz)
 port:cs[15]? = some (.int .i64 u.port)
 opq:cs[16]? = some (.bool u.opq)
 flat:cs[17]? = some (S u.flat)
 path:cs[18]? = some A
 bZ:cs[19]? = some (.bool u.bZ)
 q:cs[20]? = some (S u.q)
 cg:cs[21]? = some (.bool u.cg)
 f:cs[22]? = some (S u.f)
 ok:gG u
theorem eight{α:Type}{l:List α}(h:l.length=8):∃ a b c d e f g i,l=[a,b,c,d,e,f,g,i]:=by
 match l,h with
 | [a,b,c,d,e,f,g,i],_=>exact⟨a,b,c,d,e,f,g,i,rfl⟩
theorem CS{h:gF}(ok:sV h):By (aS h).toArray h:=by
 obtain⟨a,b,c,d,e,f,g,i,hl⟩:=eight ok.l;refine⟨?_,rfl,rfl,rfl,?_,ok⟩
 ·simp[aS,ok.l]
 intro k j;have h8:k<8:=by rw[ok.l]at j;exact j
 simp only[aS,cf];rw[show 3+k=k+1+1+1 by omega];simp[j]
theorem lV{u:Url}(A:Z)(ok:gG u):sY (cu A u).toArray A u:=by
 obtain⟨aJ,usr,er,⟨j,hn,hf,six⟩,a1,a2,a3,a4,a5,a6,a7,a8,a9⟩:=u;have m:=ok.h.l;simp only at m;obtain⟨a,b,c,d,e,f,g,i,rfl⟩:=eight m;refine⟨rfl,rfl,rfl,rfl,rfl,?_,rfl,rfl,rfl,rfl,rfl,rfl,rfl,rfl,rfl,ok⟩;intro k j
 match k,j with
 |0,_=>rfl
 |1,_=>rfl
 |2,_=>rfl
 |3,_=>rfl
 |4,_=>rfl
 |5,_=>rfl
 |6,_=>rfl
 |7,_=>rfl
 |8,_=>rfl
 |9,_=>rfl
 |10,_=>rfl
theorem jb:(prog.info? 32).map (·.size)=some 11:=Rz
end Go.Proofs.YthfkicfjlljjiaaGreatDoor
set_option maxHeartbeats 40000000
namespace Go.Proofs.YthfkicfjlljjiaaGreatDoor
open Tryz
open Go.RowKit
set_option maxRecDepth 10000
theorem cHs:prog.cellsOf 9=1:=Rz
theorem a8p:prog.cellsOf 29=1:=Rz
theorem cH8:prog.cellsOf 30=8:=Rz
theorem cHh:prog.cellsOf 32=11:=Rz
theorem cHi:prog.cellsOf 3=1:=Rz
theorem cHu:prog.cellsOf 28=1:=Rz
section
variable {H':Type} {enc:TypeId×Z->H'} {w:H}
def Tr(enc:TypeId×Z->H')(w:H)(t:TypeId)(cs:List Z):Prop:=∃ fuel x,DataW.trod enc prog w 0 (λ_=>true) true fuel t cs=some x
theorem MB{t:TypeId}{cs:List Z}(ht:prog.underlying t=some .string)(h:Tr enc w t cs):∃ l:O,cs=[S l]:=by
 obtain⟨fuel,x,h⟩:=h;obtain⟨s,rfl,_,_⟩:=DataW.trod_string ht h;exact⟨ls s,by rw[S,kt]⟩
theorem a01{t:TypeId}{k:IntKind}{cs:List Z}(ht:prog.underlying t=some (.int k))(h:Tr enc w t cs):∃ n,cs=[.int k n]/\(Lit.int k n).wf=true:=by
 obtain⟨fuel,x,h⟩:=h;obtain⟨n,rfl,_,hw⟩:=DataW.trod_int ht h;exact⟨n,rfl,hw⟩
theorem a1i{t:TypeId}{cs:List Z}(ht:prog.underlying t=some .bool)(h:Tr enc w t cs):∃ b,cs=[.bool b]:=by
 obtain⟨fuel,x,h⟩:=h;obtain⟨b,rfl,_⟩:=DataW.trod_bool ht h;exact⟨b,rfl⟩
theorem Sn{t:TypeId}{fs:Array Field}{cs:List Z}(ht:prog.underlying t=some (.struct fs))(h:Tr enc w t cs) :
  cs.length=prog.cellsOf t/\∀ (i:Nat) (f:Field),fs[i]? = some f->Tr enc w f.type ((cs.drop f.offset).take (prog.cellsOf f.type)):=by
 obtain⟨fuel,x,h⟩:=h;obtain⟨xs,n,_,_,Y,I,c⟩:=DataW.trod_struct ht h;refine⟨Y,λi f a=>?_⟩;have hi:i<xs.length:=by rw[I];exact(bw.1 a).1
 exact⟨n,xs[i],by rw[c i f a,aG hi]⟩
theorem sZ{α:Type}{Q:Nat->α->Prop}:∀ n,(∀i,i<n->∃ b,Q i b)->∃ l:List α,l.length=n/\∀ i (h:i<l.length),Q i l[i]
 |0,_=>⟨[],rfl,λi h=>by simp at h⟩
 |n+1,h=>by
  obtain⟨l,Y,I⟩:=sZ n (λi hi=>h i M0);obtain⟨b,U⟩:=h n M0;refine⟨l++[b],by simp[Y],λi hi=>?_⟩;by_cases a:i<l.length
  ·rw[List.getElem_append_left a];exact I i a
  have:i=n:=by rw[ae]at hi;simp at hi;omega
  subst this;rw[a2P M0]
  simpa[Y]using U
theorem So{t e:TypeId}{cs:List Z}(ht:prog.underlying t=some (.slice e))(h:Tr enc w t cs) :
  cs=[.slice none 0 0]\/∃ (a:Addr) (len cap:Nat),cs=[.slice (some a) len cap]/\len<=cap/\cap<=maxLen /\
   ∀i,i<len->∃ ds:List Z,ds.length=prog.cellsOf e/\(∀j,j<prog.cellsOf e->w.cell? ((a.add (i*prog.cellsOf e)).add j)=ds[j]?)/\Tr enc w e ds:=by
 obtain⟨fuel,x,h⟩:=h;rcases DataW.trod_slice ht h with⟨Y,_⟩|⟨a,len,cap,elems,rest,n,_,Y,_,_,I,f,h4,g,_,_⟩
 ·exact .inl Y
 refine .inr ⟨a,len,cap,Y,I,f,λi hi=>?_⟩;have:=g i hi;rw[aG M0]at this;obtain⟨ds,c,d⟩:=Option.bind_eq_some_iff.1 this;obtain⟨_,l,k⟩:=World.cells?_some c;exact⟨ds,l,k,n,_,d⟩
theorem Ua{a:Addr}{v:Z}(h:w.cell? (a.add 0)=some v):∃ b o,a=⟨b,o,none⟩/\b<w.heap.size:=by
 have e:a.add 0=a:=by simp[Addr.add]
 rw[e]at h;obtain⟨b,o,spot⟩:=a;have hspot:spot=none:=World.cell?_spot h;subst hspot;refine⟨b,o,rfl,?_⟩;rcases cI b w.heap.size with d|c
 ·exact d
 simp[World.cell?,Array.getElem?_eq_none c]at h
theorem a1n{cs:List Z}(h:Tr enc w 30 cs):∃ l:List Int,l.length=8/\cs=l.map (Value.int .u16)/\∀ n∈l,0<=n/\n<65536:=by
 obtain⟨fuel,x,h⟩:=h;obtain⟨xs,m,_,_,hlen,hxs,a⟩:=DataW.trod_array underlying30 h;rw[cH8]at hlen;rw[a8p]at a
 have e:∀ i,i<8->∃ n:Int,cs[i]? = some (.int .u16 n)/\(Lit.int .u16 n).wf=true:=by
  intro i hi;have:=a i hi;rw[b5v,aG M0]at this;obtain⟨n,c,hw⟩:=a01 underlying29 (⟨m,_,this⟩:Tr enc w 29 _);refine⟨n,?_,hw⟩;have f:=congrArg (λl=>l[0]?) c
  simpa[List.getElem?_take,List.getElem?_drop]using f
 obtain⟨l,g,d⟩:=sZ 8 e;refine⟨l,g,?_,λn c=>?_⟩
 ·apply List.ext_getElem?
  intro i;by_cases hi:i<l.length
  ·rw[(d i hi).1]
   simp[hi]
  rw[eC M0,eC (by rw[ay];omega)]
 obtain⟨i,hi,rfl⟩:=cC c;have:=bounds_u16 (d i hi).2;omega
theorem a1m{cs:List Z}(h:Tr enc w 32 cs):∃ u:gF,cs=aS u/\sV u:=by
 obtain⟨e,a⟩:=Sn underlying32 h;rw[cHh]at e;have f0:Tr enc w 3 ((cs.drop 0).take (prog.cellsOf 3)):=a 0 _ rfl;have f1:Tr enc w 9 ((cs.drop 1).take (prog.cellsOf 9)):=a 1 _ rfl;have f2:Tr enc w 28 ((cs.drop 2).take (prog.cellsOf 28)):=a 2 _ rfl;have f3:Tr enc w 30 ((cs.drop 3).take (prog.cellsOf 30)):=a 3 _ rfl;rw[cHi]at f0;rw[cHs]at f1;rw[cHu]at f2;rw[cH8]at f3
 match cs,e with
 | [a0,a1,a2,a3,a4,a5,a6,a7,a8,a9,a10],_ =>
  simp only[List.drop,List.take]at f0 f1 f2 f3;obtain⟨k,hk,c⟩:=a01 underlying3 f0;obtain⟨l,hn⟩:=MB underlying9 f1;obtain⟨fo,ho,d⟩:=a01 underlying28 f2;obtain⟨six,g,f,j⟩:=a1n f3;refine⟨⟨k,l,fo,six⟩,?_,⟨?_,?_,g,j⟩⟩
  ·unfold aS
   simp only at f ⊢;rw[<-f];simp_all
  ·exact bounds_i64 c
  have:=bounds_u32 d;simp only;omega
end
