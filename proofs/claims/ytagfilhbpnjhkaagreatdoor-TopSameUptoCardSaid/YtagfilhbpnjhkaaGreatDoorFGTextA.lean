import Derived.Test.YtagfilhbpnjhkaaGreatDoorProg
import Derived.Test.YtagfilhbpnjhkaaGreatDoorFGBase
set_option maxRecDepth 10000
set_option maxHeartbeats 0
namespace Go.Proofs.Q
open Tryz Go.RowKit
def cG(c:Int):Int×Int×Int :=
 if 0xc2<=c/\c<=0xdf then(0x80,0xbf,2)
 else if c=0xe0 then(0xa0,0xbf,3)
 else if c=0xed then(0x80,0x9f,3)
 else if 0xe1<=c/\c<=0xef then(0x80,0xbf,3)
 else if c=0xf0 then(0x90,0xbf,4)
 else if 0xf1<=c/\c<=0xf3 then(0x80,0xbf,4)
 else if c=0xf4 then(0x80,0x8f,4)
 else(0,0,1)
theorem E5(c:Int)(w:H) :
  pa prog 150 #[.int .u8 c] w (.tuple #[.int .u8 (cG c).1,.int .u8 (cG c).2.1,.int .i64 (cG c).2.2]):=by
 go_enter func150,ntmps150
 go_wp2
 all_goals go_ret3
 all_goals refine⟨V4 ?_,rfl⟩
 all_goals try simp only[beq_iff_eq,beq_eq_false_iff_ne]at *
 all_goals unfold cG
 all_goals repeat (first|rw[ge M0]|rw[gc M0])
def dV(c:Int):Int×Int×Int :=
 if c<0x80 then(1,0,0)
 else if c<0xc2\/c>0xf4 then(0,0,0)
 else if c<0xe0 then(2,0x80,0xbf)
 else if c=0xe0 then(3,0xa0,0xbf)
 else if c=0xed then(3,0x80,0x9f)
 else if c=0xf0 then(4,0x90,0xbf)
 else if c=0xf4 then(4,0x80,0x8f)
 else if c<0xf0 then(3,0x80,0xbf)
 else(4,0x80,0xbf)
def enc(c:Int):O:=ls (Utf8.encode c)
theorem vl{c:Int}(h:Utf8.valid c=false):Utf8.encode c=E [0xef,0xbf,0xbd]:=by
 unfold Utf8.encode;rw[h];have e:(if false=true then c.toNat else Utf8.runeError)=65533:=rfl;simp only[e];rfl
theorem tP{c:Int}(h:c<0\/0x10ffff<c\/(0xd800<=c/\c<=0xdfff)):Utf8.valid c=false:=by
 unfold Utf8.valid;rw[Bc];simp only[Bool.and_eq_false_iff,gz];omega
theorem Sd{c:Int}(h:c<0\/0x10ffff<c\/(0xd800<=c/\c<=0xdfff)):Ending.returned (.string ⟨#[239,191,189]⟩)=.returned (S (enc c)):=by
 unfold S enc;rw[kt,vl (tP h)];rfl
theorem Wi{c:Int}:Ending.returned (.string (Utf8.encode c))=.returned (S (enc c)):=by
 unfold S enc;rw[kt]
theorem fK(c:Int)(w:H) :
  pa prog 57 #[.int .i64 c] w (S (enc c)):=by
 go_enter func57,ntmps57
 go_wp2
 all_goals go_ret
 all_goals refine⟨?_,rfl⟩
 all_goals first|exact Wi|exact Sd M0

theorem ID{c:Int}(Y:0<=c)(I:c<0x80):enc c=[UInt8.ofNat c.toNat]:=by
 have a:Utf8.valid c=true:=by unfold Utf8.valid;simp;omega
 unfold enc Utf8.encode;simp only[a,if_true];rw[ge M0];rfl
theorem IE{c:Int}(Y:0x80<=c)(I:c<0x800):enc c=[UInt8.ofNat (192+c/64).toNat,UInt8.ofNat (128+c%64).toNat]:=by
 have a:Utf8.valid c=true:=by unfold Utf8.valid;simp;omega
 unfold enc Utf8.encode;simp only[a,if_true];rw[gc M0,ge M0,show(192+c/64).toNat=192+c.toNat/64 by omega,show(128+c%64).toNat=128+c.toNat%64 by omega];rfl
theorem yn{c:Int}(Y:0x800<=c)(I:c<0x10000)(h3:c<0xd800\/0xdfff<c) :
  enc c=[UInt8.ofNat (224+c/4096).toNat,UInt8.ofNat (128+c/64%64).toNat,UInt8.ofNat (128+c%64).toNat]:=by
 have a:Utf8.valid c=true:=by unfold Utf8.valid;simp;omega
 unfold enc Utf8.encode;simp only[a,if_true];rw[gc M0,gc M0,ge M0,show(224+c/4096).toNat=224+c.toNat/4096 by omega,show(128+c/64%64).toNat=128+c.toNat/64%64 by omega,show(128+c%64).toNat=128+c.toNat%64 by omega];rfl
theorem D6{c:Int}(Y:0x10000<=c)(I:c<=0x10ffff) :
  enc c=[UInt8.ofNat (240+c/262144).toNat,UInt8.ofNat (128+c/4096%64).toNat,UInt8.ofNat (128+c/64%64).toNat,UInt8.ofNat (128+c%64).toNat]:=by
 have a:Utf8.valid c=true:=by unfold Utf8.valid;simp;omega
 unfold enc Utf8.encode;simp only[a,if_true];rw[gc M0,gc M0,gc M0,show(240+c/262144).toNat=240+c.toNat/262144 by omega,show(128+c/4096%64).toNat=128+c.toNat/4096%64 by omega,show(128+c/64%64).toNat=128+c.toNat/64%64 by omega,show(128+c%64).toNat=128+c.toNat%64 by omega];rfl
theorem Uy{c:Int}(h:c<0\/0x10ffff<c\/(0xd800<=c/\c<=0xdfff)):enc c=[0xef,0xbf,0xbd]:=by
 unfold enc;rw[vl (tP h),cW]

theorem CU:(prog.info? 3).map (λi=>(i.zero,i.size,i.bytes))=some (some (.int .i64 0),1,8):=Rz
theorem jn:(prog.info? 5).map (λi=>(i.zero,i.size,i.bytes))=some (some (.int .u8 0),1,1):=Rz
theorem wJ{B:Nat}{w:H}{f:Option Addr}{n c:Nat}{l:List Int}(h:Sl B w (.slice f n c) (d8 l))(k:Nat)(g:k<l.length) :
  ∃b o,f=some ⟨b,o,none⟩/\b<B/\w.cell? ⟨b,o+k,none⟩=some (.int .i64 l[k]):=by
 obtain⟨c',_,_,h⟩:=h;rcases h with⟨j,a,e⟩|⟨b,o,U,e,d⟩
 ·obtain rfl:l=[]:=by simpa using j
  simp at g
 injection e with i _ _
 refine⟨b,o,i,U,?_⟩;have:=d k (by simpa using g)
 simpa using this
theorem cQ{B:Nat}{w:H}{v:Z}{xs:List Z}(h:Sl B w v xs):∃a c,v=.slice a xs.length c:=by
 obtain⟨c,_,_,h⟩:=h;rcases h with⟨d,a,rfl⟩|⟨b,o,_,rfl,_⟩
 ·subst d;exact⟨a,c,rfl⟩
 exact⟨_,c,rfl⟩
theorem mm(l m:O):E l++E m=E (l++m):=by
 apply QV
 simp[ls,E]
theorem cy{s:ByteArray}{a:O}(h:s=E a){k:Nat}(c:k<s.size)(X:k<a.length):((s[k]'c).toNat:Int)=G a[k]:=by
 subst h;rfl
theorem dR(l:O)(y:UInt8):Lib.byteCells (l++[y])=Lib.byteCells l++[.int .u8 (G y)]:=by simp[Lib.byteCells,G]
theorem cd(l:O)(a b:Nat):(E l).extract a b=E ((l.drop a).take (b-a)):=by
 apply QV
 rw[cW];unfold ls E;simp[ByteArray.data_extract,List.extract_eq_take_drop]

def sg(c:Int):Bool:=decide (0<=c/\c<=0x10ffff/\(c<0xd800\/0xdfff<c))
theorem sG{c:Int}:sg c=true ↔ 0<=c/\c<=0x10ffff/\(c<0xd800\/0xdfff<c):=by unfold sg;exact decide_eq_true_iff
theorem a5j{c:Int}{b:Bool}(h:b=true ↔ (0<=c/\c<=0x10ffff/\(c<0xd800\/0xdfff<c))):Ending.returned (.bool b)=.returned (.bool (sg c)):=by
 refine eA ?_;rw[bX,h,sG]
def bnd(j bias:Int):Int:=min (max (36*(j+1)-bias) 1) 26
theorem b6t(j bias:Int):1<=bnd j bias/\bnd j bias<=26:=by unfold bnd;omega
def Na(d:Int):Int:=if d<26 then 97+d else 22+d
def wrt(c:Int):Int:=if 97<=c/\c<=122 then c-97 else if 65<=c/\c<=90 then c-65 else if 48<=c/\c<=57 then c-22 else -1
theorem F4(c:Int):-1<=wrt c/\wrt c<=35:=by unfold wrt;split <;>(try split) <;>(try split) <;>omega
def fg(c base:Int):Int :=
 let n:=if 48<=c/\c<=57 then c-48 else if 97<=c/\c<=122 then c-87 else if 65<=c/\c<=90 then c-55 else -1
 if base<=n then -1 else n
theorem pZ(c:Int)(w:H):pa prog 268 #[.int .i64 c] w (.bool (sg c)):=by
 have h:c<0\/(0<=c/\0x10ffff<c)\/(0<=c/\c<=0x10ffff/\c<0xd800)\/(0<=c/\c<=0x10ffff/\0xd800<=c/\0xdfff<c)\/(0<=c/\c<=0x10ffff/\0xd800<=c/\c<=0xdfff):=M0;rcases h with h|⟨h,Y⟩|⟨h,Y,I⟩|⟨h,Y,I,a⟩|⟨h,Y,I,a⟩
 all_goals
  go_enter func268,ntmps268
  go_wp2
  go_ret;exact⟨a5j (by simp;omega),rfl⟩
theorem yf(j bias:Int)(w:H)(h:0<=j/\j<=1024000000)(I:0<=bias/\bias<=1000000):pa prog 276 #[.int .i64 j,.int .i64 bias] w (.int .i64 (bnd j bias)):=by
 go_enter func276,ntmps276
 go_wp2
 all_goals go_ret
 all_goals exact⟨iD (by unfold bnd;omega),rfl⟩
theorem yl(d:Int)(w:H)(h:0<=d/\d<36):pa prog 279 #[.int .i64 d] w (.int .u8 (Na d)):=by
 have Y:d<26\/26<=d:=M0;rcases Y with Y|Y
 all_goals
  go_enter func279,ntmps279
  go_wp2
  go_ret;exact⟨iD (by unfold Na;split <;>omega),rfl⟩
theorem MP(c:Int)(w:H)(h:0<=c/\c<256):pa prog 275 #[.int .u8 c] w (.int .i64 (wrt c)):=by
 have Y:c<48\/(48<=c/\c<=57)\/(57<c/\c<65)\/(65<=c/\c<=90)\/(90<c/\c<97)\/(97<=c/\c<=122)\/122<c:=M0;rcases Y with Y|⟨Y,I⟩|⟨Y,I⟩|⟨Y,I⟩|⟨Y,I⟩|⟨Y,I⟩|Y
 all_goals
  go_enter func275,ntmps275
  go_wp2
  go_ret;exact⟨iD (by unfold wrt;repeat (first|rw[ge M0]|rw[gc M0]);try omega),rfl⟩
theorem zY{c base n:Int}(h:(48<=c/\c<=57/\n=c-48)\/(97<=c/\c<=122/\n=c-87)\/(65<=c/\c<=90/\n=c-55)\/(¬(48<=c/\c<=57)/\¬(97<=c/\c<=122)/\¬(65<=c/\c<=90)/\n=-1)) :
  fg c base=if base<=n then -1 else n:=by
 have:(if 48<=c/\c<=57 then c-48 else if 97<=c/\c<=122 then c-87 else if 65<=c/\c<=90 then c-55 else -1)=n:=by
  rcases h with⟨Y,I,rfl⟩|⟨Y,I,rfl⟩|⟨Y,I,rfl⟩|⟨Y,I,a,rfl⟩
  ·rw[ge ⟨Y,I⟩]
  ·rw[gc M0,ge ⟨Y,I⟩]
  ·rw[gc M0,gc M0,ge ⟨Y,I⟩]
  rw[gc Y,gc I,gc a]
 unfold fg;simp only[this]
theorem b53(c base:Int)(w:H)(h:0<=c/\c<256)(U:0<=base/\base<=1000):pa prog 158 #[.int .u8 c,.int .i64 base] w (.int .i64 (fg c base)):=by
 have Y:c<48\/(48<=c/\c<=57)\/(57<c/\c<65)\/(65<=c/\c<=90)\/(90<c/\c<97)\/(97<=c/\c<=122)\/122<c:=M0;rcases Y with Y|⟨Y,I⟩|⟨Y,I⟩|⟨Y,I⟩|⟨Y,I⟩|⟨Y,I⟩|Y
 all_goals
  go_enter func158,ntmps158
  go_wp2
  all_goals go_ret
  all_goals exact⟨iD (by first|(rw[zY (n:=c-48) M0];split <;>omega)|(rw[zY (n:=c-87) M0];split <;>omega)|(rw[zY (n:=c-55) M0];split <;>omega)|(rw[zY (n:=-1) M0];split <;>omega)),rfl⟩

theorem dm(c base:Int)(w:H)(h:0<=c/\c<256)(U:0<=base/\base<=1000):pa prog 93 #[.int .u8 c,.int .i64 base] w (.int .i64 (fg c base)):=by
 have Y:c<48\/(48<=c/\c<=57)\/(57<c/\c<65)\/(65<=c/\c<=90)\/(90<c/\c<97)\/(97<=c/\c<=122)\/122<c:=M0;rcases Y with Y|⟨Y,I⟩|⟨Y,I⟩|⟨Y,I⟩|⟨Y,I⟩|⟨Y,I⟩|Y
 all_goals
  go_enter func93,ntmps93
  go_wp2
  all_goals go_ret
  all_goals exact⟨iD (by first|(rw[zY (n:=c-48) M0];split <;>omega)|(rw[zY (n:=c-87) M0];split <;>omega)|(rw[zY (n:=c-55) M0];split <;>omega)|(rw[zY (n:=-1) M0];split <;>omega)),rfl⟩

def qi:List Int->Int->Int->Int
 | [],_,f=>f
 |c::r,low,f=>qi r low (if low<=c/\(f<0\/c<f)then c else f)
theorem QT{l:List Int}{k:Nat}(h:k<l.length)(low f:Int):qi (l.drop k) low f=qi (l.drop (k+1)) low (if low<=l[k]/\(f<0\/l[k]<f)then l[k]else f):=by
 rw[aC h];rfl
theorem LD(l:List Int)(low:Int)(v:Z)(w:H)(B:Nat)(h:Sl B w v (d8 l))(z:l.length<=1024000000) :
  pa prog 271 #[v,.int .i64 low] w (.int .i64 (qi l low (-1))):=by
 obtain⟨av,c,rfl⟩:=cQ h;rw[show(d8 l).length=l.length by simp]at h⊢;have d:=wJ h;clear h;have g:=F d;clear d;obtain⟨L,q⟩:=ey (l.length);rw[<-q.o]at z⊢;obtain⟨T,u⟩:=ey (qi l low (-1));rw[<-u.o];go_enter func271,ntmps271
 go_wp2
 go_loopw [5,10] (λf i wr=>∃(k:Nat) (r:Int),k<=L/\i=.int .i64 k/\f=.int .i64 r/\qi (l.drop k) low r=T/\wr=w) (λ_ i _=>L-(intOf i).toNat)
 exact⟨0,-1,aL _,rfl,rfl,by rw[dP];exact u.o.symm,rfl⟩
 obtain⟨k,f,hk,rfl,rfl,a,rfl⟩:=hrel;by_cases e:k<L
 ·have X:k<l.length:=by have:=q.o;omega
  obtain⟨b,o,rfl,U,hcell⟩:=g.o k X;rw[QT X]at a;generalize l[k]=x at a hcell;have t:=F a;clear a;have n:x<low\/(low<=x/\f<0)\/(low<=x/\0<=f/\x<f)\/(low<=x/\0<=f/\f<=x):=M0;rcases n with Y|⟨Y,I⟩|⟨Y,I,y⟩|⟨Y,I,y⟩
  all_goals
   go_wp2
   go_roundw
   ·have a:=t.o
    first
     |(rw[ge M0]at a;exact⟨k+1,x,e,Oc,rfl,a,trivial⟩)
     |(rw[gc M0]at a;exact⟨k+1,f,e,Oc,rfl,a,trivial⟩)
   ·simp[intOf];omega
 obtain rfl:L=k:=M0;rw[dG (by have:=q.o;omega)]at a;have p:f=T:=a;clear a;subst p
 go_wp2
 go_ret;exact⟨rfl,rfl⟩

def jA:Nat->Int->Int->Int
 |0,e,k=>k+36*e/(e+38)
 |f+1,e,k=>if 455<e then jA f (e/35) (k+36)else k+36*e/(e+38)
theorem E7(f:Nat){e k:Int}(h:e<=455):jA f e k=k+36*e/(e+38):=by
 cases f with
 |zero=>rfl
 |succ f=>unfold jA;rw[gc M0]
def nb(d n:Int)(first:Bool):Int :=
 let e:=if first then d/700 else d/2
 jA 64 (e+e/n) 0
theorem ju{a b:Int}(h:0<=a):Int.tdiv a b=a/b:=a1A h
theorem mJ(d n:Int)(first:Bool)(w:H)(hd:0<=d/\d<=1099511627776)(hn:1<=n/\n<=1000) :
  pa prog 270 #[.int .i64 d,.int .i64 n,.bool first] w (.int .i64 (nb d n first)):=by
 obtain⟨T,p⟩:=V (nb d n first);rw[<-p];obtain⟨e,he⟩:=V (if first then d/700 else d/2);have i:T=jA 64 (e+e/n) 0:=by rw[p,he];rfl
 clear p;have c:0<=e/\e<=549755813888:=by rw[he];split <;>omega
 have u:0<=e/n/\e/n<=e:=⟨de c.1 M0,m7 _ c.1⟩;have hen:Int.tdiv e n=e/n:=ju c.1;have t:=F i;clear i;cases first
 all_goals
  simp only[eH,if_false,if_true]at he;have hd1:Int.tdiv d 700=d/700:=ju hd.1;have hd2:Int.tdiv d 2=d/2:=ju hd.1;subst he;go_enter func270,ntmps270
  go_wp2
  go_loopw [0,7] (λm v wr=>∃(f:Nat) (e k:Int),m=.int .i64 e/\v=.int .i64 k/\jA f e k=T/\0<=e/\e<2 ^ f/\e<=1099511627776/\0<=k/\k+36*f<=2304/\wr=w) (λm _ _=>(intOf m).toNat)
  exact⟨64,_,0,rfl,rfl,t.o.symm,M0,M0,M0,M0,M0,rfl⟩
  obtain⟨f,e,k,rfl,rfl,g,q,a,hel,hk0,hkf,rfl⟩:=hrel;by_cases r:455<e
  ·cases f with
   |zero=>simp at a;omega
   |succ f =>
    have j:jA f (e/35) (k+36)=T:=by
     unfold jA at g;rw[ge r]at g;exact g
    rw[lq]at a;have s:=F j;clear j g;have h:e/35<2 ^ f:=M0;have l:=F h;clear h a;have h35:Int.tdiv e 35=e/35:=ju q
    go_wp2
    go_roundw
    exact⟨f,e/35,k+36,Oc,Oc,s.o,M0,l.o,M0,M0,M0,trivial⟩
    exact aa
  rw[E7 f M0]at g;have u:0<=36*e/(e+38)/\36*e/(e+38)<=36*e:=⟨de M0 M0,m7 _ M0⟩;have ht:Int.tdiv (36*e) (e+38)=36*e/(e+38):=ju M0;clear a
  go_wp2
  go_ret;exact⟨iD (by first|exact g|rfl),rfl⟩

def nH:O->Nat->Int->Int->Int->Int×Int
 | [],_,_,_,_=>(0,0)
 |x::r,j,sum,wt,bias =>
  let c:=wrt (G x)
  if c<0 then(0,0)
  else if 2147483647<sum+c*wt then(0,0)
  else if c<bnd j bias then(sum+c*wt,(j:Int)+1)
  else nH r (j+1) (sum+c*wt) (wt*(36-bnd j bias)) bias
theorem Mb{l:O}{k:Nat}(h:k<l.length)(sum wt bias:Int):nH (l.drop k) k sum wt bias =
  if wrt (G l[k])<0 then(0,0)else if 2147483647<sum+wrt (G l[k])*wt then(0,0)else if wrt (G l[k])<bnd k bias then(sum+wrt (G l[k])*wt,(k:Int)+1)
  else nH (l.drop (k+1)) (k+1) (sum+wrt (G l[k])*wt) (wt*(36-bnd k bias)) bias:=by
 rw[aC h];rfl
def rd(l:O)(bias:Int):Int×Int:=nH l 0 0 1 bias
theorem AN{a b:Int}{t:Int×Int}(h:(a,b)=t):Ending.returned (.tuple #[.int .i64 a,.int .i64 b])=.returned (.tuple #[.int .i64 t.1,.int .i64 t.2]):=by subst h;rfl
theorem QY{c wt:Int}(h:0<=c/\c<=36)(hw:1<=wt/\wt<=77309411292):0<=c*wt/\c*wt<=2783138806512:=by
 refine⟨eh h.1 M0,?_⟩;have Y:c*wt<=36*wt:=eK h.2 M0;omega
theorem Gu{c wt:Int}(h:1<=c)(hw:1<=wt):wt<=c*wt:=by
 have Y:1*wt<=c*wt:=eK h M0;omega
theorem Dt(s:ByteArray)(bias:Int)(w:H)(hs:s.size<=921600000)(U:0<=bias/\bias<=1000000) :
  pa prog 267 #[.string s,.int .i64 bias] w (.tuple #[.int .i64 (rd (ls s) bias).1,.int .i64 (rd (ls s) bias).2]):=by
 obtain⟨T,HT⟩:=ey (rd (ls s) bias);rw[<-HT.o];obtain⟨l,D⟩:=ey (ls s);have x:s=E l:=by rw[D.o,kt]
 obtain⟨L,K⟩:=V (s.size);have ZF:L=l.length:=by rw[K,D.o,nD]
 have hsz:s.size=L:=K.symm;have HL:=F ZF;clear ZF;have HS:=F x;clear x;rw[hsz]at hs;clear K;go_enter func267,ntmps267
 go_wp2
 go_loopw [6,7,13] (λsv wv iv wr=>∃(k:Nat) (sum wt:Int),k<=L/\iv=.int .i64 k/\sv=.int .i64 sum/\wv=.int .i64 wt/\nH (l.drop k) k sum wt bias=T/\0<=sum/\sum<=2147483647/\1<=wt/\wt<=77309411292/\wr=w) (λ_ _ i _=>L-(intOf i).toNat)
 exact⟨0,0,1,aL _,rfl,rfl,rfl,by rw[dP,D.o];exact HT.o.symm,M0,M0,M0,M0,rfl⟩
 obtain⟨k,sum,wt,hk,rfl,rfl,rfl,a,hs0,hs1,r,y,rfl⟩:=hrel;by_cases R:k<L
 ·have X:k<l.length:=by have:=HL.o;omega
  have d:k<s.size:=M0;rw[Mb X,<-cy HS.o d X]at a;have z:0<=((s[k]'d).toNat:Int)/\((s[k]'d).toNat:Int)<256:=by have:=(s[k]'d).toNat_lt;omega
  have Q:=F4 ((s[k]'d).toNat:Int);obtain⟨c,P⟩:=V (wrt ((s[k]'d).toNat:Int));rw[<-P]at a Q;have J:=λW=>MP ((s[k]'d).toNat:Int) W z;rw[<-P]at J;have n:=F J;clear J z P;have N:=b6t k bias;have t:=λW=>yf k bias W M0 U;obtain⟨b,u⟩:=V (bnd k bias);rw[<-u]at a t N;have xt:=F t;clear t u;by_cases v:c<0
  ·rw[ge v]at a
   have f:=F a;clear a
   go_wp2_with(go_at_call 275;refine(n.o _).e ?_)
   go_ret2
   exact⟨AN f.o,rfl⟩
  rw[gc v]at a;have hm:=QY (c:=c) (wt:=wt) M0 ⟨r,y⟩;have j:=λh=>Gu (c:=c) (wt:=wt) h r;obtain⟨p,hp⟩:=V (c*wt);rw[<-hp]at a hm j;by_cases g:2147483647<sum+p
  ·rw[ge g]at a
   have f:=F a;clear a;rw[hp]at g hm;clear j
   go_wp2_with(go_at_call 275;refine(n.o _).e ?_)
   go_ret2
   exact⟨AN f.o,rfl⟩
  rw[gc g]at a;have q:c<b\/b<=c:=M0;rcases q with q|q
  ·rw[ge q]at a
   have f:=F a;clear a;rw[hp]at g hm f;clear j
   go_wp2_with(first|(go_at_call 275;refine(n.o _).e ?_)|(go_at_call 276;refine(xt.o _).e ?_))
   go_ret2
   exact⟨AN f.o,rfl⟩
  rw[gc M0]at a;have hwl:wt<=2147483647:=by have:=j M0;omega
  have hm2:=QY (c:=36-b) (wt:=wt) M0 ⟨r,y⟩;have Vb:36-b<=35:=M0;have hm4:=Gu (c:=36-b) (wt:=wt) M0 r
  have hm5:(36-b)*wt<=77309411292:=by
   have Y:(36-b)*wt<=35*wt:=eK Vb M0;omega
  rw[wd (36-b) wt]at hm2 hm4 hm5;have f:=F a;clear a;rw[hp]at g hm f;clear j
  go_wp2_with(first|(go_at_call 275;refine(n.o _).e ?_)|(go_at_call 276;refine(xt.o _).e ?_))
  go_roundw
  exact⟨k+1,sum+c*wt,wt*(36-b),R,Oc,rfl,rfl,f.o,M0,M0,M0,M0,trivial⟩
  exact aa
 obtain rfl:L=k:=M0;rw[dG (by have:=HL.o;omega)]at a;have f:=F a;clear a
 go_wp2
 go_ret2
 exact⟨AN f.o,rfl⟩

def db(d:Int):UInt8:=UInt8.ofNat (Na d).toNat
theorem ZQ{d:Int}(h:0<=d/\d<36):48<=Na d/\Na d<=122:=by unfold Na;split <;>omega
theorem Ik{d:Int}(h:0<=d/\d<36):G (db d)=Na d:=by
 have:=ZQ h;unfold G db;rw[fB];omega
def nt:Nat->Nat->Int->Int->O
 |0,_,d,_=>[db d]
 |f+1,j,d,bias=>if d<bnd j bias then [db d]else db (bnd j bias+(d-bnd j bias)%(36-bnd j bias))::nt f (j+1) ((d-bnd j bias)/(36-bnd j bias)) bias
def nu(d bias:Int):O:=nt 40 0 d bias
theorem lE(f j:Nat){d bias:Int}(h:d<bnd j bias):nt f j d bias=[db d]:=by
 cases f with
 |zero=>rfl
 |succ f=>unfold nt;rw[ge h]
theorem lF{f j:Nat}{d bias:Int}(h:¬d<bnd j bias)(a:d<2 ^ f)(h0:0<=d) :
  ∃g,f=g+1/\nt f j d bias=db (bnd j bias+(d-bnd j bias)%(36-bnd j bias))::nt g (j+1) ((d-bnd j bias)/(36-bnd j bias)) bias/\(d-bnd j bias)/(36-bnd j bias)<2 ^ g:=by
 have U:=b6t j bias;cases f with
 |zero=>simp at a;omega
 |succ g =>
  refine⟨g,rfl,by rw[nt,gc h],?_⟩;rw[lq]at a
  have Y:(d-bnd j bias)/(36-bnd j bias)<=(d-bnd j bias)/2:=by
   refine Int.le_ediv_of_mul_le M0 ?_;have I:(d-bnd j bias)/(36-bnd j bias)*(36-bnd j bias)<=d-bnd j bias:=Int.ediv_mul_le _ M0;have h3:(d-bnd j bias)/(36-bnd j bias)*2<=(d-bnd j bias)/(36-bnd j bias)*(36-bnd j bias):=TS M0 (de M0 M0);omega
  omega
def a8u(w:H)(base:Nat)(l:O):Ending->H->Prop:=λen w' =>
 ∃v',en=.returned v'/\w'.ownsRow base 5 1 v' l.length (Lib.byteCells l)/\w.heap.size<=w'.heap.size/\Below base w w'
theorem MR(v:Z)(l:O)(d bias:Int)(base:Nat)(w:H)(h:w.ownsRow base 5 1 v l.length (Lib.byteCells l))(hl:l.length<=1024000000)(hbase:base<=w.heap.size)
  (hd:0<=d/\d<1099511627776) (U:0<=bias/\bias<=1000000) :
  Calls prog 272 #[v,.int .i64 d,.int .i64 bias] w λe w'=>a8u w base (l++nu d bias) e w':=by
 obtain⟨i8,tA,Bl,lK,nC⟩:=info_parts jn;obtain⟨T,HT⟩:=ey (l++nu d bias);rw[<-HT.o];have H':=F h;clear h;have xM:=F hl;clear hl;go_enter func272,ntmps272
 go_wp2
 go_loopw [0,1,7] (λov Q jv wr=>∃(f j:Nat) (d:Int) (acc:O),Q=.int .i64 d/\jv=.int .i64 j/\wr.ownsRow base 5 1 ov acc.length (Lib.byteCells acc)/\acc.length<=1024000000+j /\
   acc++nt f j d bias=T/\0<=d/\d<1099511627776/\d<2 ^ f/\j+f<=40/\w.heap.size<=wr.heap.size/\Below base w wr) (λ_ Q _ _=>(intOf Q).toNat)
 exact⟨40,0,d,l,rfl,rfl,H'.o,by have:=xM.o;omega,HT.o.symm,hd.1,hd.2,M0,M0,ag _,gT _ _⟩
 obtain⟨f,j,d,acc,rfl,rfl,hown,z,hacc,hd0,hd1,q,hjf,hwz,hbel⟩:=hrel;have K:=F hown;clear hown;have HB:=F hbel;clear hbel;have hbr:=b6t j bias;have p:=λW=>yf j bias W M0 U;obtain⟨b,B⟩:=V (bnd j bias);have hlast:=lE f j (d:=d) (bias:=bias);have hmore:=lF (f:=f) (j:=j) (d:=d) (bias:=bias);rw[<-B]at hbr p hlast hmore;have xt:=F p;clear p B;by_cases C:d<b
 ·rw[hlast C]at hacc
  have k:0<=d/\d<36:=M0;have i:=λW=>yl d W k;have a:=Ik k;have c:=dR acc (db d);rw[a]at c;rw[hacc]at c;have x:T.length=acc.length+1:=by rw[<-hacc];simp
  obtain⟨y,hy⟩:=V (Na d);rw[<-hy]at i c;have M:=F i;clear i a hy hlast hmore q k;have mY:=F c;clear c hacc;have zF:=F x;clear x;obtain⟨u,L⟩:=ey (acc.length);have r:=K.o;rw[<-L.o]at z r;have xu:=F r;clear r K
  go_wp2_with(first|(go_at_call 276;refine(xt.o _).e ?_)|(go_at_call 279;refine(M.o _).m ?_;rintro e J⟨rfl,rfl⟩)|(at_builtin;(refine et rfl 17 20 _ rfl base 5 i8 (.int .u8 0) 1 underlying25 tA Bl lK nC P8 _ _ _ (Lib.byteCells acc) rfl xu.o (.int .u8 y) rfl rfl M0 P8 M0 ?_);intro v2 J hown2 hw2 a;have R:=F hown2;clear hown2;have n:=F a;clear a))
  go_ret;refine⟨_,rfl,?_,M0,HB.o.trans n.o⟩;rw[zF.o,mY.o,<-L.o];exact R.o
 obtain⟨g,rfl,D,t⟩:=hmore C q hd0;rw[D]at hacc;have hr:0<=(d-b)%(36-b)/\(d-b)%(36-b)<36-b:=⟨oH _ M0,kN _ M0⟩;have hq:0<=(d-b)/(36-b)/\(d-b)/(36-b)<=d-b:=⟨de M0 M0,m7 _ M0⟩;have ht1:Int.tmod (d-b) (36-b)=(d-b)%(36-b):=ei M0;have ht2:Int.tdiv (d-b) (36-b)=(d-b)/(36-b):=ju M0;have k:0<=b+(d-b)%(36-b)/\b+(d-b)%(36-b)<36:=M0;have i:=λW=>yl _ W k;have a:=Ik k;have c:=dR acc (db (b+(d-b)%(36-b)));rw[a]at c;obtain⟨y,hy⟩:=V (Na (b+(d-b)%(36-b)));rw[<-hy]at i c;have M:=F i;clear i a hy hlast hmore q k;have mY:=F c;clear c;have N:=F hacc;clear hacc D;have P:=F t;clear t;obtain⟨u,L⟩:=ey (acc.length);have r:=K.o;rw[<-L.o]at z r;have xu:=F r;clear r K
 go_wp2_with(first|(go_at_call 276;refine(xt.o _).e ?_)|(go_at_call 279;refine(M.o _).m ?_;rintro e J⟨rfl,rfl⟩)|(at_builtin;(refine et rfl 25 33 _ rfl base 5 i8 (.int .u8 0) 1 underlying25 tA Bl lK nC P8 _ _ _ (Lib.byteCells acc) rfl xu.o (.int .u8 y) rfl rfl M0 P8 M0 ?_);intro v2 J hown2 hw2 a;have R:=F hown2;clear hown2;have n:=F a;clear a))
 go_roundw
 ·refine⟨g,j+1,(d-b)/(36-b),acc++[db (b+(d-b)%(36-b))],Oc,Oc,?_,by rw[ae,<-L.o];simp;omega,?_,M0,M0,P.o,M0,M0,HB.o.trans n.o⟩
  ·rw[ae,<-L.o,mY.o]
   exact R.o
  rw[bB];exact N.o
 ·simp[intOf];omega

structure En where
 o:O
 d:Int
 done:Int
 bias:Int
 first:Bool
def iE(sign c:Int)(s:En):En :=
 if c=sign then⟨s.o++nu (if c<sign then s.d+1 else s.d) s.bias,0,s.done+1,nb (if c<sign then s.d+1 else s.d) (s.done+1) s.first,false⟩
 else⟨s.o,if c<sign then s.d+1 else s.d,s.done,s.bias,s.first⟩
def eG(sign:Int):List Int->En->En
 | [],s=>s
 |c::r,s=>eG sign r (iE sign c s)
theorem GN{l:List Int}{k:Nat}(h:k<l.length)(sign:Int)(s:En):eG sign (l.drop k) s=eG sign (l.drop (k+1)) (iE sign l[k] s):=by
 rw[aC h];rfl
theorem yY(sign:Int):∀(l m:List Int) (s:En),eG sign (l++m) s=eG sign m (eG sign l s)
 | [],_,_=>rfl
 |_::r,m,s=>yY sign r m (iE sign _ s)
theorem wD(sign:Int){l:List Int}{k:Nat}(h:k<l.length)(s:En):eG sign (l.take (k+1)) s=iE sign l[k] (eG sign (l.take k) s):=by
 rw[aH h,yY];rfl
def pD:Nat->List Int->Int->En->O
 |0,_,_,s=>s.o
 |f+1,l,sign,s =>
  if s.done<l.length then
   let m:=qi l sign (-1)
   let t:=eG m l ⟨s.o,s.d+(m-sign)*(s.done+1),s.done,s.bias,s.first⟩
   pD f l (m+1) ⟨t.o,t.d+1,t.done,t.bias,t.first⟩
  else s.o
def lD(l:List Int):O:=(l.filter (λc=>decide (c<128))).map (λc=>UInt8.ofNat c.toNat)
def hyp(b:O):O:=if b.length=0 then []else [45]
def Fy(l:List Int):O:=pD l.length l 128 ⟨lD l++hyp (lD l),0,(lD l).length,72,true⟩
def cnt(l:List Int)(sign:Int):Nat:=(l.filter (λc=>decide (c<sign))).length
def eqs(l:List Int)(sign:Int):Nat:=(l.filter (λc=>decide (c=sign))).length
theorem Ov(l:List Int)(sign:Int):cnt l sign<=l.length:=dO _ _
theorem uV(sign:Int):∀l:List Int,cnt l (sign+1)=cnt l sign+eqs l sign
 | []=>rfl
 |c::r=>by
  have ih:=uV sign r;unfold cnt eqs at *;by_cases Y:c<sign
  ·rw[aU (by simp;omega),aU (by simp;omega),aZ (by simp;omega)]
   simp only[cz];omega
  by_cases I:c=sign
  ·rw[aU (by simp;omega),aZ (by simp;omega),aU (by simp;omega)]
   simp only[cz];omega
  rw[aZ (by simp;omega),aZ (by simp;omega),aZ (by simp;omega)];omega
theorem BQ{m sign:Int}(hm:sign<=m):∀{l:List Int},(∀c∈l,sign<=c->m<=c)->cnt l m=cnt l sign
 | [],_=>rfl
 |c::r,h=>by
  have d:=BQ hm (l:=r) (λc a=>h c (by simp[a]));have a:=h c Oc;unfold cnt at *;by_cases Y:c<sign
  ·rw[aU (by simp;omega),aU (by simp;omega)]
   simp only[cz];omega
  have:=a M0;rw[aZ (by simp;omega),aZ (by simp;omega)];exact d
theorem IH{m:Int}{l:List Int}(h:m∈l):1<=eqs l m:=by
 unfold eqs;exact List.length_pos_of_mem (a3J.mpr ⟨h,Oc⟩)
theorem cnt_lt{l:List Int}{sign:Int}(h:cnt l sign<l.length):∃c∈l,sign<=c:=by
 by_cases a:∃c∈l,sign<=c
 ·exact a
 exfalso
 have:l.filter (λc=>decide (c<sign))=l:=a8n.mpr λc d=>by
  simp only[gx];by_cases I:c<sign
  ·exact I
  exact absurd ⟨c,d,M0⟩ a
 unfold cnt at h;rw[this]at h;omega
theorem vT:∀(l:List Int) (low f:Int),0<=low->(f<0\/low<=f) ->
  (qi l low f=f/\∀c∈l,low<=c->0<=f/\f<=c)\/(qi l low f∈l/\low<=qi l low f/\(∀c∈l,low<=c->qi l low f<=c)/\(0<=f->qi l low f<=f))
 | [],low,f,_,_=>.inl ⟨rfl,Oc⟩
 |x::r,low,f,k,o=>by
  have e:qi (x::r) low f=qi r low (if low<=x/\(f<0\/x<f)then x else f):=rfl;by_cases h:low<=x/\(f<0\/x<f)
  ·rw[ge h]at e
   have j:=vT r low x k (.inr h.1);rw[e]
   right
   rcases j with⟨Y,I⟩|⟨Y,I,i,g⟩
   ·refine⟨by rw[Y];simp,by rw[Y];exact h.1,λc a d=>?_,λm=>by rw[Y];omega⟩
    rw[Y];rcases aK.mp a with rfl|a
    ·exact kQ _
    exact(I c a d).2
   have n:=g M0;refine⟨by simp[Y],I,λc a d=>?_,λm=>M0⟩;rcases aK.mp a with rfl|a
   ·exact n
   exact i c a d
  rw[gc h]at e;have j:=vT r low f k o;rw[e];rcases j with⟨Y,I⟩|⟨Y,I,i,g⟩
  ·left
   refine⟨Y,λc a d=>?_⟩;rcases aK.mp a with rfl|a
   ·omega
   exact I c a d
  right
  refine⟨by simp[Y],I,λc a d=>?_,g⟩;rcases aK.mp a with rfl|a
  ·have:0<=f/\f<=c:=by omega
   have:=g this.1;omega
  exact i c a d
theorem yL{l:List Int}{low:Int}(a:0<=low)(h:∃c∈l,low<=c):qi l low (-1)∈l/\low<=qi l low (-1)/\∀c∈l,low<=c->qi l low (-1)<=c:=by
 rcases vT l low (-1) a (.inl M0)with⟨Y,I⟩|⟨Y,I,d,_⟩
 ·obtain⟨c,e,f⟩:=h
  have:=(I c e f).1;omega
 exact⟨Y,I,d⟩
theorem qB:∀(f:Nat) (e k:Int),0<=e->0<=k->0<=jA f e k/\jA f e k<=k+36*f+36
 |0,e,k,he,a=>by
  have Y:0<=36*e/(e+38):=de M0 M0
  have I:36*e/(e+38)<=36:=by
   refine b3T M0 ?_;omega
  unfold jA;omega
 |f+1,e,k,he,a=>by
  unfold jA
  split
  ·have:=qB f (e/35) (k+36) M0 (by omega)
   omega
  have Y:0<=36*e/(e+38):=de M0 M0
  have I:36*e/(e+38)<=36:=by
   refine b3T M0 ?_;omega
  omega
theorem vW{d n:Int}(first:Bool)(hd:0<=d)(hn:1<=n):0<=nb d n first/\nb d n first<=2400:=by
 unfold nb;have a:0<=(if first then d/700 else d/2):=by split <;>omega
 have Y:0<=(if first then d/700 else d/2)/n:=de a M0;have:=qB 64 ((if first then d/700 else d/2)+(if first then d/700 else d/2)/n) 0 M0 M0;simp only;omega
theorem Ce:∀(f j:Nat) (d bias:Int),1<=(nt f j d bias).length/\(nt f j d bias).length<=f+1
 |0,j,d,bias=>by simp[nt]
 |f+1,j,d,bias=>by
  unfold nt
  split
  ·simp
  have:=Ce f (j+1) ((d-bnd j bias)/(36-bnd j bias)) bias;simp only[cz];omega
theorem b7j(d bias:Int):1<=(nu d bias).length/\(nu d bias).length<=41:=Ce 40 0 d bias
theorem yZ(sign:Int)(l:List Int)(s:En)(hd:0<=s.d)(a:0<=s.done)(U:0<=s.bias/\s.bias<=2400) :
  ∀k,k<=l.length->0<=(eG sign (l.take k) s).d/\(eG sign (l.take k) s).d<=s.d+k/\(eG sign (l.take k) s).done=s.done+eqs (l.take k) sign /\
   0<=(eG sign (l.take k) s).bias/\(eG sign (l.take k) s).bias<=2400/\(eG sign (l.take k) s).o.length<=s.o.length+41*eqs (l.take k) sign
 |0,_=>by
  rw[jk];have:eqs [] sign=0:=rfl;show 0<=s.d/\_;refine⟨hd,?_,?_,U.1,U.2,?_⟩
  ·show s.d<=s.d+_;omega
  ·show s.done=_;rw[this];omega
  show s.o.length<=_;omega
 |k+1,hk=>by
  have X:k<l.length:=M0;obtain⟨Y,I,h3,e,f,h6⟩:=yZ sign l s hd a U k M0;rw[wD sign X,aH X]
  have he:eqs (l.take k++[l[k]]) sign=eqs (l.take k) sign+if l[k]=sign then 1 else 0:=by
   unfold eqs;rw[fy,ae];by_cases h:l[k]=sign
   ·rw[ge h,aU (by simp[h])];rfl
   rw[gc h,aZ (by simp[h])];rfl
  rw[he];generalize eG sign (l.take k) s=t at *;generalize eqs (l.take k) sign=q at *;unfold iE;by_cases h:l[k]=sign
  ·rw[ge h,ge h]
   rw[gc M0];have c:=vW (d:=t.d) (n:=t.done+1) t.first Y M0;have hl:=b7j t.d t.bias;refine⟨kQ _,?_,?_,c.1,c.2,?_⟩
   ·show(0:Int)<=_;omega
   ·show t.done+1=_;omega
   show(t.o++nu t.d t.bias).length<=_;rw[ae];omega
  rw[gc h,gc h];refine⟨?_,?_,?_,e,f,?_⟩
  ·dsimp only;split <;>omega
  ·dsimp only;split <;>omega
  ·show t.done=_;omega
  show t.o.length<=_;omega

theorem vh(f:Nat){l:List Int}{sign:Int}{s:En}(h:¬s.done<l.length):pD f l sign s=s.o:=by
 cases f with
 |zero=>rfl
 |succ f=>unfold pD;rw[gc h]
theorem vi(f:Nat){l:List Int}{sign:Int}{o:O}{d dn bi:Int}{fi:Bool}(h:dn<l.length) :
  pD (f+1) l sign ⟨o,d,dn,bi,fi⟩=pD f l (qi l sign (-1)+1) ⟨(eG (qi l sign (-1)) l ⟨o,d+(qi l sign (-1)-sign)*(dn+1),dn,bi,fi⟩).o,(eG (qi l sign (-1)) l ⟨o,d+(qi l sign (-1)-sign)*(dn+1),dn,bi,fi⟩).d+1,
   (eG (qi l sign (-1)) l ⟨o,d+(qi l sign (-1)-sign)*(dn+1),dn,bi,fi⟩).done,(eG (qi l sign (-1)) l ⟨o,d+(qi l sign (-1)-sign)*(dn+1),dn,bi,fi⟩).bias,(eG (qi l sign (-1)) l ⟨o,d+(qi l sign (-1)-sign)*(dn+1),dn,bi,fi⟩).first⟩:=by
 rw[pD,ge h]
theorem Zt(l:List Int)(m:Int):eqs l m<=l.length:=dO _ _
theorem NY{l:List Int}{k:Nat}(h:k<l.length):lD (l.take (k+1))=lD (l.take k)++if l[k]<128 then [UInt8.ofNat l[k].toNat]else []:=by
 rw[aH h];unfold lD;rw[fy,eY];by_cases I:l[k]<128
 ·rw[ge I,aU (by simpa using I)];rfl
 rw[gc I,aZ (by simpa using I)];rfl
theorem zN(l:List Int):(lD l).length=cnt l 128:=by unfold lD cnt;rw[ay]
theorem uR(l:List Int):(lD l).length<=l.length:=by rw[zN];exact Ov l 128
theorem Xn{c:Int}(h:0<=c/\c<256):G (UInt8.ofNat c.toNat)=c:=by
 unfold G;rw[fB];omega
def encR(l:List Int):O×Bool:=if 255<l.length\/¬l.all sg=true then([],false)else(Fy l,true)
theorem AL{l:O}{b:Bool}{t:O×Bool}(h:t=(l,b)):Ending.returned (.tuple #[S l,.bool b])=.returned (.tuple #[S t.1,.bool t.2]):=by subst h;rfl
theorem NH{l:List Int}{k:Nat}(h:k<l.length)(a:∀c∈l.take k,sg c=true)(X:sg l[k]=true):∀c∈l.take (k+1),sg c=true:=by
 rw[aH h];intro c d;rcases bO.mp d with h|h
 ·exact a c h
 simp at h;subst h;exact X
theorem OW{l:List Int}{c:Int}(d:c∈l)(h:sg c=false):encR l=([],false):=by
 unfold encR;rw[ge]
 right
 intro a;have:=dl.mp a c d;rw[h]at this;exact absurd this Oc
theorem Ux{l:List Int}(hl:l.length<=255)(h:∀c∈l,sg c=true):encR l=(Fy l,true):=by
 unfold encR;rw[gc];rintro(Y|Y)
 ·omega
 exact Y (dl.mpr h)
theorem row_one{sign c:Int}{o:O}{d dn bi:Int}{fi:Bool}(h:c=sign):iE sign c ⟨o,d,dn,bi,fi⟩=⟨o++nu d bi,0,dn+1,nb d (dn+1) fi,false⟩:=by
 unfold iE;simp only;rw[ge h,gc M0]
theorem Dz{sign c:Int}{o:O}{d dn bi:Int}{fi:Bool}(h:c<sign):iE sign c ⟨o,d,dn,bi,fi⟩=⟨o,d+1,dn,bi,fi⟩:=by
 unfold iE;simp only;rw[gc M0,ge h]
theorem DA{sign c:Int}{o:O}{d dn bi:Int}{fi:Bool}(h:sign<c):iE sign c ⟨o,d,dn,bi,fi⟩=⟨o,d,dn,bi,fi⟩:=by
 unfold iE;simp only;rw[gc M0,gc M0]
theorem Jq{a b:Int}(h:0<=a/\a<=1114112)(U:1<=b/\b<=256):0<=a*b/\a*b<=285212672:=by
 refine⟨eh h.1 M0,?_⟩;have Y:a*b<=a*256:=TS U.2 h.1;omega
theorem Ck(l:List Int)(av:Option Addr)(c:Nat)(w:H)(h:Sl w.heap.size w (.slice av l.length c) (d8 l))(hl:l.length<=255) :
  bF prog 260 #[.slice av l.length c] w (.tuple #[S (encR l).1,.bool (encR l).2]):=by
 obtain⟨i8,tA,Bl,lK,nC⟩:=info_parts jn;have hat:=wJ h;have HAT:=F hat;clear hat;obtain⟨R,HR⟩:=ey (encR l);rw[<-HR.o];obtain⟨L,y⟩:=ey (l.length);rw[<-y.o]at h hl⊢;have HS:=F h;clear h;go_enter func260,ntmps260
 go_wp2
 go_loopw [4,20] (λov iv wr=>∃(k:Nat),k<=L/\iv=.int .i64 k/\wr.ownsRow w.heap.size 5 1 ov (lD (l.take k)).length (Lib.byteCells (lD (l.take k)))/\(∀x∈l.take k,sg x=true)/\w.heap.size<=wr.heap.size/\r7 w wr) (λ_ i _=>L-(intOf i).toNat)
 exact⟨0,aL _,rfl,⟨by simp[lD,Lib.byteCells],.inl ⟨rfl,by simp[lD]⟩⟩,Oc,ag _,gT _ _⟩
 obtain⟨k,hk,rfl,hown,hall,s,hbel⟩:=hrel;have HO:=F hown;clear hown;have HA:=F hall;clear hall;have HB:=F hbel;clear hbel;by_cases hlt:k<L
 ·have X:k<l.length:=by have:=y.o;omega
  obtain⟨b,o,rfl,U,Y⟩:=HAT.o k X
  have hcell:wr.cell? ⟨b,o+k,none⟩=some (.int .i64 l[k]):=by
   rw[(HB.o).cell (p:=⟨b,o+k,none⟩) U,Y]
  clear Y;have hmem:l[k]∈l:=be X;have hbs:=NY X;have has:=NH X HA.o;have hbl:(lD (l.take k)).length<=k:=am (uR _) (List.length_take_le _ _);generalize l[k]=x at hcell hmem hbs has;have Bd:=F hbs;clear hbs;have HAS:=F has;clear has;have HM:=F hmem;clear hmem;have D:=λW=>pZ x W;cases u:sg x with
  |false =>
   rw[u]at D;have MY:=F D;clear D;have hres:=OW HM.o u;have Bw:=F hres;clear hres u
   go_wp2_with(go_at_call 268;refine(MY.o _).e ?_)
   go_ret2
   exact⟨AL (l:=[]) (b:=false) (by rw[HR.o,Bw.o]),HB.o⟩
  |true =>
   have hsr:=sG.mp u;rw[u]at D;have MY:=F D;clear D;have ma:=F u;clear u;have hcs:x<128\/128<=x:=M0;rcases hcs with hc|hc
   ·go_wp2_with(first|(go_at_call 268;refine(MY.o _).m ?_;rintro e w2⟨rfl,rfl⟩)|(at_builtin;(refine et rfl 29 32 _ rfl w.heap.size 5 i8 (.int .u8 0) 1 underlying25 tA Bl lK nC P8 _ _ _ (Lib.byteCells (lD (l.take k))) rfl HO.o (.int .u8 x) rfl rfl M0 P8 M0 ?_);intro v2 w2 hown2 hw2 K;have eJ:=F hown2;clear hown2;have HB2:=F K;clear K))
    go_roundw
    ·refine⟨k+1,hlt,Oc,?_,HAS.o ma.o,M0,HB.o.trans HB2.o⟩;rw[Bd.o,ge hc,ae,dR,Xn M0];exact eJ.o
    ·simp[intOf];omega
   go_wp2_with(go_at_call 268;refine(MY.o _).m ?_;rintro e w2⟨rfl,rfl⟩)
   go_roundw
   ·refine⟨k+1,hlt,Oc,?_,HAS.o ma.o,M0,HB.o⟩;rw[Bd.o,gc M0,aV];exact HO.o
   ·simp[intOf];omega
 obtain rfl:L=k:=M0;have e1:l.take L=l:=aP (by have:=y.o;omega);have ho:=HO.o;have hall:=HA.o;rw[e1]at ho hall;have hre:=Ux (by have:=y.o;omega) hall;have Bw:=F hre;clear hre;have JV:=F hall;clear hall;clear HO HA e1;obtain⟨ao,co,hv⟩:=cQ (Sl.g9 ho);rw[hb]at hv;subst hv;have hnl:=uR l;have hnc:=zN l;obtain⟨n,hn⟩:=V ((lD l).length);rw[<-hn]at ho hnl hnc⊢;have b4O:n<=L:=by have:=y.o;omega
 clear hnl;have HN:=F hn;clear hn;have HNC:=F hnc;clear hnc;have HO:=F ho;clear ho
 have a4F:n=0->wr.ownsRow w.heap.size 5 1 (.slice ao n co) (lD l++hyp (lD l)).length (Lib.byteCells (lD l++hyp (lD l))):=by
  intro h0;have e:hyp (lD l)=[]:=by unfold hyp;rw[ge (by rw[<-HN.o];exact h0)]
  rw[e,aV,<-HN.o];exact HO.o
 have a4G:0<n->∀(v2:Z) (w2:H),w2.ownsRow w.heap.size 5 1 v2 (n+1) (Lib.byteCells (lD l)++[.int .u8 45])->w2.ownsRow w.heap.size 5 1 v2 (lD l++hyp (lD l)).length (Lib.byteCells (lD l++hyp (lD l))):=by
  intro h0 v2 w2 I;have e:hyp (lD l)=[45]:=by unfold hyp;rw[gc (by rw[<-HN.o];omega)]
  rw[e,ae,dR,<-HN.o];exact I
 have Ny:=F a4F;clear a4F;have tT:=F a4G;clear a4G
 have hsl:(lD l++hyp (lD l)).length<=n+1:=by
  rw[ae,<-HN.o];unfold hyp
  split <;>simp
 obtain⟨O',hO⟩:=V (lD l++hyp (lD l))
 have j:Fy l=pD L l 128 ⟨O',0,n,72,true⟩:=by
  have e1:=HN.o;have e2:=y.o;unfold Fy;rw[<-e1,<-e2,<-hO]
 rw[<-hO]at hsl;rw[<-hO]at Ny tT;clear hO;have HSL:=F hsl;clear hsl;obtain⟨T,Tb⟩:=V (Fy l);rw[<-Tb]at j Bw;have HT:=F j;clear j Tb;have h0:n=0\/0<n:=M0;rcases h0 with rfl|h0
 all_goals
  go_wp2_with(at_builtin;(refine et rfl 39 40 _ rfl w.heap.size 5 i8 (.int .u8 0) 1 underlying25 tA Bl lK nC P8 _ _ _ (Lib.byteCells (lD l)) rfl HO.o (.int .u8 45) rfl rfl M0 P8 M0 ?_);intro v2 w2 hown2 hw2 K;have eJ:=F hown2;clear hown2;have HB2:=F K;clear K)
  go_loopw [4,7,8,9,10,11] (λov nv dv sv bv fv wq=>∃(f:Nat) (o:O) (d dn bi:Int) (fi:Bool) (sg:Int),nv=.int .i64 dn/\dv=.int .i64 d/\sv=.int .i64 sg/\bv=.int .i64 bi/\fv=.bool fi /\
   wq.ownsRow w.heap.size 5 1 ov o.length (Lib.byteCells o)/\pD f l sg ⟨o,d,dn,bi,fi⟩=T/\dn=cnt l sg/\(L:Int)-dn<=f/\128<=sg/\sg<=1114112/\0<=d/\d<=(dn+1)*300000000/\0<=bi/\bi<=2400 /\
   (o.length:Int)<=300+41*dn/\w.heap.size<=wq.heap.size/\r7 w wq) (λ_ nv _ _ _ _ _=>L-(intOf nv).toNat)
  case atStart =>
   refine⟨L,O',0,_,72,true,128,rfl,rfl,rfl,rfl,rfl,?_,HT.o.symm,by have:=HNC.o;omega,M0,M0,M0,M0,M0,M0,M0,by have:=HSL.o;omega,?_,?_⟩
   ·first|exact Ny.o trivial|exact Ny.o rfl|exact tT.o h0 _ _ eJ.o
   ·omega
   first|exact HB.o|exact HB.o.trans HB2.o
  case round =>
   obtain⟨f,o,d,dn,bi,fi,sn,rfl,rfl,rfl,rfl,rfl,hown,j,hdn,hf,b4V,b4W,hd0,hd1,a9n,a9o,hol,s,hbel⟩:=hrel;have jx:=F hown;clear hown;have HB3:=F hbel;clear hbel;by_cases hlt:dn<L
   ·cases f with
    |zero=>omega
    |succ g =>
     have hex:=cnt_lt (l:=l) (sign:=sn) (by have:=y.o;omega);obtain⟨hm1,hm2,Vb⟩:=yL M0 hex;have hmore:=vi g (l:=l) (sign:=sn) (o:=o) (d:=d) (bi:=bi) (fi:=fi) (dn:=dn) (by have:=y.o;omega);rw[hmore]at j;have hla:=λ(W:H) (B:Nat) (v:Z) (h:Sl B W v (d8 l))=>LD l sn v W B h (by have:=y.o;omega);generalize qi l sn (-1)=m at hm1 hm2 Vb j hla;clear hmore hex;have hmr:=(sG.mp (JV.o m hm1)).2.1;have heq1:=IH hm1;have hcn:=uV m l;rw[BQ hm2 Vb,]at hcn;have b4s:0<=dn:=M0;have HDN:=F hdn;clear hdn;have MV:=F hla;clear hla;have hmul:=Jq (a:=m-sn) (b:=dn+1) M0 M0;have hinv:=yZ m l ⟨o,d+(m-sn)*(dn+1),dn,bi,fi⟩ (by show 0<=d+_;omega) (by show 0<=dn;omega) ⟨a9n,a9o⟩;have r:=hinv l.length (ag _);rw[di]at r;obtain⟨s0,C⟩:∃s0:En,s0=⟨o,d+(m-sn)*(dn+1),dn,bi,fi⟩:=⟨_,rfl⟩;rw[<-C]at hinv r j;have a4B:s0.d=d+(m-sn)*(dn+1):=by rw[C]
     have a4C:s0.done=dn:=by rw[C]
     have a4D:s0.o=o:=by rw[C]
     rw[a4B,a4C,a4D]at hinv r;have WT:=F r;clear r;have a7A:=F hinv;clear hinv;have TL:=F j;clear j;have HM3:=F Vb;clear Vb hm1;have a73:=F<|(HS.o).below HB3.o;have WS:=F hcn;clear hcn
     go_wp2_with(go_at_call 271;refine(MV.o _ _ _ a73.o).e ?_)
     have HS0:=F C;clear C a4B a4C a4D;have HZ3:=F s;clear s
     go_loopw [4,7,8,10,11,60] (λov nv dv bv fv iv wz=>∃(k:Nat) (P:O) (J t Xr:Int) (XD:Bool),k<=L/\iv=.int .i64 k/\nv=.int .i64 t/\dv=.int .i64 J/\bv=.int .i64 Xr/\fv=.bool XD /\
      wz.ownsRow w.heap.size 5 1 ov P.length (Lib.byteCells P)/\eG m (l.take k) s0=⟨P,J,t,Xr,XD⟩/\w.heap.size<=wz.heap.size/\r7 w wz) (λ_ _ _ _ _ iv _=>L-(intOf iv).toNat)
     exact⟨0,o,d+(m-sn)*(dn+1),dn,bi,fi,aL _,rfl,rfl,rfl,rfl,rfl,jx.o,HS0.o,HZ3.o,HB3.o⟩
     obtain⟨k,P,J,t,Xr,XD,hk,rfl,rfl,rfl,rfl,rfl,hown,hrow,s,hbel⟩:=hrel;have qp:=F hown;clear hown;have eI:=F hbel;clear hbel;by_cases ZT:k<L
     ·have X:k<l.length:=by have:=y.o;omega
      obtain⟨ba,oa,rfl,U,Y⟩:=HAT.o k X
      have hcell:wr.cell? ⟨ba,oa+k,none⟩=some (.int .i64 l[k]):=by
       rw[(eI.o).cell (p:=⟨ba,oa+k,none⟩) U,Y]
      clear Y;have hiv:=a7A.o k M0;rw[hrow]at hiv;have hel:=Zt (l.take k) m;have hkl:(l.take k).length<=k:=List.length_take_le _ _;obtain⟨Q,z,M,hi4,hi5,N⟩:=hiv;simp only at Q z M hi4 hi5 N;have Vi:=wD m X s0;rw[hrow]at Vi;generalize l[k]=x at hcell Vi;generalize eqs (l.take k) m=q at *;have b4R:P.length<=102400000:=M0;have hdb:J < 1099511627776:=M0;have b4r:0<=t/\t<=600:=M0;clear z M N hel hkl hrow;have mY:=F Vi;clear Vi;have hcs:x<m\/x=m\/m<x:=M0;rcases hcs with hc|hc|hc
      ·go_wp2
       go_roundw
       exact⟨k+1,P,J+1,t,Xr,XD,ZT,Oc,rfl,rfl,rfl,rfl,qp.o,by rw[mY.o,Dz hc],s,eI.o⟩
       exact aa
      ·subst hc
       go_wp2_with(first|(go_at_call 272;refine(MR _ P J Xr w.heap.size _ qp.o M0 s ⟨Q,hdb⟩ M0).m ?_;rintro e w5⟨v5,rfl,hown5,hz5,hb5⟩;have xn:=F hown5;clear hown5;have gD:=F hb5;clear hb5;have HZ5:=F hz5;clear hz5)|(go_at_call 270;refine(mJ J (t+1) XD _ M0 M0).e ?_))
       go_roundw
       exact⟨k+1,P++nu J Xr,0,t+1,nb J (t+1) XD,false,ZT,Oc,rfl,rfl,rfl,rfl,xn.o,by rw[mY.o,row_one rfl],by have:=HZ5.o;omega,eI.o.trans gD.o⟩
       exact aa
      go_wp2
      go_roundw
      exact⟨k+1,P,J,t,Xr,XD,ZT,Oc,rfl,rfl,rfl,rfl,qp.o,by rw[mY.o,DA hc],s,eI.o⟩
      exact aa
     obtain rfl:L=k:=M0;rw[aP (by have:=y.o;omega)]at hrow;have r:=WT.o;have j:=TL.o;rw[hrow]at r j;obtain⟨Q,z,M,hi4,hi5,N⟩:=r;simp only at Q z M hi4 hi5 N j;have ZF:=y.o;rw[<-ZF]at z;have a9s:=WS.o;have a9t:=HDN.o;have YH:=F j;clear j;clear hrow ZF;have hnew:t=cnt l (m+1):=M0;have hdd:J+1<=(t+1)*300000000:=M0;have hoo:(P.length:Int)<=300+41*t:=M0;have b4t:dn<t:=M0;have b4u:t<=255:=by have:=Ov l (m+1);have:=y.o;omega
     have a7M:=F hnew;clear hnew z M N a9s heq1 hmul a9t;have HDD:=F hdd;have HOO:=F hoo;clear hoo
     go_wp2
     go_roundw
     exact⟨g,P,J+1,t,Xr,XD,m+1,rfl,rfl,rfl,rfl,rfl,qp.o,YH.o,a7M.o,M0,M0,M0,M0,HDD.o,hi4,hi5,HOO.o,s,eI.o⟩
     exact aa
   rw[vh f (by show ¬dn<_;have:=y.o;omega)]at j;have hT':o=T:=j;clear j;have kc:=jq underlying25 underlying5 underlying9 jx.o;rw[hT']at kc;have HTO:=F hT';clear hT';have KC:=F kc;clear kc;have kc:=KC.o
   go_wp2
   go_ret2
   exact⟨AL (by rw[HR.o,Bw.o]),HB3.o⟩
theorem Fz(l:List Int)(v:Z)(w:H)(h:Sl w.heap.size w v (d8 l)) :
  bF prog 260 #[v] w (.tuple #[S (encR l).1,.bool (encR l).2]):=by
 obtain⟨f,c,rfl⟩:=cQ h;rw[show(d8 l).length=l.length by simp]at h⊢;by_cases g:l.length<=255
 ·exact Ck l f c w h g
 have a:encR l=([],false):=by unfold encR;rw[ge (.inl M0)]
 obtain⟨R,d⟩:=V (encR l);rw[<-d]at a⊢;have e:=F a;clear a d h;generalize l.length=L at *;go_enter func260,ntmps260
 go_wp2
 go_ret2
 exact⟨AL (l:=[]) (b:=false) e.o,gT _ _⟩

theorem Qm(c lo hi:Int)(w:H):pa prog 263 #[.int .i64 c,.int .i64 lo,.int .i64 hi] w (.bool (decide (lo<=c/\c<=hi))):=by
 have h:c<lo\/(lo<=c/\hi<c)\/(lo<=c/\c<=hi):=M0;rcases h with h|⟨h,I⟩|⟨h,I⟩
 all_goals
  go_enter func263,ntmps263
  go_wp2
  go_ret;exact⟨eA (by simp;omega),rfl⟩
theorem gu(c lo hi:Int)(w:H)(h:lo<=c/\c<=hi):pa prog 263 #[.int .i64 c,.int .i64 lo,.int .i64 hi] w (.bool true) :=
 (Qm c lo hi w).m λe w' a=>⟨by rw[a.1,gr h],a.2⟩
theorem gq(c lo hi:Int)(w:H)(h:¬(lo<=c/\c<=hi)):pa prog 263 #[.int .i64 c,.int .i64 lo,.int .i64 hi] w (.bool false) :=
 (Qm c lo hi w).m λe w' a=>⟨by rw[a.1,gh h],a.2⟩
def oE(c:Int):List Int :=
 if(0x41<=c/\c<=0x5a)\/(0xc0<=c/\c<=0xd6)\/(0xd8<=c/\c<=0xde)\/(0x391<=c/\c<=0x3a1)\/(0x3a3<=c/\c<=0x3a9)\/(0x410<=c/\c<=0x42f)then [c+0x20]
 else if(0x100<=c/\c<=0x12e)/\c%2=0 then [c+1]
 else if c=0x130 then [0x69,0x307]
 else if 0x400<=c/\c<=0x40f then [c+0x50]
 else if c=0x2024\/c=0x3002\/c=0xff61 then [0x2e]
 else if c=0x2100 then [0x61,0x2f,0x63]
 else if c=0x2105 then [0x63,0x2f,0x6f]
 else if 0x2460<=c/\c<=0x2468 then [c-0x2460+0x31]
 else if 0xff21<=c/\c<=0xff3a then [c-0xfee0+0x20]
 else if 0xff01<=c/\c<=0xff5e then [c-0xfee0]
 else if 0x1d7ce<=c/\c<=0x1d7ff then [0x30+(c-0x1d7ce)%10]
 else []
theorem DU(c:Int) :
  (((0x41<=c/\c<=0x5a)\/(0xc0<=c/\c<=0xd6)\/(0xd8<=c/\c<=0xde)\/(0x391<=c/\c<=0x3a1)\/(0x3a3<=c/\c<=0x3a9)\/(0x410<=c/\c<=0x42f))/\oE c=[c+0x20]) \/
  ((0x100<=c/\c<=0x12e)/\c%2=0/\oE c=[c+1]) \/
  ((0x100<=c/\c<=0x12e)/\c%2=1/\oE c=[]) \/
  (c=0x130/\oE c=[0x69,0x307]) \/
  ((0x400<=c/\c<=0x40f)/\oE c=[c+0x50]) \/
  ((c=0x2024\/c=0x3002\/c=0xff61)/\oE c=[0x2e]) \/
  (c=0x2100/\oE c=[0x61,0x2f,0x63]) \/
  (c=0x2105/\oE c=[0x63,0x2f,0x6f]) \/
  ((0x2460<=c/\c<=0x2468)/\oE c=[c-0x2460+0x31]) \/
  ((0xff21<=c/\c<=0xff3a)/\oE c=[c-0xfee0+0x20]) \/
  (((0xff01<=c/\c<=0xff20)\/(0xff3b<=c/\c<=0xff5e))/\oE c=[c-0xfee0]) \/
  ((0x1d7ce<=c/\c<=0x1d7ff)/\oE c=[0x30+(c-0x1d7ce)%10]) \/
  (¬((0x41<=c/\c<=0x5a)\/(0xc0<=c/\c<=0xd6)\/(0xd8<=c/\c<=0xde)\/(0x391<=c/\c<=0x3a1)\/(0x3a3<=c/\c<=0x3a9)\/(0x410<=c/\c<=0x42f)\/(0x100<=c/\c<=0x12e)\/c=0x130\/(0x400<=c/\c<=0x40f)\/c=0x2024\/c=0x3002\/c=0xff61\/c=0x2100\/c=0x2105\/(0x2460<=c/\c<=0x2468)\/(0xff01<=c/\c<=0xff5e)\/(0x1d7ce<=c/\c<=0x1d7ff))/\oE c=[]):=by
 unfold oE
 split
 ·exact .inl ⟨by assumption,rfl⟩
 split
 ·exact .inr (.inl ⟨M0,M0,rfl⟩)
 by_cases hodd:0x100<=c/\c<=0x12e
 ·refine .inr (.inr (.inl ⟨hodd,M0,?_⟩))
  iterate 9 rw[gc M0]
 split
 ·exact .inr (.inr (.inr (.inl ⟨by assumption,rfl⟩)))
 split
 ·exact .inr (.inr (.inr (.inr (.inl ⟨by assumption,rfl⟩))))
 split
 ·exact .inr (.inr (.inr (.inr (.inr (.inl ⟨by assumption,rfl⟩)))))
 split
 ·exact .inr (.inr (.inr (.inr (.inr (.inr (.inl ⟨by assumption,rfl⟩))))))
 split
 ·exact .inr (.inr (.inr (.inr (.inr (.inr (.inr (.inl ⟨by assumption,rfl⟩)))))))
 split
 ·exact .inr (.inr (.inr (.inr (.inr (.inr (.inr (.inr (.inl ⟨by assumption,rfl⟩))))))))
 split
 ·exact .inr (.inr (.inr (.inr (.inr (.inr (.inr (.inr (.inr (.inl ⟨by assumption,rfl⟩)))))))))
 split
 ·exact .inr (.inr (.inr (.inr (.inr (.inr (.inr (.inr (.inr (.inr (.inl ⟨M0,rfl⟩))))))))))
 split
 ·exact .inr (.inr (.inr (.inr (.inr (.inr (.inr (.inr (.inr (.inr (.inr (.inl ⟨by assumption,rfl⟩)))))))))))
 exact .inr (.inr (.inr (.inr (.inr (.inr (.inr (.inr (.inr (.inr (.inr (.inr ⟨M0,rfl⟩)))))))))))

def dK(x:UInt8):UInt8:=if 65<=G x/\G x<=90 then UInt8.ofNat (G x+32).toNat else x
theorem a3b{c:Int}(h:0<=c/\c<256):G (UInt8.ofNat c.toNat)=c:=by
 unfold G;rw[fB];omega
theorem gH(x:UInt8):0<=G x/\G x<256:=by unfold G;have:=x.toNat_lt;omega
theorem Gp{x:UInt8}(h:65<=G x/\G x<=90):G (dK x)=G x+32:=by unfold dK;rw[ge h,a3b M0]
theorem Gq{x:UInt8}(h:¬(65<=G x/\G x<=90)):dK x=x:=by unfold dK;rw[gc h]
def Mk(w:H)(e g:Nat)(l:O):Prop:=∃cs:Array Z,w.heap[g]?= some (.cells cs e (cs.size,cs.size+1))/\l.length<=cs.size/\cs.toList.take l.length=Lib.byteCells l
theorem Mk.at{w:H}{e g:Nat}{l:O}(h:Mk w e g l)(k:Nat)(c:k<l.length):w.cell? ⟨g,k,none⟩=some (.int .u8 (G l[k])):=by
 obtain⟨cs,Y,I,d⟩:=h;rw[cell_of_row w g k cs e _ Y];have a:=congrArg (λx:List Z=>x[k]?) d;simp only[kO,ge c]at a;rw[<-Array.getElem?_toList,a];simp[Lib.byteCells,G,c]
theorem Mk.free{w:H}{e g:Nat}{l:O}(h:Mk w e g l)(k:Nat)(hk:k<l.length):w.frozen? ⟨g,k,none⟩=false:=by
 obtain⟨cs,Y,I,h3⟩:=h;simp only[World.frozen?,Y];simp;omega
theorem Mk.set{w:H}{e g:Nat}{l:O}(h:Mk w e g l)(k:Nat)(y:UInt8):Mk (w.setCell ⟨g,k,none⟩ (.int .u8 (G y))) e g (l.set k y):=by
 obtain⟨cs,Y,I,d⟩:=h;refine⟨cs.setIfInBounds k (.int .u8 (G y)),?_,by simpa using I,?_⟩
 ·have a:g<w.heap.size:=by
   by_cases a:g<w.heap.size
   ·exact a
   rw[cD M0]at Y;cases Y
  have c:w.heap[g]=.cells cs e (cs.size,cs.size+1):=by simpa[Array.getElem?_eq_getElem a]using Y
  show(w.heap.modify g _)[g]?= _;rw[cK (by simpa using a),Array.getElem_modify_self,c];simp
 rw[a1f,List.length_set,List.take_set,d];simp[Lib.byteCells,G,List.map_set]
theorem Mk.new(w:H)(e:Nat)(s:ByteArray)(c:Nat):Mk (w.drew.alloc (.cells (bytesRow s c) e ((bytesRow s c).size,(bytesRow s c).size+1))) e w.heap.size (ls s):=by
 refine⟨bytesRow s c,jp w.drew _,?_,?_⟩
 ·rw[nD];unfold bytesRow;simp
 unfold bytesRow ls;have e:(s.data.map (λb=>Value.int .u8 b.toNat)).toList=Lib.byteCells s.data.toList:=by simp[Lib.byteCells]
 have a:(Lib.byteCells s.data.toList).length=s.data.toList.length:=hb _;rw[pi,e,<-a,ko];rfl
theorem Mk.str{P:Program}{src dst e:TypeId}(f:P.underlying src=some (.slice e))(he:P.underlying e=some (.int .u8))(hd:P.underlying dst=some .string){w:H}{g:Nat}{l:O}(h:Mk w e g l)(n c:Nat)(d:n=l.length) :
  (convert src dst (.slice (some ⟨g,0,none⟩) n c)).run P w=.ok (.string (E l)) w:=by
 subst d;refine run_convert_bytes_back (P:=P) w src dst e ⟨g,0,none⟩ c l f he hd (λj a=>?_);rw[addr_add,bM,h.at j a];rfl
theorem Df{l:O}{k:Nat}(h:k<l.length):((l.take k).map dK++l.drop k).set k (dK l[k])=(l.take (k+1)).map dK++l.drop (k+1):=by
 have a:((l.take k).map dK).length=k:=by rw[ay,aD];omega
 rw[aH h,eY,aC h,b3Y _ _ M0,a,jy,bB];rfl
theorem b8t{l:O}{k:Nat}(h:k<l.length)(h':k<((l.take k).map dK++l.drop k).length):((l.take k).map dK++l.drop k)[k]=l[k]:=by
 have hl:((l.take k).map dK).length=k:=by rw[ay,aD];omega
 rw[a2P M0];simp[List.length_take,Nat.min_eq_left (by omega:k<=l.length)]
theorem Vz(l:O)(k:Nat):((l.take k).map dK++l.drop k).length=l.length:=by rw[ae,ay,aD,aj];omega
theorem qD(l:O)(w:H)(M:l.length<=maxLen):Calls prog 19 #[.string (E l)] w λe T=>TW w (l.map dK) e T:=by
 unfold maxLen at M;obtain⟨s,p⟩:=V (E l);have j:s.size=l.length:=by rw[p,aF]
 obtain⟨L,v⟩:=V (l.length);rw[<-v]at M j;rw[<-p];have a:=Mk.new w 5 s (grownCap w s.size 0 5);rw[p,cW]at a;rw[<-p]at a;have t:=run_bytes_of_string (P:=prog) w 9 25 5 s underlying9 underlying25 underlying5;obtain⟨W,z⟩:=V (w.drew.alloc (.cells (bytesRow s (grownCap w s.size 0 5)) 5 ((bytesRow s (grownCap w s.size 0 5)).size,(bytesRow s (grownCap w s.size 0 5)).size+1)));have c:r7 w W:=by rw[z];exact((gT _ _).drew).alloc (ag _) _
 rw[<-z]at t a;clear z;generalize grownCap w s.size 0 5=C at t;rw[j]at t;obtain⟨g,K⟩:=V (w.heap.size);rw[<-K]at t a;have B:w.heap.size<=g:=M0;clear K;have r:=F v;clear v;have u:=F a;clear a;have R:=F c;clear c;clear p j;go_enter func19,ntmps19;go_wp2_with fail
 go_loopw [10] (λiv wr=>∃k:Nat,k<=L/\iv=.int .i64 k/\Mk wr 5 g ((l.take k).map dK++l.drop k)/\r7 w wr) (λi _=>L-(intOf i).toNat)
 exact⟨0,M0,Oc,by simpa using u.o,R.o⟩
 obtain⟨k,hk,rfl,a,c⟩:=hrel;by_cases hlt:k<L
 ·have X:k<l.length:=by have:=r.o;omega
  have d:k<((l.take k).map dK++l.drop k).length:=by rw[Vz];exact X
  have hcell:=a.at k d;rw[b8t X d]at hcell;have hfr:=a.free k d;have hset:=a.set k (dK l[k]);rw[Df X]at hset;have D:=gH l[k]
  have f:(G l[k]<65/\dK l[k]=l[k])\/(65<=G l[k]/\90<G l[k]/\dK l[k]=l[k])\/(65<=G l[k]/\G l[k]<=90/\G (dK l[k])=G l[k]+32):=by
   by_cases Y:65<=G l[k]/\G l[k]<=90
   ·exact .inr (.inr ⟨Y.1,Y.2,Gp Y⟩)
   have:=Gq Y;by_cases I:G l[k]<65
   ·exact .inl ⟨I,this⟩
   exact .inr (.inl ⟨M0,M0,this⟩)
  have hsame:dK l[k]=l[k]->Mk wr 5 g ((l.take (k+1)).map dK++l.drop (k+1)):=by
   intro h;rw[<-Df X,h]
   have:((l.take k).map dK++l.drop k).set k l[k]=(l.take k).map dK++l.drop k:=by
    conv=>lhs;rw[<-b8t X d]
    exact List.set_getElem_self d
   rw[this];exact a
  obtain⟨x,N,y,hy⟩:=ac (G l[k]) (dK l[k]);rw[<-N]at hcell f D;rw[<-hy]at hset f hsame;obtain⟨eq,heq⟩:∃eq:Prop,eq=(y=l[k]):=⟨_,rfl⟩;rw[<-heq]at f hsame;clear N hy heq d;have Q:=F hset;clear hset;have J:=F hsame;clear hsame;have q:=F c;clear c;clear a;rcases f with⟨Y,I⟩|⟨Y,I,n⟩|⟨Y,I,n⟩
  ·have m:=F I;clear I
   go_wp2_with fail;go_roundw
   exact⟨k+1,M0,Oc,J.o m.o,q.o⟩
   exact aa
  ·have m:=F n;clear n
   go_wp2_with fail;go_roundw
   exact⟨k+1,M0,Oc,J.o m.o,q.o⟩
   exact aa
  have m:=F n;clear n;go_wp2_with fail;go_roundw
  exact⟨k+1,M0,Oc,by have:=Q.o;rw[m.o,show x+32=x-65+97 by omega]at this;exact this,q.o.setCell B _⟩
  exact aa
 obtain rfl:k=L:=M0;rw[aP (by have:=r.o;omega),dG (by have:=r.o;omega),aV]at a;have kc2:=a.str (P:=prog) underlying25 underlying5 underlying9 k C (by rw[ay,r.o]);have q:=F c;clear c a;go_wp2_with fail;go_ret;exact⟨rfl,q.o⟩
