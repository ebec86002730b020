/- Plain laws of utf8: the signs of a text. -/
import Derived.Lib.ValidLaws
import Derived.Test.YtmndlfglgcioeaaGreatDoorGTextD
import Derived.Test.YtmndlfglgcioeaaGreatDoorGTextI
set_option maxHeartbeats 40000000
namespace Go.Proofs.YtmndlfglgcioeaaGreatDoor
section
open Go.RowKit Lib
def eT (a:Nat):Nat:=if a=0xe0 then 0xa0 else if a=0xf0 then 0x90 else 0x80
def eS (a:Nat):Nat:=if a=0xed then 0x9f else if a=0xf4 then 0x8f else 0xbf
theorem YK {n a b c d:Nat} (h:a<0x80):decodeN n a b c d=(a,1):=by
 unfold decodeN;rw[if_pos h]
theorem YJ {n a b c d:Nat} (h:0x80<=a∧a<0xc2∨0xf4<a∧a<256):decodeN n a b c d=(65533,1):=by
 unfold decodeN
 rw[if_neg (by omega)]
 repeat' split
 all_goals first|rfl|(exfalso;omega)
theorem YL {n a b c d:Nat} (h:0xc2<=a∧a<0xe0):decodeN n a b c d=if 1<n∧0x80<=b∧b<=0xbf then(64*(a%32)+b-128,2)else(65533,1):=by
 unfold decodeN
 rw[if_neg (by omega)]
 by_cases hc:1<n∧0x80<=b∧b<=0xbf
 ·rw[if_pos hc,if_pos (by omega),if_pos (by omega)]
  simp only[a1f,and_true];omega
 rw[if_neg hc,if_neg (by omega),if_neg (by omega),if_neg (by omega)]
theorem YM {n a b c d:Nat} (h:0xe0<=a∧a<0xf0):decodeN n a b c d=if(1<n∧eT a<=b∧b<=eS a)∧2<n∧0x80<=c∧c<=0xbf then(4096*(a%16)+64*b+c-8320,3)else(65533,1):=by
 unfold decodeN
 rw[if_neg (by omega),if_neg (by omega)]
 have e1:eT a=if a=0xe0 then 0xa0 else 0x80:=by unfold eT;split;rfl;rw[if_neg (by omega)]
 have e2:eS a=if a=0xed then 0x9f else 0xbf:=by unfold eS;split;rfl;rw[if_neg (by omega)]
 rw[e1,e2]
 by_cases hc:(1<n∧(if a=0xe0 then 0xa0 else 0x80)<=b∧b<=(if a=0xed then 0x9f else 0xbf))∧2<n∧0x80<=c∧c<=0xbf
 ·rw[if_pos hc]
  have h1:a=0xe0->0xa0<=b:=fun h=>by rw[if_pos h]at hc;exact hc.1.2.1
  have h2:a=0xed->b<=0x9f:=fun h=>by rw[if_pos h]at hc;exact hc.1.2.2
  have h3:0x80<=b∧b<=0xbf:=by
   obtain⟨⟨_,p,q⟩,_⟩:=hc
   constructor
   ·split at p <;>omega
   split at q <;>omega
  rw[if_pos (by omega),if_pos (by omega)]
  simp only[a1f,and_true];omega
 rw[if_neg hc]
 have hbad:¬ ((1<n∧0x80<=b∧b<=0xbf)∧2<n∧0x80<=c∧c<=0xbf)∨(a=0xe0∧b<0xa0)∨(a=0xed∧0x9f<b):=by
  by_cases k:(1<n∧0x80<=b∧b<=0xbf)∧2<n∧0x80<=c∧c<=0xbf
  ·right
   by_cases k1:a=0xe0
   ·left;refine⟨k1,?_⟩
    rw[if_pos k1,if_neg (by omega)]at hc;omega
   by_cases k2:a=0xed
   ·right;refine⟨k2,?_⟩
    rw[if_neg k1,if_pos k2]at hc;omega
   rw[if_neg k1,if_neg k2]at hc;omega
  left;exact k
 repeat' split
 all_goals first|rfl|(exfalso;omega)
theorem YN {n a b c d:Nat} (h:0xf0<=a∧a<=0xf4):decodeN n a b c d=if(1<n∧eT a<=b∧b<=eS a)∧(2<n∧0x80<=c∧c<=0xbf)∧3<n∧0x80<=d∧d<=0xbf then(262144*(a%8)+4096*b+64*c+d-532608,4)else(65533,1):=by
 unfold decodeN
 rw[if_neg (by omega),if_neg (by omega),if_neg (by omega)]
 have e1:eT a=if a=0xf0 then 0x90 else 0x80:=by unfold eT;rw[if_neg (by omega)]
 have e2:eS a=if a=0xf4 then 0x8f else 0xbf:=by unfold eS;rw[if_neg (by omega)]
 rw[e1,e2]
 by_cases hc:(1<n∧(if a=0xf0 then 0x90 else 0x80)<=b∧b<=(if a=0xf4 then 0x8f else 0xbf))∧(2<n∧0x80<=c∧c<=0xbf)∧3<n∧0x80<=d∧d<=0xbf
 ·rw[if_pos hc]
  have h1:a=0xf0->0x90<=b:=fun h=>by rw[if_pos h]at hc;exact hc.1.2.1
  have h2:a=0xf4->b<=0x8f:=fun h=>by rw[if_pos h]at hc;exact hc.1.2.2
  have h3:0x80<=b∧b<=0xbf:=by
   obtain⟨⟨_,p,q⟩,_⟩:=hc
   constructor
   ·split at p <;>omega
   split at q <;>omega
  rw[if_pos (by omega),if_pos (by omega)]
  simp only[a1f,and_true];omega
 rw[if_neg hc]
 have hbad:¬ ((1<n∧0x80<=b∧b<=0xbf)∧(2<n∧0x80<=c∧c<=0xbf)∧3<n∧0x80<=d∧d<=0xbf)∨(a=0xf0∧b<0x90)∨(a=0xf4∧0x8f<b):=by
  by_cases k:(1<n∧0x80<=b∧b<=0xbf)∧(2<n∧0x80<=c∧c<=0xbf)∧3<n∧0x80<=d∧d<=0xbf
  ·right
   by_cases k1:a=0xf0
   ·left;refine⟨k1,?_⟩
    rw[if_pos k1,if_neg (by omega)]at hc;omega
   by_cases k2:a=0xf4
   ·right;refine⟨k2,?_⟩
    rw[if_neg k1,if_pos k2]at hc;omega
   rw[if_neg k1,if_neg k2]at hc;omega
  left;exact k
 repeat' split
 all_goals first|rfl|(exfalso;omega)
theorem Mx {a:Nat} (h:a<0x80):dk (a:Int)=(1,0,0):=by unfold dk;rw[if_pos (by omega)]
theorem VU {a:Nat} (h:0x80<=a∧a<0xc2∨0xf4<a):dk (a:Int)=(0,0,0):=by unfold dk;rw[if_neg (by omega),if_pos (by omega)]
theorem My {a:Nat} (h:0xc2<=a∧a<0xe0):dk (a:Int)=(2,0x80,0xbf):=by
 unfold dk;rw[if_neg (by omega),if_neg (by omega),if_pos (by omega)]
theorem Mz {a:Nat} (h:0xe0<=a∧a<0xf0):dk (a:Int)=(3,(eT a:Int),(eS a:Int)):=by
 unfold dk eT eS
 rw[if_neg (by omega),if_neg (by omega),if_neg (by omega)]
 by_cases k1:a=0xe0
 ·subst k1;rfl
 by_cases k2:a=0xed
 ·subst k2;rfl
 rw[if_neg (by omega),if_neg (by omega),if_neg (by omega),if_neg (by omega),if_pos (by omega),if_neg k1,if_neg (by omega),if_neg k2,if_neg (by omega)];rfl
theorem MA {a:Nat} (h:0xf0<=a∧a<=0xf4):dk (a:Int)=(4,(eT a:Int),(eS a:Int)):=by
 unfold dk eT eS
 rw[if_neg (by omega),if_neg (by omega),if_neg (by omega),if_neg (by omega),if_neg (by omega)]
 by_cases k1:a=0xf0
 ·subst k1;rfl
 by_cases k2:a=0xf4
 ·subst k2;rfl
 rw[if_neg (by omega),if_neg (by omega),if_neg (by omega),if_neg (by omega),if_neg k1,if_neg (by omega),if_neg k2];rfl
theorem b8 (n:Nat) (x:UInt8) (h:x.toNat=n):x=UInt8.ofNat n:=by
 apply ew.1
 rw[h,eN]
 have:=x.toNat_lt
 omega
end
section
open Go.RowKit Lib
theorem Kk {a:Nat} (h:a<0xc2∨0xf4<a):bX (a:Int)=(0,0,1):=by
 unfold bX
 rw[if_neg (by omega),if_neg (by omega),if_neg (by omega),if_neg (by omega),if_neg (by omega),if_neg (by omega),if_neg (by omega)]
theorem Kl {a:Nat} (h:0xc2<=a∧a<0xe0):bX (a:Int)=(0x80,0xbf,2):=by unfold bX;rw[if_pos (by omega)]
theorem Km {a:Nat} (h:0xe0<=a∧a<0xf0):bX (a:Int)=((eT a:Int),(eS a:Int),3):=by
 unfold bX eT eS
 rw[if_neg (by omega)]
 by_cases k1:a=0xe0
 ·subst k1;rfl
 by_cases k2:a=0xed
 ·subst k2;rfl
 rw[if_neg (by omega),if_neg (by omega),if_pos (by omega),if_neg k1,if_neg (by omega),if_neg k2,if_neg (by omega)];rfl
theorem Kn {a:Nat} (h:0xf0<=a∧a<=0xf4):bX (a:Int)=((eT a:Int),(eS a:Int),4):=by
 unfold bX eT eS
 rw[if_neg (by omega),if_neg (by omega),if_neg (by omega),if_neg (by omega)]
 by_cases k1:a=0xf0
 ·subst k1;rfl
 by_cases k2:a=0xf4
 ·subst k2;rfl
 rw[if_neg (by omega),if_pos (by omega),if_neg (by omega),if_neg k1,if_neg (by omega),if_neg k2];rfl
theorem tF:∀ (r:Bytes) (m k:Nat) (c lo hi:Int),(bK r m k c lo hi).2.1=(fL r m k lo hi:Int)
 |_,0,k,c,_,_=>by simp[bK,fL]
 | [],_+1,k,_,_,_=>by simp[bK,fL]
 |x::r,m+1,k,c,lo,hi=>by
  unfold bK fL
  by_cases h:b2 x<lo∨hi<b2 x
  ·rw[if_pos h,if_neg (by omega)]
  rw[if_neg h,if_pos (by omega)]
  exact tF r m (k+1) _ _ _
def First (x:UInt8) (r:Bytes):Prop :=
 ((cW (x::r)).2.2=true∧(dr (x::r)).2=cE (x::r)∧((dr (x::r)).1:Int)=(cW (x::r)).1∧enc (cW (x::r)).1=(x::r).take (cE (x::r))∧¬ ((dr (x::r)).1=65533∧(dr (x::r)).2=1) ∧
  Utf8.valid (cW (x::r)).1=true) ∨
 ((cW (x::r)).2.2=false∧(cW (x::r)).1=65533∧(dr (x::r)).1=65533∧(dr (x::r)).2=1∧kQ (x::r)=cE (x::r))
theorem pS {c:Int} (h:0<=c∧c<0xd800∨0xe000<=c∧c<=0x10ffff):Utf8.valid c=true:=by
 unfold Utf8.valid
 simp only[je,dC,decide_eq_true_eq]
 omega
theorem Qq (a:Nat):0x80<=eT a∧eS a<=0xbf:=by
 unfold eT eS
 constructor
 ·repeat' split
  all_goals omega
 repeat' split
 all_goals omega
theorem ofNat_eq {n:Nat} {x:UInt8} (h:n=x.toNat):UInt8.ofNat n=x:=by subst h;exact cC
theorem PE (x:UInt8) (r:Bytes) (h:x.toNat<0x80):First x r:=by
 have hl:dk (b2 x)=(1,0,0):=Mx h
 have hn:cW (x::r)=(b2 x,1,true):=by simp[cW,hl]
 have hN:cE (x::r)=1:=by unfold cE;rw[hn];rfl
 have hd:dr (x::r)=(x.toNat,1):=by rw[qY];exact YK h
 left
 rw[hn,hN,hd]
 refine⟨rfl,rfl,rfl,?_,by simp;omega,pS (by unfold b2;omega)⟩
 rw[sN (iD x).1 (by unfold b2;omega)]
 simp[b2]
theorem PD (x:UInt8) (r:Bytes) (h:0x80<=x.toNat∧x.toNat<0xc2∨0xf4<x.toNat):First x r:=by
 have hx:=x.toNat_lt
 have hl:dk (b2 x)=(0,0,0):=VU h
 have hn:cW (x::r)=(65533,1,false):=by simp[cW,hl]
 have hN:cE (x::r)=1:=by unfold cE;rw[hn];rfl
 have hd:dr (x::r)=(65533,1):=by rw[qY];exact YJ (by simp only[dD,cP];omega)
 have hb:bX (b2 x)=(0,0,1):=Kk (by omega)
 right
 rw[hn,hN,hd]
 exact⟨rfl,rfl,rfl,rfl,by simp[kQ,hb,fL]⟩
theorem ek {x:UInt8} {r:Bytes} {n:Nat} {c lo hi:Int} (hn:cW (x::r)=bK r n 1 c lo hi) (hb:bX (b2 x)=(lo,hi,((n+1:Nat):Int))) (hf:(bK r n 1 c lo hi).2.2=false)
  (h1:(bK r n 1 c lo hi).1=65533) (hd:dr (x::r)=(65533,1)):First x r:=by
 right
 have hN:kQ (x::r)=cE (x::r):=by
  unfold cE
  rw[hn,tF]
  simp[kQ,hb]
 rw[hn,hd]
 exact⟨hf,h1,rfl,rfl,hN⟩
theorem PF (x:UInt8) (r:Bytes) (h:0xc2<=x.toNat∧x.toNat<0xe0):First x r:=by
 have hl:dk (b2 x)=(2,0x80,0xbf):=My h
 have hb:bX (b2 x)=(0x80,0xbf,2):=Kl h
 have hn:cW (x::r)=bK r 1 1 (b2 x%32) 0x80 0xbf:=by simp[cW,hl]
 have hd:dr (x::r)=decodeN (r.length+1) x.toNat (r[0]?.getD 0).toNat (r[1]?.getD 0).toNat (r[2]?.getD 0).toNat:=by rw[qY];simp
 rw[YL h]at hd
 cases r with
 |nil=>exact ek hn hb rfl rfl (by rw[hd,if_neg (by simp)])
 |cons y r =>
  simp only[dD,cP,ag]at hd
  by_cases hc:0x80<=y.toNat∧y.toNat<=0xbf
  ·have e:bK (y::r) 1 1 (b2 x%32) 0x80 0xbf=(64*(b2 x%32)+b2 y-0x80,2,true):=by
    simp only[bK];rw[if_neg (by unfold b2;omega)];rfl
   rw[e]at hn
   have hN:cE (x::y::r)=2:=by unfold cE;rw[hn];rfl
   rw[if_pos (by omega)]at hd
   left
   rw[hn,hN,hd]
   refine⟨rfl,rfl,by simp only[b2];omega,?_,by simp,pS (by simp only[b2];omega)⟩
   rw[zw (by simp only[b2];omega) (by simp only[b2];omega)]
   rw[ofNat_eq (x:=x) (by simp only[b2];omega),ofNat_eq (x:=y) (by simp only[b2];omega)]
   rfl
  refine ek hn hb ?_ ?_ (by rw[hd,if_neg (by omega)])
  all_goals simp only[bK];rw[if_pos (by unfold b2;omega)]
theorem PG (x:UInt8) (r:Bytes) (h:0xe0<=x.toNat∧x.toNat<0xf0):First x r:=by
 have hl:dk (b2 x)=(3,(eT x.toNat:Int),(eS x.toNat:Int)):=Mz h
 have hb:bX (b2 x)=((eT x.toNat:Int),(eS x.toNat:Int),3):=Km h
 have hn:cW (x::r)=bK r 2 1 (b2 x%16) (eT x.toNat) (eS x.toNat):=by simp[cW,hl]
 have hd:dr (x::r)=decodeN (r.length+1) x.toNat (r[0]?.getD 0).toNat (r[1]?.getD 0).toNat (r[2]?.getD 0).toNat:=by rw[qY];simp
 rw[YM h]at hd
 have hlo:0x80<=eT x.toNat∧eS x.toNat<=0xbf∧(x.toNat=0xe0->eT x.toNat=0xa0)∧(x.toNat=0xed->eS x.toNat=0x9f):=by
  exact⟨(Qq _).1,(Qq _).2,fun h=>by rw[h];rfl,fun h=>by rw[h];rfl⟩
 obtain⟨hlo1,hlo2,hlo3,a4c⟩:=hlo
 generalize eT x.toNat=lo at *
 generalize eS x.toNat=hi at *
 cases r with
 |nil=>exact ek hn hb rfl rfl (by rw[hd,if_neg (by simp)])
 |cons y r =>
  simp only[dD,bZ,cP,ag]at hd
  by_cases hc:lo<=y.toNat∧y.toNat<=hi
  ·have e:bK (y::r) 2 1 (b2 x%16) lo hi=bK r 1 2 (64*(b2 x%16)+b2 y-0x80) 0x80 0xbf:=by
    simp only[bK];rw[if_neg (by unfold b2;omega)]
   cases r with
   |nil=>exact ek hn hb (by rw[e];rfl) (by rw[e];rfl) (by rw[hd,if_neg (by simp)])
   |cons z r =>
    simp only[dD,cP,ag]at hd
    by_cases hz:0x80<=z.toNat∧z.toNat<=0xbf
    ·have e2:bK (z::r) 1 2 (64*(b2 x%16)+b2 y-0x80) 0x80 0xbf=(64*(64*(b2 x%16)+b2 y-0x80)+b2 z-0x80,3,true):=by
      simp only[bK];rw[if_neg (by unfold b2;omega)];rfl
     rw[e,e2]at hn
     have hN:cE (x::y::z::r)=3:=by unfold cE;rw[hn];rfl
     rw[if_pos (by omega)]at hd
     left
     rw[hn,hN,hd]
     refine⟨rfl,rfl,by simp only[b2];omega,?_,by simp,pS (by simp only[b2];omega)⟩
     rw[sO (by simp only[b2];omega) (by simp only[b2];omega) (by simp only[b2];omega)]
     rw[ofNat_eq (x:=x) (by simp only[b2];omega),ofNat_eq (x:=y) (by simp only[b2];omega),ofNat_eq (x:=z) (by simp only[b2];omega)]
     rfl
    refine ek hn hb ?_ ?_ (by rw[hd,if_neg (by omega)])
    all_goals rw[e];simp only[bK];rw[if_pos (by unfold b2;omega)]
  refine ek hn hb ?_ ?_ (by rw[hd,if_neg (by omega)])
  all_goals simp only[bK];rw[if_pos (by unfold b2;omega)]
theorem PH (x:UInt8) (r:Bytes) (h:0xf0<=x.toNat∧x.toNat<=0xf4):First x r:=by
 have hl:dk (b2 x)=(4,(eT x.toNat:Int),(eS x.toNat:Int)):=MA h
 have hb:bX (b2 x)=((eT x.toNat:Int),(eS x.toNat:Int),4):=Kn h
 have hn:cW (x::r)=bK r 3 1 (b2 x%8) (eT x.toNat) (eS x.toNat):=by simp[cW,hl]
 have hd:dr (x::r)=decodeN (r.length+1) x.toNat (r[0]?.getD 0).toNat (r[1]?.getD 0).toNat (r[2]?.getD 0).toNat:=by rw[qY];simp
 rw[YN h]at hd
 have hlo:0x80<=eT x.toNat∧eS x.toNat<=0xbf∧(x.toNat=0xf0->eT x.toNat=0x90)∧(x.toNat=0xf4->eS x.toNat=0x8f):=by
  exact⟨(Qq _).1,(Qq _).2,fun h=>by rw[h];rfl,fun h=>by rw[h];rfl⟩
 obtain⟨hlo1,hlo2,hlo3,a4c⟩:=hlo
 generalize eT x.toNat=lo at *
 generalize eS x.toNat=hi at *
 cases r with
 |nil=>exact ek hn hb rfl rfl (by rw[hd,if_neg (by simp)])
 |cons y r =>
  simp only[dD,bZ,cP,ag]at hd
  by_cases hc:lo<=y.toNat∧y.toNat<=hi
  ·have e:bK (y::r) 3 1 (b2 x%8) lo hi=bK r 2 2 (64*(b2 x%8)+b2 y-0x80) 0x80 0xbf:=by
    simp only[bK];rw[if_neg (by unfold b2;omega)]
   cases r with
   |nil=>exact ek hn hb (by rw[e];rfl) (by rw[e];rfl) (by rw[hd,if_neg (by simp)])
   |cons z r =>
    simp only[dD,bZ,cP,ag]at hd
    by_cases hz:0x80<=z.toNat∧z.toNat<=0xbf
    ·have e2:bK (z::r) 2 2 (64*(b2 x%8)+b2 y-0x80) 0x80 0xbf=bK r 1 3 (64*(64*(b2 x%8)+b2 y-0x80)+b2 z-0x80) 0x80 0xbf:=by
      simp only[bK];rw[if_neg (by unfold b2;omega)]
     cases r with
     |nil=>exact ek hn hb (by rw[e,e2];rfl) (by rw[e,e2];rfl) (by rw[hd,if_neg (by simp)])
     |cons u r =>
      simp only[dD,cP,ag]at hd
      by_cases hu:0x80<=u.toNat∧u.toNat<=0xbf
      ·have e3:bK (u::r) 1 3 (64*(64*(b2 x%8)+b2 y-0x80)+b2 z-0x80) 0x80 0xbf=(64*(64*(64*(b2 x%8)+b2 y-0x80)+b2 z-0x80)+b2 u-0x80,4,true):=by
        simp only[bK];rw[if_neg (by unfold b2;omega)];rfl
       rw[e,e2,e3]at hn
       have hN:cE (x::y::z::u::r)=4:=by unfold cE;rw[hn];rfl
       rw[if_pos (by omega)]at hd
       left
       rw[hn,hN,hd]
       refine⟨rfl,rfl,by simp only[b2];omega,?_,by simp,pS (by simp only[b2];omega)⟩
       rw[zx (by simp only[b2];omega) (by simp only[b2];omega)]
       rw[ofNat_eq (x:=x) (by simp only[b2];omega),ofNat_eq (x:=y) (by simp only[b2];omega),ofNat_eq (x:=z) (by simp only[b2];omega),ofNat_eq (x:=u) (by simp only[b2];omega)]
       rfl
      refine ek hn hb ?_ ?_ (by rw[hd,if_neg (by omega)])
      all_goals rw[e,e2];simp only[bK];rw[if_pos (by unfold b2;omega)]
    refine ek hn hb ?_ ?_ (by rw[hd,if_neg (by omega)])
    all_goals rw[e];simp only[bK];rw[if_pos (by unfold b2;omega)]
  refine ek hn hb ?_ ?_ (by rw[hd,if_neg (by omega)])
  all_goals simp only[bK];rw[if_pos (by unfold b2;omega)]
theorem ja (x:UInt8) (r:Bytes):First x r:=by
 by_cases h1:x.toNat<0x80
 ·exact PE x r h1
 by_cases h2:x.toNat<0xc2∨0xf4<x.toNat
 ·exact PD x r (by omega)
 by_cases h3:x.toNat<0xe0
 ·exact PF x r (by omega)
 by_cases h4:x.toNat<0xf0
 ·exact PG x r (by omega)
 exact PH x r (by omega)
end
section
open Go.RowKit Lib
theorem mR {p:Bytes->Prop} (h0:p []) (h1:∀ x r,(∀t:Bytes,t.length<=r.length->p t)->p (x::r)):∀ l,p l:=by
 have:∀ (n:Nat) (l:Bytes),l.length<=n->p l:=by
  intro n
  induction n with
  |zero=>intro l h;obtain rfl:l=[]:=am (by omega);exact h0
  |succ n ih =>
   intro l h
   cases l with
   |nil=>exact h0
   |cons x r=>exact h1 x r (fun t ht=>ih t (by simp at h;omega))
 exact fun l=>this l.length l (ae _)
theorem Tq {t:Int×Int×Bool} {a b:Int} {c:Bool} (h:t=(a,b,c)):t.2.2=c:=by subst h;rfl
theorem oZ:enc 65533=[0xef,0xbf,0xbd]:=by rw[sO (by omega) (by omega) (by omega)];rfl
theorem mm (x:UInt8) (r:Bytes) {n:Nat} (h:1<=n):((x::r).drop n).length<=r.length:=by rw[ai,ag];omega
theorem mT:∀ l,jH l=eH l:=by
 refine mR rfl ?_
 intro x r ih
 have hn:=iQ x r
 unfold eH
 rw[fm,dV]
 rcases ja x r with⟨h1,h2,h3,h4,h5,_⟩|⟨h1,h2,h3,h4,h5⟩
 ·rw[decT_ok h5,h4,h2,ih _ (mm x r (by omega))]
  rfl
 rw[decT_bad ⟨h3,h4⟩,h2,oZ,h5,ih _ (mm x r (by omega))]
 rfl
theorem oF:Utf8.valid 65533=true:=by decide
theorem Az:∀ l:Bytes,∀c∈signs l,Utf8.valid c=true:=by
 refine mR (by simp[wH]) ?_
 intro x r ih c hc
 have hn:=iQ x r
 rw[fm,aN]at hc
 rcases hc with hc|hc
 ·rw[hc]
  rcases ja x r with⟨h1,h2,h3,h4,h5,h⟩|⟨h1,h,h3,h4,h5⟩
  ·exact h
  rw[h];exact oF
 exact ih _ (mm x r (by omega)) c hc
theorem nj (c:Int):Utf8.valid c=true ↔ (0<=c∧c<0xd800∨0xe000<=c∧c<=0x10ffff):=by
 unfold Utf8.valid
 simp only[je,dC,decide_eq_true_eq]
theorem bO {n:Nat} (h:n<256):(UInt8.ofNat n).toNat=n:=by rw[eN];omega
theorem m7 {c:Int} (hv:Utf8.valid c=true) (t:Bytes):cW (enc c++t)=(c,((enc c).length:Int),true):=by
 rw[nj]at hv
 by_cases h1:c<0x80
 ·rw[sN (by omega) h1]
  have e:(UInt8.ofNat c.toNat).toNat=c.toNat:=bO (by omega)
  have hl:dk (b2 (UInt8.ofNat c.toNat))=(1,0,0):=Mx (by omega)
  have hx:cW (UInt8.ofNat c.toNat::t)=(b2 (UInt8.ofNat c.toNat),1,true):=by simp[cW,hl]
  rw[bI,bW,hx]
  have hc:b2 (UInt8.ofNat c.toNat)=c:=by unfold b2;omega
  rw[hc]
  rfl
 by_cases h2:c<0x800
 ·rw[zw (by omega) h2]
  have e:(UInt8.ofNat (192+c/64).toNat).toNat=(192+c/64).toNat:=bO (by omega)
  have e':(UInt8.ofNat (128+c%64).toNat).toNat=(128+c%64).toNat:=bO (by omega)
  generalize UInt8.ofNat (192+c/64).toNat=x at *
  generalize UInt8.ofNat (128+c%64).toNat=y at *
  have hl:dk (b2 x)=(2,0x80,0xbf):=My (by omega)
  have hb:¬ (b2 y<0x80∨0xbf<b2 y):=by unfold b2;omega
  have hc:64*(b2 x%32)+b2 y-0x80=c:=by unfold b2;omega
  simp[cW,hl,bK,hb,hc]
 by_cases h3:c<0x10000
 ·rw[sO (by omega) h3 (by omega)]
  have e:(UInt8.ofNat (224+c/4096).toNat).toNat=(224+c/4096).toNat:=bO (by omega)
  have e':(UInt8.ofNat (128+c/64%64).toNat).toNat=(128+c/64%64).toNat:=bO (by omega)
  have e'':(UInt8.ofNat (128+c%64).toNat).toNat=(128+c%64).toNat:=bO (by omega)
  generalize UInt8.ofNat (224+c/4096).toNat=x at *
  generalize UInt8.ofNat (128+c/64%64).toNat=y at *
  generalize UInt8.ofNat (128+c%64).toNat=z at *
  have hl:dk (b2 x)=(3,(eT x.toNat:Int),(eS x.toNat:Int)):=Mz (by omega)
  have hlo:(x.toNat=0xe0->eT x.toNat=0xa0)∧(x.toNat≠0xe0->eT x.toNat=0x80)∧(x.toNat=0xed->eS x.toNat=0x9f)∧(x.toNat≠0xed->eS x.toNat=0xbf):=by
   unfold eT eS
   refine⟨fun h=>by rw[h];rfl,fun h=>by rw[if_neg h,if_neg (by omega)],fun h=>by rw[h];rfl,fun h=>by rw[if_neg h,if_neg (by omega)]⟩
  generalize eT x.toNat=lo at *
  generalize eS x.toNat=hi at *
  obtain⟨l1,l2,l3,l4⟩:=hlo
  have hb:¬ (b2 y<(lo:Int)∨(hi:Int)<b2 y):=by
   unfold b2
   by_cases k1:x.toNat=0xe0
   ·have:=l1 k1;have:=l4 (by omega);omega
   by_cases k2:x.toNat=0xed
   ·have:=l2 k1;have:=l3 k2;omega
   have:=l2 k1;have:=l4 k2;omega
  have hb2:¬ (b2 z<0x80∨0xbf<b2 z):=by unfold b2;omega
  have hc:64*(64*(b2 x%16)+b2 y-0x80)+b2 z-0x80=c:=by unfold b2;omega
  simp[cW,hl,bK,hb,hb2,hc]
 rw[zx (by omega) (by omega)]
 have e:(UInt8.ofNat (240+c/262144).toNat).toNat=(240+c/262144).toNat:=bO (by omega)
 have e0:(UInt8.ofNat (128+c/4096%64).toNat).toNat=(128+c/4096%64).toNat:=bO (by omega)
 have e':(UInt8.ofNat (128+c/64%64).toNat).toNat=(128+c/64%64).toNat:=bO (by omega)
 have e'':(UInt8.ofNat (128+c%64).toNat).toNat=(128+c%64).toNat:=bO (by omega)
 generalize UInt8.ofNat (240+c/262144).toNat=x at *
 generalize UInt8.ofNat (128+c/4096%64).toNat=y at *
 generalize UInt8.ofNat (128+c/64%64).toNat=z at *
 generalize UInt8.ofNat (128+c%64).toNat=u at *
 have hl:dk (b2 x)=(4,(eT x.toNat:Int),(eS x.toNat:Int)):=MA (by omega)
 have hlo:(x.toNat=0xf0->eT x.toNat=0x90)∧(x.toNat≠0xf0->eT x.toNat=0x80)∧(x.toNat=0xf4->eS x.toNat=0x8f)∧(x.toNat≠0xf4->eS x.toNat=0xbf):=by
  unfold eT eS
  refine⟨fun h=>by rw[h];rfl,fun h=>by rw[if_neg (by omega),if_neg h],fun h=>by rw[h];rfl,fun h=>by rw[if_neg (by omega),if_neg h]⟩
 generalize eT x.toNat=lo at *
 generalize eS x.toNat=hi at *
 obtain⟨l1,l2,l3,l4⟩:=hlo
 have hb:¬ (b2 y<(lo:Int)∨(hi:Int)<b2 y):=by
  unfold b2
  by_cases k1:x.toNat=0xf0
  ·have:=l1 k1;have:=l4 (by omega);omega
  by_cases k2:x.toNat=0xf4
  ·have:=l2 k1;have:=l3 k2;omega
  have:=l2 k1;have:=l4 k2;omega
 have hb2:¬ (b2 z<0x80∨0xbf<b2 z):=by unfold b2;omega
 have hb3:¬ (b2 u<0x80∨0xbf<b2 u):=by unfold b2;omega
 have hc:64*(64*(64*(b2 x%8)+b2 y-0x80)+b2 z-0x80)+b2 u-0x80=c:=by unfold b2;omega
 simp[cW,hl,bK,hb,hb2,hb3,hc]
def fix (c:Int):Int:=if Utf8.valid c=true then c else 65533
theorem vB (c:Int):Utf8.valid (fix c)=true:=by
 unfold fix
 split
 ·assumption
 exact oF
theorem xD (c:Int):enc (fix c)=enc c:=by
 unfold fix
 split
 ·rfl
 next h =>
 rw[oZ,xC]
 rw[nj]at h
 omega
theorem Ig (c:Int) (t:Bytes):signs (enc c++t)=fix c::signs t:=by
 have h:=m7 (vB c) t
 rw[xD]at h
 have hl:=(jT c).1
 cases he:enc c with
 |nil=>rw[he]at hl;simp at hl
 |cons x r =>
  rw[he]at h
  rw[bI,fm]
  have hN:cE (x::(r++t))=(x::r).length:=by
   unfold cE
   rw[<-List.cons_append,h]
   simp
  rw[hN,<-List.cons_append,h,oI]
theorem uc:∀ (l:List Int) (t:Bytes),signs (cf l++t)=l.map fix++signs t
 | [],t=>rfl
 |c::l,t=>by rw[dV,aX,Ig,uc l t];rfl
theorem Mw (l:List Int):cf (l.map fix)=cf l:=by
 induction l with
 |nil=>rfl
 |cons c l ih=>rw[cO,dV,dV,xD,ih]
theorem wn (l:List Int) (t:Bytes):eH (cf l++t)=cf l++eH t:=by
 unfold eH
 rw[uc,k9,Mw]
theorem lm (l:List Int):eH (cf l)=cf l:=by
 have:=wn l []
 rw[aV]at this
 rw[this,show eH []=[]from rfl,aV]
theorem Hw (l:Bytes):eH (eH l)=eH l:=lm (signs l)
theorem tW:∀ (l:List Int),(∀c∈l,Utf8.valid c=true)->runes (cf l)=l
 | [],_=>rfl
 |c::l,h=>by
  have hc:=h c (by simp)
  have hn:=m7 hc (cf l)
  have hl:=(jT c).1
  have ih:=tW l (fun d hd=>h d (by simp[hd]))
  rw[dV]
  cases he:enc c with
  |nil=>rw[he]at hl;simp at hl
  |cons x r =>
   rw[he]at hn
   rw[bI]at hn ⊢
   rw[tV]
   have hN:cE (x::(r++cf l))=(x::r).length:=by unfold cE;rw[hn];simp
   rcases ja x (r++cf l)with⟨h1,h2,h3,h4,h5,h6⟩|⟨h1,h2,h3,h4,h5⟩
   ·rw[h3,h2,hN,hn,<-List.cons_append,oI,ih]
   have h7:(cW (x::(r++cf l))).2.2=true:=Tq hn
   rw[h7]at h1
   exact absurd h1 (by simp)
theorem Dw (l:Bytes):runes (jH l)=signs l:=by
 rw[mT]
 exact tW _ (Az l)
theorem BS (l:Bytes):decodeL l=dr l:=by
 rfl
theorem wU:∀ l,validD l=decide (eH l=l):=by
 refine mR rfl ?_
 intro x r ih
 have hn:=iQ x r
 rw[validD_step _ (by simp),BS]
 have hs:eH (x::r)=enc (cW (x::r)).1++eH ((x::r).drop (cE (x::r))):=by unfold eH;rw[fm,dV]
 rcases ja x r with⟨h1,h2,h3,h4,h5,_⟩|⟨h1,h2,h3,h4,h5⟩
 ·rw[if_neg h5,h2,ih _ (mm x r (by omega)),hs,h4]
  have e:x::r=(x::r).take (cE (x::r))++(x::r).drop (cE (x::r)):=(cT _ _).symm
  rw[decide_eq_decide]
  constructor
  ·intro h;rw[h];exact e.symm
  intro h
  have h':=h.trans e
  exact List.append_cancel_left h'
 rw[if_pos ⟨h3,h4⟩]
 symm
 rw[decide_eq_false_iff_not]
 intro h
 rw[hs,h2]at h
 have:=m7 oF (eH ((x::r).drop (cE (x::r))))
 rw[h]at this
 rw[this]at h1
 cases h1
end
section
open Go.RowKit Lib
def Hd (t:Bytes):Prop:=t=[]∨∃ y s,t=y::s∧(b2 y<0x80∨0xbf<b2 y)
theorem z8 (c:Int) (h:¬ (dk c).1=1) (h0:¬ (dk c).1=0):0x80<=(dk c).2.1∧(dk c).2.2<=0xbf:=by
 revert h h0
 unfold dk
 repeat (first|split|(intro h h0;simp at *))
theorem lg:∀ (r:Bytes) (m k:Nat) (c lo hi:Int) (t:Bytes),0x80<=lo->hi<=0xbf->Hd t->bK (r++t) m k c lo hi=bK r m k c lo hi
 |r,0,k,c,lo,hi,t,_,_,_=>by simp[bK]
 | [],m+1,k,c,lo,hi,t,h1,h2,ht=>by
  rcases ht with rfl|⟨y,s,rfl,hy⟩
  ·rfl
  rw[bW]
  simp only[bK]
  rw[if_pos (by omega)]
 |x::r,m+1,k,c,lo,hi,t,h1,h2,ht=>by
  rw[bI]
  simp only[bK]
  split
  ·rfl
  exact lg r m (k+1) _ _ _ t (by omega) (by omega) ht
theorem vS (x:UInt8) (r t:Bytes) (ht:Hd t):cW (x::(r++t))=cW (x::r):=by
 simp only[cW]
 by_cases h1:(dk (b2 x)).1=1
 ·rw[if_pos h1,if_pos h1]
 by_cases h0:(dk (b2 x)).1=0
 ·rw[if_neg h1,if_neg h1,if_pos h0,if_pos h0]
 have hb:=z8 _ h1 h0
 rw[lg r _ _ _ _ _ t hb.1 hb.2 ht,lg r _ _ _ _ _ t hb.1 hb.2 ht,lg r _ _ _ _ _ t hb.1 hb.2 ht]
theorem Ie (t:Bytes) (ht:Hd t):∀ l:Bytes,signs (l++t)=signs l++signs t:=by
 refine mR rfl fun x r ih=>?_
 have hn:=iQ x r
 have hN:cE (x::(r++t))=cE (x::r):=by unfold cE;rw[vS x r t ht]
 have hd:(x::(r++t)).drop (cE (x::r))=(x::r).drop (cE (x::r))++t:=by
  rw[<-List.cons_append,List.drop_append_of_le_length (by rw[ag];omega)]
 rw[bI,fm,fm,hN,vS x r t ht,hd,ih _ (mm x r hn.2.1)]
 rfl
theorem Nn (l t:Bytes) (ht:Hd t):eH (l++t)=eH l++eH t:=by
 unfold eH
 rw[Ie t ht l,k9]
theorem Ha {c:Int} (h1:0x80<=c) (h2:c<0xc2∨0xf4<c):dk c=(0,0,0):=by
 unfold dk
 rw[if_neg (by omega),if_pos (by omega)]
theorem Hn {y:UInt8} (s:Bytes) (h1:0x80<=b2 y) (h2:b2 y<=0xbf):cW (y::s)=(0xfffd,1,false):=by
 simp only[cW]
 rw[Ha h1 (by omega)]
 rfl
theorem PV (m:List Int):Hd (cf m):=by
 cases m with
 |nil=>exact .inl rfl
 |cons c m =>
  right
  rw[dV]
  have hl:=(jT c).1
  have hn:=m7 (vB c) (cf m)
  rw[xD]at hn
  cases he:enc c with
  |nil=>rw[he]at hl;simp at hl
  |cons y s =>
   rw[he]at hn
   refine⟨y,s++cf m,rfl,?_⟩
   by_cases h1:b2 y<0x80
   ·exact .inl h1
   by_cases h2:0xbf<b2 y
   ·exact .inr h2
   rw[bI,Hn _ (by omega) (by omega)]at hn
   have:=Tq hn.symm
   simp at this
theorem Do (l m:List Int) (b:Bytes):eH (cf l++b++cf m)=cf l++eH b++cf m:=by
 rw[aX,wn,Nn _ _ (PV m),lm,aX]
theorem tG {x:UInt8} (r:Bytes) (h:b2 x<0x80):cW (x::r)=(b2 x,1,true):=by
 have:(dk (b2 x)).1=1:=by unfold dk;rw[if_pos h]
 simp only[cW]
 rw[if_pos this]
theorem If {x:UInt8} (r:Bytes) (h:b2 x<0x80):signs (x::r)=b2 x::signs r:=by
 have hN:cE (x::r)=1:=by unfold cE;rw[tG r h];rfl
 rw[fm,hN,tG r h]
 rfl
theorem EF {x:UInt8} (h:b2 x<0x80):enc (b2 x)=[x]:=by
 rw[sN (iD x).1 h]
 have:(b2 x).toNat=x.toNat:=by unfold b2;simp
 rw[this,cC]
theorem No {x:UInt8} (r:Bytes) (h:b2 x<0x80):eH (x::r)=x::eH r:=by
 unfold eH
 rw[If r h,dV,EF h]
 rfl
theorem wl:∀ (a:Bytes),(∀x∈a,b2 x<0x80)->∀ t,eH (a++t)=a++eH t
 | [],_,_=>rfl
 |x::a,h,t=>by
  rw[bI,No _ (h x (by simp)),wl a (fun y hy=>h y (by simp[hy])) t]
  rfl
theorem tO (a:Bytes) (h:∀ x∈a,b2 x<0x80):eH a=a:=by
 have:=wl a h []
 rw[aV]at this
 rw[this,show eH []=[]from rfl,aV]
theorem lh:∀ (r:Bytes) (m k:Nat) (c lo hi:Int),0x80<=lo->∀ y∈r.take ((bK r m k c lo hi).2.1-k).toNat,0x80<=b2 y
 |r,0,k,c,lo,hi,_,y,hy=>by simp[bK]at hy
 | [],m+1,k,c,lo,hi,_,y,hy=>by simp at hy
 |x::r,m+1,k,c,lo,hi,h,y,hy=>by
  unfold bK at hy
  split at hy
  ·simp at hy
  have hle:=kB r m (k+1) (64*c+b2 x-0x80) 0x80 0xbf
  obtain⟨j,hj⟩:∃ j:Nat,((bK r m (k+1) (64*c+b2 x-0x80) 0x80 0xbf).2.1-k).toNat=j+1:=⟨((bK r m (k+1) (64*c+b2 x-0x80) 0x80 0xbf).2.1-k).toNat-1,by omega⟩
  have ih:=lh r m (k+1) (64*c+b2 x-0x80) 0x80 0xbf (by omega) y
  rw[hj,ex,aN]at hy
  rcases hy with rfl|hy
  ·omega
  refine ih ?_
  have:((bK r m (k+1) (64*c+b2 x-0x80) 0x80 0xbf).2.1-((k+1:Nat):Int)).toNat=j:=by omega
  rw[this];exact hy
theorem Dc {x:UInt8} (r:Bytes) (h:0x80<=b2 x):∀ y∈(x::r).take (cE (x::r)),0x80<=b2 y:=by
 intro y hy
 have hn:=iQ x r
 obtain⟨j,hj⟩:∃ j:Nat,cE (x::r)=j+1:=⟨cE (x::r)-1,by omega⟩
 have hj2:j=((cW (x::r)).2.1-((1:Nat):Int)).toNat:=by omega
 rw[hj,ex,aN]at hy
 rcases hy with rfl|hy
 ·exact h
 rw[hj2]at hy
 revert hy
 simp only[cW]
 have hl1:¬ (dk (b2 x)).1=1:=by
  intro h1
  revert h1
  unfold dk
  rw[if_neg (by omega)]
  repeat (first|split|simp)
 rw[if_neg hl1]
 by_cases h0:(dk (b2 x)).1=0
 ·rw[if_pos h0];simp
 rw[if_neg h0]
 have hb:=(z8 _ hl1 h0).1
 split
 ·exact lh _ _ _ _ _ _ hb y
 split
 iterate 2
  ·exact lh _ _ _ _ _ _ hb y
theorem dz {x y:UInt8} (h:b2 x=b2 y):x=y:=by
 unfold b2 at h
 exact ew.mp (by omega)
end
end Go.Proofs.YtmndlfglgcioeaaGreatDoor
