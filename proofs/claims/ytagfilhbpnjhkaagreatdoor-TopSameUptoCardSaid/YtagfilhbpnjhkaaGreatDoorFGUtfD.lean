import Derived.Lib.ValidLaws
import Derived.Test.YtagfilhbpnjhkaaGreatDoorFGReg
set_option maxHeartbeats 0
namespace Go.Proofs.Q
section
open Go.RowKit Lib
def fF(a:Nat):Nat:=if a=0xe0 then 0xa0 else if a=0xf0 then 0x90 else 0x80
def fE(a:Nat):Nat:=if a=0xed then 0x9f else if a=0xf4 then 0x8f else 0xbf
theorem a3u{n a b c d:Nat}(h:a<0x80):decodeN n a b c d=(a,1):=by
 unfold decodeN;rw[ge h]
theorem a3t{n a b c d:Nat}(h:0x80<=a/\a<0xc2\/0xf4<a/\a<256):decodeN n a b c d=(65533,1):=by
 unfold decodeN;rw[gc M0]
 repeat' split
 all_goals first|rfl|(exfalso;omega)
theorem a3v{n a b c d:Nat}(h:0xc2<=a/\a<0xe0):decodeN n a b c d=if 1<n/\0x80<=b/\b<=0xbf then(64*(a%32)+b-128,2)else(65533,1):=by
 unfold decodeN;rw[gc M0];by_cases e:1<n/\0x80<=b/\b<=0xbf
 ·rw[ge e,ge M0,ge M0]
  simp only[a6u,and_true];omega
 rw[gc e,gc M0,gc M0,gc M0]
theorem a3w{n a b c d:Nat}(h:0xe0<=a/\a<0xf0):decodeN n a b c d=if(1<n/\fF a<=b/\b<=fE a)/\2<n/\0x80<=c/\c<=0xbf then(4096*(a%16)+64*b+c-8320,3)else(65533,1):=by
 unfold decodeN;rw[gc M0,gc M0];have i:fF a=if a=0xe0 then 0xa0 else 0x80:=by unfold fF;split;rfl;rw[gc M0]
 have j:fE a=if a=0xed then 0x9f else 0xbf:=by unfold fE;split;rfl;rw[gc M0]
 rw[i,j];by_cases e:(1<n/\(if a=0xe0 then 0xa0 else 0x80)<=b/\b<=(if a=0xed then 0x9f else 0xbf))/\2<n/\0x80<=c/\c<=0xbf
 ·rw[ge e]
  have Y:a=0xe0->0xa0<=b:=λh=>by rw[ge h]at e;exact e.1.2.1
  have I:a=0xed->b<=0x9f:=λh=>by rw[ge h]at e;exact e.1.2.2
  have h3:0x80<=b/\b<=0xbf:=by
   obtain⟨⟨_,p,q⟩,_⟩:=e;constructor
   ·split at p <;>omega
   split at q <;>omega
  rw[ge M0,ge M0];simp only[a6u,and_true];omega
 rw[gc e]
 have hbad:¬((1<n/\0x80<=b/\b<=0xbf)/\2<n/\0x80<=c/\c<=0xbf)\/(a=0xe0/\b<0xa0)\/(a=0xed/\0x9f<b):=by
  by_cases k:(1<n/\0x80<=b/\b<=0xbf)/\2<n/\0x80<=c/\c<=0xbf
  ·right
   by_cases f:a=0xe0
   ·left;refine⟨f,?_⟩
    rw[ge f,gc M0]at e;omega
   by_cases g:a=0xed
   ·right;refine⟨g,?_⟩
    rw[gc f,ge g]at e;omega
   rw[gc f,gc g]at e;omega
  left;exact k
 repeat' split
 all_goals first|rfl|(exfalso;omega)
theorem a3x{n a b c d:Nat}(h:0xf0<=a/\a<=0xf4):decodeN n a b c d=if(1<n/\fF a<=b/\b<=fE a)/\(2<n/\0x80<=c/\c<=0xbf)/\3<n/\0x80<=d/\d<=0xbf then(262144*(a%8)+4096*b+64*c+d-532608,4)else(65533,1):=by
 unfold decodeN;rw[gc M0,gc M0,gc M0];have i:fF a=if a=0xf0 then 0x90 else 0x80:=by unfold fF;rw[gc M0]
 have j:fE a=if a=0xf4 then 0x8f else 0xbf:=by unfold fE;rw[gc M0]
 rw[i,j];by_cases e:(1<n/\(if a=0xf0 then 0x90 else 0x80)<=b/\b<=(if a=0xf4 then 0x8f else 0xbf))/\(2<n/\0x80<=c/\c<=0xbf)/\3<n/\0x80<=d/\d<=0xbf
 ·rw[ge e]
  have Y:a=0xf0->0x90<=b:=λh=>by rw[ge h]at e;exact e.1.2.1
  have I:a=0xf4->b<=0x8f:=λh=>by rw[ge h]at e;exact e.1.2.2
  have h3:0x80<=b/\b<=0xbf:=by
   obtain⟨⟨_,p,q⟩,_⟩:=e;constructor
   ·split at p <;>omega
   split at q <;>omega
  rw[ge M0,ge M0];simp only[a6u,and_true];omega
 rw[gc e]
 have hbad:¬((1<n/\0x80<=b/\b<=0xbf)/\(2<n/\0x80<=c/\c<=0xbf)/\3<n/\0x80<=d/\d<=0xbf)\/(a=0xf0/\b<0x90)\/(a=0xf4/\0x8f<b):=by
  by_cases k:(1<n/\0x80<=b/\b<=0xbf)/\(2<n/\0x80<=c/\c<=0xbf)/\3<n/\0x80<=d/\d<=0xbf
  ·right
   by_cases f:a=0xf0
   ·left;refine⟨f,?_⟩
    rw[ge f,gc M0]at e;omega
   by_cases g:a=0xf4
   ·right;refine⟨g,?_⟩
    rw[gc f,ge g]at e;omega
   rw[gc f,gc g]at e;omega
  left;exact k
 repeat' split
 all_goals first|rfl|(exfalso;omega)
theorem QG{a:Nat}(h:a<0x80):dV (a:Int)=(1,0,0):=by unfold dV;rw[ge M0]
theorem a0p{a:Nat}(h:0x80<=a/\a<0xc2\/0xf4<a):dV (a:Int)=(0,0,0):=by unfold dV;rw[gc M0,ge M0]
theorem QH{a:Nat}(h:0xc2<=a/\a<0xe0):dV (a:Int)=(2,0x80,0xbf):=by
 unfold dV;rw[gc M0,gc M0,ge M0]
theorem QI{a:Nat}(h:0xe0<=a/\a<0xf0):dV (a:Int)=(3,(fF a:Int),(fE a:Int)):=by
 unfold dV fF fE;rw[gc M0,gc M0,gc M0];by_cases c:a=0xe0
 ·subst c;rfl
 by_cases d:a=0xed
 ·subst d;rfl
 rw[gc M0,gc M0,gc M0,gc M0,ge M0,gc c,gc M0,gc d,gc M0];rfl
theorem QJ{a:Nat}(h:0xf0<=a/\a<=0xf4):dV (a:Int)=(4,(fF a:Int),(fE a:Int)):=by
 unfold dV fF fE;rw[gc M0,gc M0,gc M0,gc M0,gc M0];by_cases c:a=0xf0
 ·subst c;rfl
 by_cases d:a=0xf4
 ·subst d;rfl
 rw[gc M0,gc M0,gc M0,gc M0,gc c,gc M0,gc d];rfl
theorem b8(n:Nat)(x:UInt8)(h:x.toNat=n):x=UInt8.ofNat n:=by
 apply eZ.1
 rw[h,fB];have:=x.toNat_lt;omega
end
section
open Go.RowKit Lib
theorem N7{a:Nat}(h:a<0xc2\/0xf4<a):cG (a:Int)=(0,0,1):=by
 unfold cG;rw[gc M0,gc M0,gc M0,gc M0,gc M0,gc M0,gc M0]
theorem N8{a:Nat}(h:0xc2<=a/\a<0xe0):cG (a:Int)=(0x80,0xbf,2):=by unfold cG;rw[ge M0]
theorem N9{a:Nat}(h:0xe0<=a/\a<0xf0):cG (a:Int)=((fF a:Int),(fE a:Int),3):=by
 unfold cG fF fE;rw[gc M0];by_cases c:a=0xe0
 ·subst c;rfl
 by_cases d:a=0xed
 ·subst d;rfl
 rw[gc M0,gc M0,ge M0,gc c,gc M0,gc d,gc M0];rfl
theorem Oa{a:Nat}(h:0xf0<=a/\a<=0xf4):cG (a:Int)=((fF a:Int),(fE a:Int),4):=by
 unfold cG fF fE;rw[gc M0,gc M0,gc M0,gc M0];by_cases c:a=0xf0
 ·subst c;rfl
 by_cases d:a=0xf4
 ·subst d;rfl
 rw[gc M0,ge M0,gc M0,gc c,gc M0,gc d];rfl
theorem vX:∀(r:O) (m k:Nat) (c lo hi:Int),(cm r m k c lo hi).2.1=(gI r m k lo hi:Int)
 |_,0,k,c,_,_=>by simp[cm,gI]
 | [],_+1,k,_,_,_=>by simp[cm,gI]
 |x::r,m+1,k,c,lo,hi=>by
  unfold cm gI;by_cases h:G x<lo\/hi<G x
  ·rw[ge h,gc M0]
  rw[gc h,ge M0];exact vX r m (k+1) _ _ _
def First(x:UInt8)(r:O):Prop :=
 ((dW (x::r)).2.2=true/\(dr (x::r)).2=d9 (x::r)/\((dr (x::r)).1:Int)=(dW (x::r)).1/\enc (dW (x::r)).1=(x::r).take (d9 (x::r))/\¬((dr (x::r)).1=65533/\(dr (x::r)).2=1) /\
  Utf8.valid (dW (x::r)).1=true) \/
 ((dW (x::r)).2.2=false/\(dW (x::r)).1=65533/\(dr (x::r)).1=65533/\(dr (x::r)).2=1/\ml (x::r)=d9 (x::r))
theorem rB{c:Int}(h:0<=c/\c<0xd800\/0xe000<=c/\c<=0x10ffff):Utf8.valid c=true:=by
 unfold Utf8.valid;simp only[kj,f8,gx];omega
theorem Vx(a:Nat):0x80<=fF a/\fE a<=0xbf:=by
 unfold fF fE;constructor
 ·repeat' split
  all_goals omega
 repeat' split
 all_goals omega
theorem ofNat_eq{n:Nat}{x:UInt8}(h:n=x.toNat):UInt8.ofNat n=x:=by subst h;exact dN
theorem UG(x:UInt8)(r:O)(h:x.toNat<0x80):First x r:=by
 have d:dV (G x)=(1,0,0):=QG h;have a:dW (x::r)=(G x,1,true):=by simp[dW,d]
 have c:d9 (x::r)=1:=by unfold d9;rw[a];rfl
 have hd:dr (x::r)=(x.toNat,1):=by rw[td];exact a3u h
 left
 rw[a,c,hd];refine⟨rfl,rfl,rfl,?_,by simp;omega,rB (by unfold G;omega)⟩;rw[ID (jL x).1 (by unfold G;omega)];simp[G]
theorem UE(x:UInt8)(r:O)(h:0x80<=x.toNat/\x.toNat<0xc2\/0xf4<x.toNat):First x r:=by
 have X:=x.toNat_lt;have d:dV (G x)=(0,0,0):=a0p h;have a:dW (x::r)=(65533,1,false):=by simp[dW,d]
 have c:d9 (x::r)=1:=by unfold d9;rw[a];rfl
 have hd:dr (x::r)=(65533,1):=by rw[td];exact a3t (by simp only[dZ,dj];omega)
 have U:cG (G x)=(0,0,1):=N7 M0
 right
 rw[a,c,hd];exact⟨rfl,rfl,rfl,rfl,by simp[ml,U,gI]⟩
theorem eR{x:UInt8}{r:O}{n:Nat}{c lo hi:Int}(a:dW (x::r)=cm r n 1 c lo hi)(U:cG (G x)=(lo,hi,((n+1:Nat):Int)))(e:(cm r n 1 c lo hi).2.2=false)
  (Y:(cm r n 1 c lo hi).1=65533) (hd:dr (x::r)=(65533,1)):First x r:=by
 right
 have d:ml (x::r)=d9 (x::r):=by
  unfold d9;rw[a,vX];simp[ml,U]
 rw[a,hd];exact⟨e,Y,rfl,rfl,d⟩
theorem UH(x:UInt8)(r:O)(h:0xc2<=x.toNat/\x.toNat<0xe0):First x r:=by
 have d:dV (G x)=(2,0x80,0xbf):=QH h;have U:cG (G x)=(0x80,0xbf,2):=N8 h;have a:dW (x::r)=cm r 1 1 (G x%32) 0x80 0xbf:=by simp[dW,d]
 have hd:dr (x::r)=decodeN (r.length+1) x.toNat (r[0]?.getD 0).toNat (r[1]?.getD 0).toNat (r[2]?.getD 0).toNat:=by rw[td];simp
 rw[a3v h]at hd;cases r with
 |nil=>exact eR a U rfl rfl (by rw[hd,gc Oc])
 |cons y r =>
  simp only[dZ,dj,cz]at hd;by_cases hc:0x80<=y.toNat/\y.toNat<=0xbf
  ·have e:cm (y::r) 1 1 (G x%32) 0x80 0xbf=(64*(G x%32)+G y-0x80,2,true):=by
    simp only[cm];rw[gc (by unfold G;omega)];rfl
   rw[e]at a;have c:d9 (x::y::r)=2:=by unfold d9;rw[a];rfl
   rw[ge M0]at hd
   left
   rw[a,c,hd];refine⟨rfl,rfl,by simp only[G];omega,?_,Oc,rB (by simp only[G];omega)⟩;rw[IE (by simp only[G];omega) (by simp only[G];omega)];rw[ofNat_eq (x:=x) (by simp only[G];omega),ofNat_eq (x:=y) (by simp only[G];omega)];rfl
  refine eR a U ?_ ?_ (by rw[hd,gc M0])
  all_goals simp only[cm];rw[ge (by unfold G;omega)]
theorem UI(x:UInt8)(r:O)(h:0xe0<=x.toNat/\x.toNat<0xf0):First x r:=by
 have g:dV (G x)=(3,(fF x.toNat:Int),(fE x.toNat:Int)):=QI h;have U:cG (G x)=((fF x.toNat:Int),(fE x.toNat:Int),3):=N9 h;have a:dW (x::r)=cm r 2 1 (G x%16) (fF x.toNat) (fE x.toNat):=by simp[dW,g]
 have hd:dr (x::r)=decodeN (r.length+1) x.toNat (r[0]?.getD 0).toNat (r[1]?.getD 0).toNat (r[2]?.getD 0).toNat:=by rw[td];simp
 rw[a3w h]at hd
 have c:0x80<=fF x.toNat/\fE x.toNat<=0xbf/\(x.toNat=0xe0->fF x.toNat=0xa0)/\(x.toNat=0xed->fE x.toNat=0x9f):=by
  exact⟨(Vx _).1,(Vx _).2,λh=>by rw[h];rfl,λh=>by rw[h];rfl⟩
 obtain⟨hlo1,hlo2,hlo3,a9K⟩:=c;generalize fF x.toNat=lo at *;generalize fE x.toNat=hi at *;cases r with
 |nil=>exact eR a U rfl rfl (by rw[hd,gc Oc])
 |cons y r =>
  simp only[dZ,dx,dj,cz]at hd;by_cases hc:lo<=y.toNat/\y.toNat<=hi
  ·have e:cm (y::r) 2 1 (G x%16) lo hi=cm r 1 2 (64*(G x%16)+G y-0x80) 0x80 0xbf:=by
    simp only[cm];rw[gc (by unfold G;omega)]
   cases r with
   |nil=>exact eR a U (by rw[e];rfl) (by rw[e];rfl) (by rw[hd,gc Oc])
   |cons z r =>
    simp only[dZ,dj,cz]at hd;by_cases hz:0x80<=z.toNat/\z.toNat<=0xbf
    ·have d:cm (z::r) 1 2 (64*(G x%16)+G y-0x80) 0x80 0xbf=(64*(64*(G x%16)+G y-0x80)+G z-0x80,3,true):=by
      simp only[cm];rw[gc (by unfold G;omega)];rfl
     rw[e,d]at a;have f:d9 (x::y::z::r)=3:=by unfold d9;rw[a];rfl
     rw[ge M0]at hd
     left
     rw[a,f,hd];refine⟨rfl,rfl,by simp only[G];omega,?_,Oc,rB (by simp only[G];omega)⟩;rw[yn (by simp only[G];omega) (by simp only[G];omega) (by simp only[G];omega)];rw[ofNat_eq (x:=x) (by simp only[G];omega),ofNat_eq (x:=y) (by simp only[G];omega),ofNat_eq (x:=z) (by simp only[G];omega)];rfl
    refine eR a U ?_ ?_ (by rw[hd,gc M0])
    all_goals rw[e];simp only[cm];rw[ge (by unfold G;omega)]
  refine eR a U ?_ ?_ (by rw[hd,gc M0])
  all_goals simp only[cm];rw[ge (by unfold G;omega)]
theorem UJ(x:UInt8)(r:O)(h:0xf0<=x.toNat/\x.toNat<=0xf4):First x r:=by
 have i:dV (G x)=(4,(fF x.toNat:Int),(fE x.toNat:Int)):=QJ h;have U:cG (G x)=((fF x.toNat:Int),(fE x.toNat:Int),4):=Oa h;have a:dW (x::r)=cm r 3 1 (G x%8) (fF x.toNat) (fE x.toNat):=by simp[dW,i]
 have hd:dr (x::r)=decodeN (r.length+1) x.toNat (r[0]?.getD 0).toNat (r[1]?.getD 0).toNat (r[2]?.getD 0).toNat:=by rw[td];simp
 rw[a3x h]at hd
 have d:0x80<=fF x.toNat/\fE x.toNat<=0xbf/\(x.toNat=0xf0->fF x.toNat=0x90)/\(x.toNat=0xf4->fE x.toNat=0x8f):=by
  exact⟨(Vx _).1,(Vx _).2,λh=>by rw[h];rfl,λh=>by rw[h];rfl⟩
 obtain⟨hlo1,hlo2,hlo3,a9K⟩:=d;generalize fF x.toNat=lo at *;generalize fE x.toNat=hi at *;cases r with
 |nil=>exact eR a U rfl rfl (by rw[hd,gc Oc])
 |cons y r =>
  simp only[dZ,dx,dj,cz]at hd;by_cases hc:lo<=y.toNat/\y.toNat<=hi
  ·have e:cm (y::r) 3 1 (G x%8) lo hi=cm r 2 2 (64*(G x%8)+G y-0x80) 0x80 0xbf:=by
    simp only[cm];rw[gc (by unfold G;omega)]
   cases r with
   |nil=>exact eR a U (by rw[e];rfl) (by rw[e];rfl) (by rw[hd,gc Oc])
   |cons z r =>
    simp only[dZ,dx,dj,cz]at hd;by_cases hz:0x80<=z.toNat/\z.toNat<=0xbf
    ·have c:cm (z::r) 2 2 (64*(G x%8)+G y-0x80) 0x80 0xbf=cm r 1 3 (64*(64*(G x%8)+G y-0x80)+G z-0x80) 0x80 0xbf:=by
      simp only[cm];rw[gc (by unfold G;omega)]
     cases r with
     |nil=>exact eR a U (by rw[e,c];rfl) (by rw[e,c];rfl) (by rw[hd,gc Oc])
     |cons u r =>
      simp only[dZ,dj,cz]at hd;by_cases hu:0x80<=u.toNat/\u.toNat<=0xbf
      ·have f:cm (u::r) 1 3 (64*(64*(G x%8)+G y-0x80)+G z-0x80) 0x80 0xbf=(64*(64*(64*(G x%8)+G y-0x80)+G z-0x80)+G u-0x80,4,true):=by
        simp only[cm];rw[gc (by unfold G;omega)];rfl
       rw[e,c,f]at a;have g:d9 (x::y::z::u::r)=4:=by unfold d9;rw[a];rfl
       rw[ge M0]at hd
       left
       rw[a,g,hd];refine⟨rfl,rfl,by simp only[G];omega,?_,Oc,rB (by simp only[G];omega)⟩;rw[D6 (by simp only[G];omega) (by simp only[G];omega)];rw[ofNat_eq (x:=x) (by simp only[G];omega),ofNat_eq (x:=y) (by simp only[G];omega),ofNat_eq (x:=z) (by simp only[G];omega),ofNat_eq (x:=u) (by simp only[G];omega)];rfl
      refine eR a U ?_ ?_ (by rw[hd,gc M0])
      all_goals rw[e,c];simp only[cm];rw[ge (by unfold G;omega)]
    refine eR a U ?_ ?_ (by rw[hd,gc M0])
    all_goals rw[e];simp only[cm];rw[ge (by unfold G;omega)]
  refine eR a U ?_ ?_ (by rw[hd,gc M0])
  all_goals simp only[cm];rw[ge (by unfold G;omega)]
theorem lH(x:UInt8)(r:O):First x r:=by
 by_cases Y:x.toNat<0x80
 ·exact UG x r Y
 by_cases I:x.toNat<0xc2\/0xf4<x.toNat
 ·exact UE x r M0
 by_cases h3:x.toNat<0xe0
 ·exact UH x r M0
 by_cases h4:x.toNat<0xf0
 ·exact UI x r M0
 exact UJ x r M0
end
section
open Go.RowKit Lib
theorem yh{p:O->Prop}(a:p [])(Y:∀x r,(∀t:O,t.length<=r.length->p t)->p (x::r)):∀l,p l:=by
 have:∀(n:Nat) (l:O),l.length<=n->p l:=by
  intro n
  induction n with
  |zero=>intro l h;obtain rfl:l=[]:=az M0;exact a
  |succ n c =>
   intro l h;cases l with
   |nil=>exact a
   |cons x r=>exact Y x r (λt ht=>c t (by simp at h;omega))
 exact λl=>this l.length l (ag _)
theorem a5F{t:Int×Int×Bool}{a b:Int}{c:Bool}(h:t=(a,b,c)):t.2.2=c:=by subst h;rfl
theorem Cj:enc 65533=[0xef,0xbf,0xbd]:=by rw[yn M0 M0 M0];rfl
theorem vd(x:UInt8)(r:O){n:Nat}(h:1<=n):((x::r).drop n).length<=r.length:=by rw[aj,cz];omega
theorem Uq:∀l,kz l=a5h l:=by
 refine yh rfl ?_;intro x r e;have hn:=mK x r;unfold a5h;rw[p9,mH];rcases lH x r with⟨Y,I,d,a,c,_⟩|⟨Y,I,d,a,c⟩
 ·rw[decT_ok c,a,I,e _ (vd x r M0)]
  rfl
 rw[decT_bad ⟨d,a⟩,I,Cj,c,e _ (vd x r M0)];rfl
theorem Hg:Utf8.valid 65533=true:=P8
theorem DK:∀l:O,∀c∈signs l,Utf8.valid c=true:=by
 refine yh (by simp[y9]) ?_;intro x r g c a;have hn:=mK x r;rw[p9,aK]at a;rcases a with a|a
 ·rw[a]
  rcases lH x r with⟨Y,I,d,e,f,h⟩|⟨Y,h,d,e,f⟩
  ·exact h
  rw[h];exact Hg
 exact g _ (vd x r M0) c a
theorem sQ(c:Int):Utf8.valid c=true ↔ (0<=c/\c<0xd800\/0xe000<=c/\c<=0x10ffff):=by
 unfold Utf8.valid;simp only[kj,f8,gx]
theorem cF{n:Nat}(h:n<256):(UInt8.ofNat n).toNat=n:=by rw[fB];omega
theorem LQ{c:Int}(s:Utf8.valid c=true)(t:O):dW (enc c++t)=(c,((enc c).length:Int),true):=by
 rw[sQ]at s;by_cases Y:c<0x80
 ·rw[ID M0 Y]
  have e:(UInt8.ofNat c.toNat).toNat=c.toNat:=cF M0;have f:dV (G (UInt8.ofNat c.toNat))=(1,0,0):=QG M0;have X:dW (UInt8.ofNat c.toNat::t)=(G (UInt8.ofNat c.toNat),1,true):=by simp[dW,f]
  rw[dE,f9,X];have d:G (UInt8.ofNat c.toNat)=c:=by unfold G;omega
  rw[d];rfl
 by_cases I:c<0x800
 ·rw[IE M0 I]
  have e:(UInt8.ofNat (192+c/64).toNat).toNat=(192+c/64).toNat:=cF M0;have q:(UInt8.ofNat (128+c%64).toNat).toNat=(128+c%64).toNat:=cF M0;generalize UInt8.ofNat (192+c/64).toNat=x at *;generalize UInt8.ofNat (128+c%64).toNat=y at *;have f:dV (G x)=(2,0x80,0xbf):=QH M0;have U:¬(G y<0x80\/0xbf<G y):=by unfold G;omega
  have d:64*(G x%32)+G y-0x80=c:=by unfold G;omega
  simp[dW,f,cm,U,d]
 by_cases r:c<0x10000
 ·rw[yn M0 r M0]
  have e:(UInt8.ofNat (224+c/4096).toNat).toNat=(224+c/4096).toNat:=cF M0;have q:(UInt8.ofNat (128+c/64%64).toNat).toNat=(128+c/64%64).toNat:=cF M0;have m:(UInt8.ofNat (128+c%64).toNat).toNat=(128+c%64).toNat:=cF M0;generalize UInt8.ofNat (224+c/4096).toNat=x at *;generalize UInt8.ofNat (128+c/64%64).toNat=y at *;generalize UInt8.ofNat (128+c%64).toNat=z at *;have f:dV (G x)=(3,(fF x.toNat:Int),(fE x.toNat:Int)):=QI M0
  have g:(x.toNat=0xe0->fF x.toNat=0xa0)/\(x.toNat≠0xe0->fF x.toNat=0x80)/\(x.toNat=0xed->fE x.toNat=0x9f)/\(x.toNat≠0xed->fE x.toNat=0xbf):=by
   unfold fF fE;refine⟨λh=>by rw[h];rfl,λh=>by rw[gc h,gc M0],λh=>by rw[h];rfl,λh=>by rw[gc h,gc M0]⟩
  generalize fF x.toNat=lo at *;generalize fE x.toNat=hi at *;obtain⟨o,k,p,l⟩:=g
  have U:¬(G y<(lo:Int)\/(hi:Int)<G y):=by
   unfold G;by_cases i:x.toNat=0xe0
   ·have:=o i;have:=l M0;omega
   by_cases j:x.toNat=0xed
   ·have:=k i;have:=p j;omega
   have:=k i;have:=l j;omega
  have a:¬(G z<0x80\/0xbf<G z):=by unfold G;omega
  have d:64*(64*(G x%16)+G y-0x80)+G z-0x80=c:=by unfold G;omega
  simp[dW,f,cm,U,a,d]
 rw[D6 M0 M0];have e:(UInt8.ofNat (240+c/262144).toNat).toNat=(240+c/262144).toNat:=cF M0;have e0:(UInt8.ofNat (128+c/4096%64).toNat).toNat=(128+c/4096%64).toNat:=cF M0;have q:(UInt8.ofNat (128+c/64%64).toNat).toNat=(128+c/64%64).toNat:=cF M0;have m:(UInt8.ofNat (128+c%64).toNat).toNat=(128+c%64).toNat:=cF M0;generalize UInt8.ofNat (240+c/262144).toNat=x at *;generalize UInt8.ofNat (128+c/4096%64).toNat=y at *;generalize UInt8.ofNat (128+c/64%64).toNat=z at *;generalize UInt8.ofNat (128+c%64).toNat=u at *;have f:dV (G x)=(4,(fF x.toNat:Int),(fE x.toNat:Int)):=QJ M0
 have g:(x.toNat=0xf0->fF x.toNat=0x90)/\(x.toNat≠0xf0->fF x.toNat=0x80)/\(x.toNat=0xf4->fE x.toNat=0x8f)/\(x.toNat≠0xf4->fE x.toNat=0xbf):=by
  unfold fF fE;refine⟨λh=>by rw[h];rfl,λh=>by rw[gc M0,gc h],λh=>by rw[h];rfl,λh=>by rw[gc M0,gc h]⟩
 generalize fF x.toNat=lo at *;generalize fE x.toNat=hi at *;obtain⟨o,k,p,l⟩:=g
 have U:¬(G y<(lo:Int)\/(hi:Int)<G y):=by
  unfold G;by_cases i:x.toNat=0xf0
  ·have:=o i;have:=l M0;omega
  by_cases j:x.toNat=0xf4
  ·have:=k i;have:=p j;omega
  have:=k i;have:=l j;omega
 have a:¬(G z<0x80\/0xbf<G z):=by unfold G;omega
 have n:¬(G u<0x80\/0xbf<G u):=by unfold G;omega
 have d:64*(64*(64*(G x%8)+G y-0x80)+G z-0x80)+G u-0x80=c:=by unfold G;omega
 simp[dW,f,cm,U,a,n,d]
def fix(c:Int):Int:=if Utf8.valid c=true then c else 65533
theorem b0C(c:Int):Utf8.valid (fix c)=true:=by
 unfold fix
 split
 ·assumption
 exact Hg
theorem a9e(c:Int):enc (fix c)=enc c:=by
 unfold fix
 split
 ·rfl
 next h =>
 rw[Cj,Uy];rw[sQ]at h;omega
theorem b1v{c:Int}(h:Utf8.valid c=true):fix c=c:=by unfold fix;rw[ge h]
theorem a6Y(c:Int)(t:O):signs (enc c++t)=fix c::signs t:=by
 have h:=LQ (b0C c) t;rw[a9e]at h;have a:=(oN c).1;cases he:enc c with
 |nil=>rw[he]at a;simp at a
 |cons x r =>
  rw[he]at h;rw[dE,p9]
  have d:d9 (x::(r++t))=(x::r).length:=by
   unfold d9;rw[<-List.cons_append,h];simp
  rw[d,<-List.cons_append,h,a1B]
theorem a5D:∀(l:List Int) (t:O),signs (fp l++t)=l.map fix++signs t
 | [],t=>rfl
 |c::l,t=>by rw[mH,bB,a6Y,a5D l t];rfl
theorem b1O(l:List Int):fp (l.map fix)=fp l:=by
 induction l with
 |nil=>rfl
 |cons c l a=>rw[dh,mH,mH,a9e,a]
theorem b2A{l:List Int}(h:∀c∈l,Utf8.valid c=true):l.map fix=l:=by
 induction l with
 |nil=>rfl
 |cons c l a=>rw[dh,b1v (h c Oc),a (λd hd=>h d (by simp[hd]))]
theorem b0R(l:List Int)(t:O):a5h (fp l++t)=fp l++a5h t:=by
 unfold a5h;rw[a5D,a4o,b1O]
theorem a82(l:List Int):a5h (fp l)=fp l:=by
 have:=b0R l [];rw[aV]at this;rw[this,show a5h []=[]from rfl,aV]
theorem wG:∀(l:List Int),(∀c∈l,Utf8.valid c=true)->runes (fp l)=l
 | [],_=>rfl
 |c::l,h=>by
  have m:=h c Oc;have a:=LQ m (fp l);have f:=(oN c).1;have n:=wG l (λd hd=>h d (by simp[hd]));rw[mH];cases he:enc c with
  |nil=>rw[he]at f;simp at f
  |cons x r =>
   rw[he]at a;rw[dE]at a⊢;rw[wF];have k:d9 (x::(r++fp l))=(x::r).length:=by unfold d9;rw[a];simp
   rcases lH x (r++fp l)with⟨Y,I,e,g,i,h6⟩|⟨Y,I,e,g,i⟩
   ·rw[e,I,k,a,<-List.cons_append,a1B,n]
   have j:(dW (x::(r++fp l))).2.2=true:=a5F a;rw[j]at Y;exact absurd Y Oc
theorem GQ(l:O):runes (kz l)=signs l:=by
 rw[Uq];exact wG _ (DK l)
end
section
open Go.RowKit Lib
theorem QK(c:Int)(h:¬(dV c).1=1)(a:¬(dV c).1=0):0x80<=(dV c).2.1/\(dV c).2.2<=0xbf:=by
 revert h a;unfold dV
 repeat (first|split|(intro h a;simp at *))
theorem QZ{x:UInt8}(r:O)(h:G x<0x80):dW (x::r)=(G x,1,true):=by
 have:(dV (G x)).1=1:=by unfold dV;rw[ge h]
 simp only[dW];rw[ge this]
theorem a1T{x:UInt8}(r:O)(h:G x<0x80):signs (x::r)=G x::signs r:=by
 have a:d9 (x::r)=1:=by unfold d9;rw[QZ r h];rfl
 rw[p9,a,QZ r h];rfl
theorem a2F{x:UInt8}(h:G x<0x80):enc (G x)=[x]:=by
 rw[ID (jL x).1 h];have:(G x).toNat=x.toNat:=by unfold G;simp
 rw[this,dN]
theorem a2j{x:UInt8}(r:O)(h:G x<0x80):a5h (x::r)=x::a5h r:=by
 unfold a5h;rw[a1T r h,mH,a2F h];rfl
theorem a1t:∀(a:O),(∀x∈a,G x<0x80)->∀t,a5h (a++t)=a++a5h t
 | [],_,_=>rfl
 |x::a,h,t=>by
  rw[dE,a2j _ (h x Oc),a1t a (λy hy=>h y (by simp[hy])) t];rfl
theorem a1r(a:O)(h:∀x∈a,G x<0x80):a5h a=a:=by
 have:=a1t a h [];rw[aV]at this;rw[this,show a5h []=[]from rfl,aV]
theorem mL:∀(r:O) (m k:Nat) (c lo hi:Int),0x80<=lo->∀y∈r.take ((cm r m k c lo hi).2.1-k).toNat,0x80<=G y
 |r,0,k,c,lo,hi,_,y,hy=>by simp[cm]at hy
 | [],m+1,k,c,lo,hi,_,y,hy=>by simp at hy
 |x::r,m+1,k,c,lo,hi,h,y,hy=>by
  unfold cm at hy
  split at hy
  ·simp at hy
  have hle:=lP r m (k+1) (64*c+G x-0x80) 0x80 0xbf;obtain⟨j,a⟩:∃j:Nat,((cm r m (k+1) (64*c+G x-0x80) 0x80 0xbf).2.1-k).toNat=j+1:=⟨((cm r m (k+1) (64*c+G x-0x80) 0x80 0xbf).2.1-k).toNat-1,M0⟩;have d:=mL r m (k+1) (64*c+G x-0x80) 0x80 0xbf M0 y;rw[a,dM,aK]at hy;rcases hy with rfl|hy
  ·omega
  refine d ?_;have:((cm r m (k+1) (64*c+G x-0x80) 0x80 0xbf).2.1-((k+1:Nat):Int)).toNat=j:=M0;rw[this];exact hy
theorem Gw{x:UInt8}(r:O)(h:0x80<=G x):∀y∈(x::r).take (d9 (x::r)),0x80<=G y:=by
 intro y hy;have hn:=mK x r;obtain⟨j,e⟩:∃j:Nat,d9 (x::r)=j+1:=⟨d9 (x::r)-1,M0⟩;have d:j=((dW (x::r)).2.1-((1:Nat):Int)).toNat:=M0;rw[e,dM,aK]at hy;rcases hy with rfl|hy
 ·exact h
 rw[d]at hy;revert hy;simp only[dW]
 have a:¬(dV (G x)).1=1:=by
  intro Y;revert Y;unfold dV;rw[gc M0]
  repeat (first|split|simp)
 rw[gc a];by_cases c:(dV (G x)).1=0
 ·rw[ge c];simp
 rw[gc c];have U:=(QK _ a c).1
 split
 ·exact mL _ _ _ _ _ _ U y
 split
 iterate 2
  ·exact mL _ _ _ _ _ _ U y
theorem eX{x y:UInt8}(h:G x=G y):x=y:=by
 unfold G at h;exact eZ.mp M0
end
