/- Joined texts. -/
import Derived.Deep.QuietTactic
import Derived.BigQuiet
import Derived.Test.YtmndlfglgcioeaaGreatDoorEGTextA
set_option maxHeartbeats 40000000
namespace Go.Proofs.YtmndlfglgcioeaaGreatDoor
open Tryz
open Go.RowKit
set_option maxRecDepth 10000
def ct:Bytes->Nat->Nat->Int->Int->Int->Int×Int×Bool
 |_,0,k,c,_,_=>(c,k,true)
 | [],_+1,k,_,_,_=>(0xfffd,k,false)
 |x::r,m+1,k,c,lo,hi=>if b2 x<lo∨hi<b2 x then(0xfffd,k,false)else ct r m (k+1) (64*c+b2 x-0x80) 0x80 0xbf
def dZ:Bytes->Int×Int×Bool
 | []=>(0,0,false)
 |x::r =>
  let t:=dY (b2 x)
  if t.1=1 then(b2 x,1,true)
  else if t.1=0 then(0xfffd,1,false)
  else if t.1=2 then ct r 1 1 (b2 x%32) t.2.1 t.2.2
  else if t.1=3 then ct r 2 1 (b2 x%16) t.2.1 t.2.2
  else ct r 3 1 (b2 x%8) t.2.1 t.2.2

theorem mP:∀ (r:Bytes) (m k:Nat) (c lo hi:Int),(k:Int)<=(ct r m k c lo hi).2.1∧(ct r m k c lo hi).2.1<=(k:Int)+r.length
 |_,0,k,c,_,_=>by simp[ct];omega
 | [],_+1,k,_,_,_=>by simp[ct]
 |x::r,m+1,k,c,lo,hi=>by
  unfold ct
  split
  ·simp;omega
  have:=mP r m (k+1) (64*c+b2 x-0x80) 0x80 0xbf;simp only[ag];omega
def dL(l:Bytes):Nat:=(dZ l).2.1.toNat
theorem nB(x:UInt8)(r:Bytes):(dZ (x::r)).2.1=(dL (x::r):Int)∧1<=dL (x::r)∧dL (x::r)<=r.length+1:=by
 have h:1<=(dZ (x::r)).2.1∧(dZ (x::r)).2.1<=1+r.length:=by
  unfold dZ;simp only
  split
  ·simp;omega
  split
  ·simp;omega
  split
  ·have:=mP r 1 1 (b2 x%32) (dY (b2 x)).2.1 (dY (b2 x)).2.2;omega
  split
  ·have:=mP r 2 1 (b2 x%16) (dY (b2 x)).2.1 (dY (b2 x)).2.2;omega
  have:=mP r 3 1 (b2 x%8) (dY (b2 x)).2.1 (dY (b2 x)).2.2;omega
 unfold dL;omega
def tr:Nat->Bytes->List Int
 |0,_=>[]
 |_,[]=>[]
 |f+1,x::r=>(dZ (x::r)).1::tr f ((x::r).drop (dL (x::r)))
def signs(l:Bytes):List Int:=tr l.length l
theorem pf(f:Nat)(x:UInt8)(r:Bytes):tr (f+1) (x::r)=(dZ (x::r)).1::tr f ((x::r).drop (dL (x::r))):=rfl
theorem ui:∀ (f g:Nat) (l:Bytes),l.length<=f->l.length<=g->tr f l=tr g l
 |0,g,l,h,_=>by
  obtain rfl:l=[]:=ak (by omega);cases g <;>rfl
 |f+1,0,l,_,h=>by
  obtain rfl:l=[]:=ak (by omega);rfl
 |f+1,g+1,[],_,_=>rfl
 |f+1,g+1,x::r,h,h'=>by
  have hn:=nB x r;rw[ag]at h h';have hd:((x::r).drop (dL (x::r))).length<=r.length:=by rw[ah,ag];omega
  rw[pf,pf,ui f g _ (by omega) (by omega)]
theorem pP:signs []=[]:=rfl
theorem lu(x:UInt8)(r:Bytes):signs (x::r)=(dZ (x::r)).1::signs ((x::r).drop (dL (x::r))):=by
 have hn:=nB x r;have hd:((x::r).drop (dL (x::r))).length<=r.length:=by rw[ah,ag];omega
 unfold signs;rw[ag,pf,ui r.length _ _ hd (af _)]
theorem At.from_{w:World}{b o k:Nat}{xs:List Value}(h:At w b o xs):At w b (o+k) (xs.drop k):=fun j hj=>by
 have hj':k+j<xs.length:=by simp at hj;omega
 have:=h (k+j) hj';rw[tH,this];simp
theorem At.from'{w:World}{b o o' k c:Nat}{l:Bytes}(h:At w b o (Lib.byteCells l))(hl:l.length<=c)(ho:k<c->o'=o+k):At w b o' (Lib.byteCells (l.drop k)):=by
 by_cases hk:k<c
 ·rw[ho hk]
  have:=h.from_ (k:=k)
  rwa [show(Lib.byteCells l).drop k=Lib.byteCells (l.drop k) by simp[Lib.byteCells]]at this
 intro j hj;simp[Lib.byteCells]at hj;omega

def cf(l:List Int):Bytes:=l.flatMap enc
theorem dW(c:Int)(l:List Int):cf (c::l)=enc c++cf l:=rfl
theorem nu(a b:List Int):cf (a++b)=cf a++cf b:=by simp[cf]
theorem ns(c:Int):1<=(enc c).length∧(enc c).length<=4:=by
 by_cases hb:c<0∨0x10ffff<c∨(0xd800<=c∧c<=0xdfff)
 ·rw[AO hb];simp
 by_cases h1:c<0x80
 ·rw[rE (by omega) h1];simp
 by_cases h2:c<0x800
 ·rw[vQ (by omega) h2];simp
 by_cases h3:c<0x10000
 ·rw[rF (by omega) h3 (by omega)];simp
 rw[vR (by omega) (by omega)];simp
theorem MI(l:List Int):(cf l).length<=4*l.length:=by
 induction l with
 |nil=>simp[cf]
 |cons c r ih=>rw[dW,ae,ag];have:=ns c;omega
theorem k6:∀ (n:Nat) (l:Bytes),l.length<=n->(signs l).length<=l.length
 |_,[],_=>by simp[pP]
 |0,x::r,h=>by simp at h
 |n+1,x::r,h=>by
  have hn:=nB x r;rw[ag]at h;have hd:((x::r).drop (dL (x::r))).length<=r.length:=by rw[ah,ag];omega
  have:=k6 n ((x::r).drop (dL (x::r))) (by omega);rw[lu,ag,ag];omega
def oY(l:Bytes):Bytes:=cf (signs l)

def iL:Bytes->Nat->Nat->Int->Int->Nat
 |_,0,k,_,_=>k
 | [],_+1,k,_,_=>k
 |x::r,m+1,k,lo,hi=>if lo<=b2 x∧b2 x<=hi then iL r m (k+1) 0x80 0xbf else k
def nc:Bytes->Nat
 | []=>0
 |x::r=>iL r ((cN (b2 x)).2.2.toNat-1) 1 (cN (b2 x)).1 (cN (b2 x)).2.1
theorem Aw(c:Int):(1<=(cN c).2.2∧(cN c).2.2<=4)∧0<=(cN c).1∧(cN c).1<256∧0<=(cN c).2.1∧(cN c).2.1<256:=by
 unfold cN
 repeat (first|split|(refine⟨⟨?_,?_⟩,?_,?_,?_,?_⟩ <;>simp))
theorem CO:∀ (r:Bytes) (m k:Nat) (lo hi:Int),k<=iL r m k lo hi∧iL r m k lo hi<=k+r.length
 |_,0,k,_,_=>by simp[iL]
 | [],_+1,k,_,_=>by simp[iL]
 |x::r,m+1,k,lo,hi=>by
  unfold iL
  split
  ·have:=CO r m (k+1) 0x80 0xbf
   simp only[ag];omega
  simp
theorem uW(x:UInt8)(r:Bytes):1<=nc (x::r)∧nc (x::r)<=r.length+1:=by
 have:=CO r ((cN (b2 x)).2.2.toNat-1) 1 (cN (b2 x)).1 (cN (b2 x)).2.1;simp only[nc];omega
theorem Ly{l:Bytes}{k m:Nat}{lo hi:Int}(h:l.length<=k):iL (l.drop k) (m+1) k lo hi=k:=by
 rw[bB h];rfl
theorem yP{l:Bytes}{k m:Nat}{lo hi:Int}(h:k<l.length)(hb:¬ (lo<=b2 l[k]∧b2 l[k]<=hi)):iL (l.drop k) (m+1) k lo hi=k:=by
 rw[aq h];simp only[iL];rw[if_neg hb]
theorem Ps{l:Bytes}{k m:Nat}{lo hi:Int}(h:k<l.length)(hb:lo<=b2 l[k]∧b2 l[k]<=hi):iL (l.drop k) (m+1) k lo hi=iL (l.drop (k+1)) m (k+1) 0x80 0xbf:=by
 rw[aq h];simp only[iL];rw[if_pos hb]
theorem yx(l:Bytes)(cap b o:Nat)(w:World)(hm:l.length<=maxLen)(h0:0<l.length)(h:At w b o (Lib.byteCells l)) :
  iz prog 50 #[.slice (some ⟨b,o,none⟩) l.length cap] w (.int .i64 (nc l)):=by
 unfold maxLen at hm
 have H:∀ k (hk:k<l.length),w.cell? ⟨b,o+k,none⟩=some (.int .u8 (b2 l[k])):=fun k hk=>by
  have:=h k (by simpa[Lib.byteCells]using hk)
  simpa[Lib.byteCells,b2]using this
 have hc0:=H 0 h0;simp only[dU]at hc0
 have Mm:nc l=iL (l.drop 1) ((cN (b2 l[0])).2.2.toNat-1) 1 (cN (b2 l[0])).1 (cN (b2 l[0])).2.1:=by
  cases l with
  |nil=>simp at h0
  |cons x r=>rfl
 obtain⟨⟨hs1,hs2⟩,hl1,hl2,hh1,Q7⟩:=Aw (b2 l[0]);have cb:=fun w=>FU (b2 l[0]) w;obtain⟨lo,hi,sz,hB⟩:∃ lo hi sz,cN (b2 l[0])=(lo,hi,sz):=⟨_,_,_,rfl⟩;rw[hB]at Mm hs1 hs2 hl1 hl2 hh1 Q7 cb;simp only at Mm hs1 hs2 hl1 hl2 hh1 Q7 cb;clear hB;obtain⟨n,rfl⟩:=Int.eq_ofNat_of_zero_le (show 0<=sz by omega);simp only[eF]at Mm hs1 hs2 cb;have b3T:1<=n:=by omega
 have b3U:n<=4:=by omega
 obtain⟨x0,hx0⟩:=az (b2 l[0]);rw[<-hx0]at hc0 cb;clear hx0;obtain⟨L,hL⟩:=az (l.length);rw[<-hL]at hm h0 ⊢;have yD:=h_ hL;clear hL;obtain⟨r,hr⟩:=az (nc l);rw[<-hr]at Mm ⊢;have HR:=h_ Mm;clear Mm hr;have HH:=h_ H;clear H h;have Hcl:=h_ cb;clear cb;go_enter func50,ntmps50
 go_wp2_with (go_at_call 85;refine(Hcl.out _).mono ?_;rintro e w' ⟨rfl,rfl⟩)
 go_loop [3,4,6] (fun lo' hi' i=>∃ (k:Nat) (l1 h1:Int),1<=k∧k<=n∧k<=L∧i=.int .i64 k∧lo'=.int .u8 l1∧hi'=.int .u8 h1∧(0<=l1∧l1<256)∧(0<=h1∧h1<256)∧iL (l.drop k) (n-k) k l1 h1=r) (fun _ _ i=>n-(intOf i).toNat)
 case atStart=>exact⟨1,lo,hi,by omega,by omega,by omega,rfl,rfl,rfl,⟨hl1,hl2⟩,⟨hh1,Q7⟩,HR.out.symm⟩
 case round =>
  obtain⟨k,l1,h1,hk1,hk,hkL,rfl,rfl,rfl,⟨hl1,hl2⟩,⟨hh1,Q7⟩,hg⟩:=hrel;have HG:=h_ hg;clear hg;by_cases hkn:k<n
  ·by_cases hkl:k<L
   ·have hx:k<l.length:=by have:=yD.out;omega
    have hcell:=HH.out k hx;obtain⟨y,hy⟩:=az (b2 l[k]);rw[<-hy]at hcell;obtain⟨hy1,hy2⟩:0<=y∧y<256:=by rw[hy];exact jr _
    have HY:=h_ hy;clear hy;by_cases hb1:y<l1
    ·have hfin:=yP (m:=n-k-1) (lo:=l1) (hi:=h1) hx (by rw[<-HY.out];omega)
     rw[show n-k-1+1=n-k by omega,HG.out]at hfin;have HF:=h_ hfin;clear hfin
     go_wp2
     go_ret;exact⟨jC (by rw[HF.out]),rfl⟩
    by_cases hb2':h1<y
    ·have hfin:=yP (m:=n-k-1) (lo:=l1) (hi:=h1) hx (by rw[<-HY.out];omega)
     rw[show n-k-1+1=n-k by omega,HG.out]at hfin;have HF:=h_ hfin;clear hfin
     go_wp2
     go_ret;exact⟨jC (by rw[HF.out]),rfl⟩
    have hfin:=Ps (m:=n-k-1) (lo:=l1) (hi:=h1) hx (by rw[<-HY.out];omega);rw[show n-k-1+1=n-k by omega,HG.out,show n-k-1=n-(k+1) by omega]at hfin;have HF:=h_ hfin;clear hfin
    go_wp2
    go_round
    case rel=>exact⟨k+1,_,_,by omega,by omega,by omega,by go_num,rfl,rfl,by omega,by omega,HF.out.symm⟩
    case measure=>simp[intOf];omega
   have hfin:=Ly (l:=l) (k:=k) (m:=n-k-1) (lo:=l1) (hi:=h1) (by have:=yD.out;omega);rw[show n-k-1+1=n-k by omega,HG.out]at hfin;have HF:=h_ hfin;clear hfin
   go_wp2
   go_ret;exact⟨jC (by rw[HF.out]),rfl⟩
  obtain rfl:k=n:=by omega
  have hfin:r=k:=by
   have:=HG.out;rw[<-this];simp[iL]
  have HF:=h_ hfin;clear hfin
  go_wp2
  go_ret;exact⟨jC (by rw[HF.out]),rfl⟩
end Go.Proofs.YtmndlfglgcioeaaGreatDoor
