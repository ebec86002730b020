/- TextD TextE TextF TextG: joined. -/
import Derived.Deep.QuietTactic
import Derived.BigQuiet
import Derived.Test.YtmndlfglgcioeaaGreatDoorGTextA
set_option maxHeartbeats 40000000
namespace Go.Proofs.YtmndlfglgcioeaaGreatDoor
open Tryz
open Go.RowKit
set_option maxRecDepth 10000
def bK:Bytes->Nat->Nat->Int->Int->Int->Int×Int×Bool
 |_,0,k,c,_,_=>(c,k,true)
 | [],_+1,k,_,_,_=>(0xfffd,k,false)
 |x::r,m+1,k,c,lo,hi=>if b2 x<lo∨hi<b2 x then(0xfffd,k,false)else bK r m (k+1) (64*c+b2 x-0x80) 0x80 0xbf
def cW:Bytes->Int×Int×Bool
 | []=>(0,0,false)
 |x::r =>
  let t:=dk (b2 x)
  if t.1=1 then(b2 x,1,true)
  else if t.1=0 then(0xfffd,1,false)
  else if t.1=2 then bK r 1 1 (b2 x%32) t.2.1 t.2.2
  else if t.1=3 then bK r 2 1 (b2 x%16) t.2.1 t.2.2
  else bK r 3 1 (b2 x%8) t.2.1 t.2.2

theorem kB:∀ (r:Bytes) (m k:Nat) (c lo hi:Int),(k:Int)<=(bK r m k c lo hi).2.1∧(bK r m k c lo hi).2.1<=(k:Int)+r.length
 |_,0,k,c,_,_=>by simp[bK];omega
 | [],_+1,k,_,_,_=>by simp[bK]
 |x::r,m+1,k,c,lo,hi=>by
  unfold bK
  split
  ·simp;omega
  have:=kB r m (k+1) (64*c+b2 x-0x80) 0x80 0xbf
  simp only[ag]
  omega
def cE (l:Bytes):Nat:=(cW l).2.1.toNat
theorem iQ (x:UInt8) (r:Bytes):(cW (x::r)).2.1=(cE (x::r):Int)∧1<=cE (x::r)∧cE (x::r)<=r.length+1:=by
 have h:1<=(cW (x::r)).2.1∧(cW (x::r)).2.1<=1+r.length:=by
  unfold cW
  simp only
  split
  ·simp;omega
  split
  ·simp;omega
  split
  ·have:=kB r 1 1 (b2 x%32) (dk (b2 x)).2.1 (dk (b2 x)).2.2;omega
  split
  ·have:=kB r 2 1 (b2 x%16) (dk (b2 x)).2.1 (dk (b2 x)).2.2;omega
  have:=kB r 3 1 (b2 x%8) (dk (b2 x)).2.1 (dk (b2 x)).2.2;omega
 unfold cE
 omega
def qM:Nat->Bytes->List Int
 |0,_=>[]
 |_,[]=>[]
 |f+1,x::r=>(cW (x::r)).1::qM f ((x::r).drop (cE (x::r)))
def signs (l:Bytes):List Int:=qM l.length l
theorem mG (f:Nat) (x:UInt8) (r:Bytes):qM (f+1) (x::r)=(cW (x::r)).1::qM f ((x::r).drop (cE (x::r))):=rfl
theorem ro:∀ (f g:Nat) (l:Bytes),l.length<=f->l.length<=g->qM f l=qM g l
 |0,g,l,h,_=>by
  obtain rfl:l=[]:=am (by omega)
  cases g <;>rfl
 |f+1,0,l,_,h=>by
  obtain rfl:l=[]:=am (by omega)
  rfl
 |f+1,g+1,[],_,_=>rfl
 |f+1,g+1,x::r,h,h'=>by
  have hn:=iQ x r
  rw[ag]at h h'
  have hd:((x::r).drop (cE (x::r))).length<=r.length:=by rw[ai,ag];omega
  rw[mG,mG,ro f g _ (by omega) (by omega)]
theorem wH:signs []=[]:=rfl
theorem fm (x:UInt8) (r:Bytes):signs (x::r)=(cW (x::r)).1::signs ((x::r).drop (cE (x::r))):=by
 have hn:=iQ x r
 have hd:((x::r).drop (cE (x::r))).length<=r.length:=by rw[ai,ag];omega
 unfold signs
 rw[ag,mG,ro r.length _ _ hd (ae _)]
theorem At.from_ {w:World} {b o k:Nat} {xs:List Value} (h:At w b o xs):At w b (o+k) (xs.drop k):=fun j hj=>by
 have hj':k+j<xs.length:=by simp at hj;omega
 have:=h (k+j) hj'
 rw[lK,this]
 simp
theorem At.from' {w:World} {b o o' k c:Nat} {l:Bytes} (h:At w b o (Lib.byteCells l)) (hl:l.length<=c) (ho:k<c->o'=o+k):At w b o' (Lib.byteCells (l.drop k)):=by
 by_cases hk:k<c
 ·rw[ho hk]
  have:=h.from_ (k:=k)
  rwa [show(Lib.byteCells l).drop k=Lib.byteCells (l.drop k) by simp[Lib.byteCells]]at this
 intro j hj
 simp[Lib.byteCells]at hj
 omega

def cf (l:List Int):Bytes:=l.flatMap enc
theorem dV (c:Int) (l:List Int):cf (c::l)=enc c++cf l:=rfl
theorem k9 (a b:List Int):cf (a++b)=cf a++cf b:=by simp[cf]
theorem jT (c:Int):1<=(enc c).length∧(enc c).length<=4:=by
 by_cases hb:c<0∨0x10ffff<c∨(0xd800<=c∧c<=0xdfff)
 ·rw[xC hb];simp
 by_cases h1:c<0x80
 ·rw[sN (by omega) h1];simp
 by_cases h2:c<0x800
 ·rw[zw (by omega) h2];simp
 by_cases h3:c<0x10000
 ·rw[sO (by omega) h3 (by omega)];simp
 rw[zx (by omega) (by omega)];simp
theorem GZ (l:List Int):(cf l).length<=4*l.length:=by
 induction l with
 |nil=>simp[cf]
 |cons c r ih=>rw[dV,af,ag];have:=jT c;omega
theorem kD:∀ (n:Nat) (l:Bytes),l.length<=n->(signs l).length<=l.length
 |_,[],_=>by simp[wH]
 |0,x::r,h=>by simp at h
 |n+1,x::r,h=>by
  have hn:=iQ x r
  rw[ag]at h
  have hd:((x::r).drop (cE (x::r))).length<=r.length:=by rw[ai,ag];omega
  have:=kD n ((x::r).drop (cE (x::r))) (by omega)
  rw[fm,ag,ag]
  omega
def eH (l:Bytes):Bytes:=cf (signs l)

def fL:Bytes->Nat->Nat->Int->Int->Nat
 |_,0,k,_,_=>k
 | [],_+1,k,_,_=>k
 |x::r,m+1,k,lo,hi=>if lo<=b2 x∧b2 x<=hi then fL r m (k+1) 0x80 0xbf else k
def kQ:Bytes->Nat
 | []=>0
 |x::r=>fL r ((bX (b2 x)).2.2.toNat-1) 1 (bX (b2 x)).1 (bX (b2 x)).2.1
theorem xo (c:Int):(1<=(bX c).2.2∧(bX c).2.2<=4)∧0<=(bX c).1∧(bX c).1<256∧0<=(bX c).2.1∧(bX c).2.1<256:=by
 unfold bX
 repeat (first|split|(refine⟨⟨?_,?_⟩,?_,?_,?_,?_⟩ <;>simp))
theorem y7:∀ (r:Bytes) (m k:Nat) (lo hi:Int),k<=fL r m k lo hi∧fL r m k lo hi<=k+r.length
 |_,0,k,_,_=>by simp[fL]
 | [],_+1,k,_,_=>by simp[fL]
 |x::r,m+1,k,lo,hi=>by
  unfold fL
  split
  ·have:=y7 r m (k+1) 0x80 0xbf
   simp only[ag]
   omega
  simp
theorem rO (x:UInt8) (r:Bytes):1<=kQ (x::r)∧kQ (x::r)<=r.length+1:=by
 have:=y7 r ((bX (b2 x)).2.2.toNat-1) 1 (bX (b2 x)).1 (bX (b2 x)).2.1
 simp only[kQ]
 omega
theorem Gd {l:Bytes} {k m:Nat} {lo hi:Int} (h:l.length<=k):fL (l.drop k) (m+1) k lo hi=k:=by
 rw[bf h];rfl
theorem vl {l:Bytes} {k m:Nat} {lo hi:Int} (h:k<l.length) (hb:¬ (lo<=b2 l[k]∧b2 l[k]<=hi)):fL (l.drop k) (m+1) k lo hi=k:=by
 rw[ay h];simp only[fL];rw[if_neg hb]
theorem Kh {l:Bytes} {k m:Nat} {lo hi:Int} (h:k<l.length) (hb:lo<=b2 l[k]∧b2 l[k]<=hi):fL (l.drop k) (m+1) k lo hi=fL (l.drop (k+1)) m (k+1) 0x80 0xbf:=by
 rw[ay h];simp only[fL];rw[if_pos hb]
theorem uP (l:Bytes) (cap b o:Nat) (w:World) (hm:l.length<=maxLen) (h0:0<l.length) (h:At w b o (Lib.byteCells l)) :
  Calls prog 50 #[.slice (some ⟨b,o,none⟩) l.length cap] w fun e w'=>e=.returned (.int .i64 (kQ l))∧w=w':=by
 unfold maxLen at hm
 have H:∀ k (hk:k<l.length),w.cell? ⟨b,o+k,none⟩=some (.int .u8 (b2 l[k])):=fun k hk=>by
  have:=h k (by simpa[Lib.byteCells]using hk)
  simpa[Lib.byteCells,b2]using this
 have hc0:=H 0 h0
 simp only[d8]at hc0
 have GI:kQ l=fL (l.drop 1) ((bX (b2 l[0])).2.2.toNat-1) 1 (bX (b2 l[0])).1 (bX (b2 l[0])).2.1:=by
  cases l with
  |nil=>simp at h0
  |cons x r=>rfl
 obtain⟨⟨hs1,hs2⟩,hl1,hl2,hh1,LL⟩:=xo (b2 l[0])
 have cb:=fun w=>Bz (b2 l[0]) w
 obtain⟨lo,hi,sz,hB⟩:∃ lo hi sz,bX (b2 l[0])=(lo,hi,sz):=⟨_,_,_,rfl⟩
 rw[hB]at GI hs1 hs2 hl1 hl2 hh1 LL cb
 simp only at GI hs1 hs2 hl1 hl2 hh1 LL cb
 clear hB
 obtain⟨n,rfl⟩:=Int.eq_ofNat_of_zero_le (show 0<=sz by omega)
 simp only[ki]at GI hs1 hs2 cb
 have a89:1<=n:=by omega
 have a9a:n<=4:=by omega
 obtain⟨x0,hx0⟩:=ap (b2 l[0])
 rw[<-hx0]at hc0 cb
 clear hx0
 obtain⟨L,hL⟩:=ap (l.length)
 rw[<-hL]at hm h0 ⊢
 have HLL:=h_ hL;clear hL
 obtain⟨r,hr⟩:=ap (kQ l)
 rw[<-hr]at GI ⊢
 have HR:=h_ GI;clear GI hr
 have HH:=h_ H;clear H h
 have Hcl:=h_ cb;clear cb
 go_enter func50,ntmps50
 go_wp2_with (go_at_call 85;refine(Hcl.out _).mono ?_;rintro e w' ⟨rfl,rfl⟩)
 go_loop [3,4,6] (fun lo' hi' i=>∃ (k:Nat) (l1 h1:Int),1<=k∧k<=n∧k<=L∧i=.int .i64 k∧lo'=.int .u8 l1∧hi'=.int .u8 h1∧(0<=l1∧l1<256)∧(0<=h1∧h1<256)∧fL (l.drop k) (n-k) k l1 h1=r) (fun _ _ i=>n-(intOf i).toNat)
 case atStart=>exact⟨1,lo,hi,by omega,by omega,by omega,rfl,rfl,rfl,⟨hl1,hl2⟩,⟨hh1,LL⟩,HR.out.symm⟩
 case round =>
  obtain⟨k,l1,h1,hk1,hk,hkL,rfl,rfl,rfl,⟨hl1,hl2⟩,⟨hh1,LL⟩,hg⟩:=hrel
  have HG:=h_ hg;clear hg
  by_cases hkn:k<n
  ·by_cases hkl:k<L
   ·have hx:k<l.length:=by have:=HLL.out;omega
    have hcell:=HH.out k hx
    obtain⟨y,hy⟩:=ap (b2 l[k])
    rw[<-hy]at hcell
    obtain⟨hy1,hy2⟩:0<=y∧y<256:=by rw[hy];exact iD _
    have HY:=h_ hy;clear hy
    by_cases hb1:y<l1
    ·have hfin:=vl (m:=n-k-1) (lo:=l1) (hi:=h1) hx (by rw[<-HY.out];omega)
     rw[show n-k-1+1=n-k by omega,HG.out]at hfin
     have HF:=h_ hfin;clear hfin
     go_wp2
     go_ret
     exact⟨gw (by rw[HF.out]),rfl⟩
    by_cases hb2':h1<y
    ·have hfin:=vl (m:=n-k-1) (lo:=l1) (hi:=h1) hx (by rw[<-HY.out];omega)
     rw[show n-k-1+1=n-k by omega,HG.out]at hfin
     have HF:=h_ hfin;clear hfin
     go_wp2
     go_ret
     exact⟨gw (by rw[HF.out]),rfl⟩
    have hfin:=Kh (m:=n-k-1) (lo:=l1) (hi:=h1) hx (by rw[<-HY.out];omega)
    rw[show n-k-1+1=n-k by omega,HG.out,show n-k-1=n-(k+1) by omega]at hfin
    have HF:=h_ hfin;clear hfin
    go_wp2
    go_round
    case rel=>exact⟨k+1,_,_,by omega,by omega,by omega,by go_num,rfl,rfl,by omega,by omega,HF.out.symm⟩
    case measure=>simp[intOf];omega
   have hfin:=Gd (l:=l) (k:=k) (m:=n-k-1) (lo:=l1) (hi:=h1) (by have:=HLL.out;omega)
   rw[show n-k-1+1=n-k by omega,HG.out]at hfin
   have HF:=h_ hfin;clear hfin
   go_wp2
   go_ret
   exact⟨gw (by rw[HF.out]),rfl⟩
  obtain rfl:k=n:=by omega
  have hfin:r=k:=by
   have:=HG.out
   rw[<-this]
   simp[fL]
  have HF:=h_ hfin;clear hfin
  go_wp2
  go_ret
  exact⟨gw (by rw[HF.out]),rfl⟩
end Go.Proofs.YtmndlfglgcioeaaGreatDoor
