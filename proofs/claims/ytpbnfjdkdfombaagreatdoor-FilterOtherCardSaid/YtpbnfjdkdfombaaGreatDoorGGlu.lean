/- Joined texts. -/
import Derived.Deep.QuietTactic
import Derived.BigQuiet
import Derived.Test.YtpbnfjdkdfombaaGreatDoorGTextA
import Derived.IntWalk
import Derived.Great.Ranges
import Derived.Deep.MidRow
import Derived.Shelf.Vars
import Derived.KernelRfl
import Derived.Maps.AppendAt
set_option maxHeartbeats 40000000
namespace Go.Proofs.YtpbnfjdkdfombaaGreatDoor
open Tryz
open Go.RowKit
set_option maxRecDepth 10000
def cm:O->Nat->Nat->Int->Int->Int->Int×Int×Bool
 |_,0,k,c,_,_=>(c,k,true)
 | [],_+1,k,_,_,_=>(0xfffd,k,false)
 |x::r,m+1,k,c,lo,hi=>if G x<lo\/hi<G x then(0xfffd,k,false)else cm r m (k+1) (64*c+G x-0x80) 0x80 0xbf
def dW:O->Int×Int×Bool
 | []=>(0,0,false)
 |x::r =>
  let t:=dV (G x)
  if t.1=1 then(G x,1,true)
  else if t.1=0 then(0xfffd,1,false)
  else if t.1=2 then cm r 1 1 (G x%32) t.2.1 t.2.2
  else if t.1=3 then cm r 2 1 (G x%16) t.2.1 t.2.2
  else cm r 3 1 (G x%8) t.2.1 t.2.2

theorem lP:∀ (r:O) (m k:Nat) (c lo hi:Int),(k:Int)<=(cm r m k c lo hi).2.1/\(cm r m k c lo hi).2.1<=(k:Int)+r.length
 |_,0,k,c,_,_=>by simp[cm];omega
 | [],_+1,k,_,_,_=>by simp[cm]
 |x::r,m+1,k,c,lo,hi=>by
  unfold cm
  split
  ·simp;omega
  have:=lP r m (k+1) (64*c+G x-0x80) 0x80 0xbf;simp only[ah];omega
def d9(l:O):Nat:=(dW l).2.1.toNat
theorem mK(x:UInt8)(r:O):(dW (x::r)).2.1=(d9 (x::r):Int)/\1<=d9 (x::r)/\d9 (x::r)<=r.length+1:=by
 have h:1<=(dW (x::r)).2.1/\(dW (x::r)).2.1<=1+r.length:=by
  unfold dW;simp only
  split
  ·simp;omega
  split
  ·simp;omega
  split
  ·have:=lP r 1 1 (G x%32) (dV (G x)).2.1 (dV (G x)).2.2;omega
  split
  ·have:=lP r 2 1 (G x%16) (dV (G x)).2.1 (dV (G x)).2.2;omega
  have:=lP r 3 1 (G x%8) (dV (G x)).2.1 (dV (G x)).2.2;omega
 unfold d9;omega
def sL:Nat->O->List Int
 |0,_=>[]
 |_,[]=>[]
 |f+1,x::r=>(dW (x::r)).1::sL f ((x::r).drop (d9 (x::r)))
def signs(l:O):List Int:=sL l.length l
theorem oB(f:Nat)(x:UInt8)(r:O):sL (f+1) (x::r)=(dW (x::r)).1::sL f ((x::r).drop (d9 (x::r))):=rfl
theorem tM:∀ (f g:Nat) (l:O),l.length<=f->l.length<=g->sL f l=sL g l
 |0,g,l,h,_=>by
  obtain rfl:l=[]:=az M0;cases g <;>rfl
 |f+1,0,l,_,h=>by
  obtain rfl:l=[]:=az M0;rfl
 |f+1,g+1,[],_,_=>rfl
 |f+1,g+1,x::r,h,h'=>by
  have hn:=mK x r;rw[ah]at h h';have hd:((x::r).drop (d9 (x::r))).length<=r.length:=by rw[aj,ah];omega
  rw[oB,oB,tM f g _ M0 M0]
theorem y9:signs []=[]:=rfl
theorem p9(x:UInt8)(r:O):signs (x::r)=(dW (x::r)).1::signs ((x::r).drop (d9 (x::r))):=by
 have hn:=mK x r;have hd:((x::r).drop (d9 (x::r))).length<=r.length:=by rw[aj,ah];omega
 unfold signs;rw[ah,oB,tM r.length _ _ hd (ag _)]
theorem At.from_{w:H}{b o k:Nat}{xs:List Z}(h:At w b o xs):At w b (o+k) (xs.drop k):=λj hj=>by
 have hj':k+j<xs.length:=by simp at hj;omega
 have:=h (k+j) hj';rw[EK,this];simp
theorem At.from'{w:H}{b o o' k c:Nat}{l:O}(h:At w b o (Lib.byteCells l))(hl:l.length<=c)(ho:k<c->o'=o+k):At w b o' (Lib.byteCells (l.drop k)):=by
 by_cases hk:k<c
 ·rw[ho hk]
  have:=h.from_ (k:=k)
  rwa [show(Lib.byteCells l).drop k=Lib.byteCells (l.drop k) by simp[Lib.byteCells]]at this
 intro j hj;simp[Lib.byteCells]at hj;omega

def fp(l:List Int):O:=l.flatMap enc
theorem mH(c:Int)(l:List Int):fp (c::l)=enc c++fp l:=rfl
theorem oN(c:Int):1<=(enc c).length/\(enc c).length<=4:=by
 by_cases U:c<0\/0x10ffff<c\/(0xd800<=c/\c<=0xdfff)
 ·rw[Uy U];simp
 by_cases Y:c<0x80
 ·rw[ID M0 Y];simp
 by_cases I:c<0x800
 ·rw[IE M0 I];simp
 by_cases h3:c<0x10000
 ·rw[yn M0 h3 M0];simp
 rw[IF M0 M0];simp
theorem Lu(l:List Int):(fp l).length<=4*l.length:=by
 induction l with
 |nil=>simp[fp]
 |cons c r ih=>rw[mH,ae,ah];have:=oN c;omega
theorem lR:∀ (n:Nat) (l:O),l.length<=n->(signs l).length<=l.length
 |_,[],_=>by simp[y9]
 |0,x::r,h=>by simp at h
 |n+1,x::r,h=>by
  have hn:=mK x r;rw[ah]at h;have hd:((x::r).drop (d9 (x::r))).length<=r.length:=by rw[aj,ah];omega
  have:=lR n ((x::r).drop (d9 (x::r))) M0;rw[p9,ah,ah];omega
def a5h(l:O):O:=fp (signs l)

def gI:O->Nat->Nat->Int->Int->Nat
 |_,0,k,_,_=>k
 | [],_+1,k,_,_=>k
 |x::r,m+1,k,lo,hi=>if lo<=G x/\G x<=hi then gI r m (k+1) 0x80 0xbf else k
def ml:O->Nat
 | []=>0
 |x::r=>gI r ((cG (G x)).2.2.toNat-1) 1 (cG (G x)).1 (cG (G x)).2.1
theorem zO(c:Int):(1<=(cG c).2.2/\(cG c).2.2<=4)/\0<=(cG c).1/\(cG c).1<256/\0<=(cG c).2.1/\(cG c).2.1<256:=by
 unfold cG
 repeat (first|split|(refine⟨⟨?_,?_⟩,?_,?_,?_,?_⟩ <;>simp))
theorem BK:∀ (r:O) (m k:Nat) (lo hi:Int),k<=gI r m k lo hi/\gI r m k lo hi<=k+r.length
 |_,0,k,_,_=>by simp[gI]
 | [],_+1,k,_,_=>by simp[gI]
 |x::r,m+1,k,lo,hi=>by
  unfold gI
  split
  ·have:=BK r m (k+1) 0x80 0xbf
   simp only[ah];omega
  simp
theorem um(x:UInt8)(r:O):1<=ml (x::r)/\ml (x::r)<=r.length+1:=by
 have:=BK r ((cG (G x)).2.2.toNat-1) 1 (cG (G x)).1 (cG (G x)).2.1;simp only[ml];omega
theorem Ks{l:O}{k m:Nat}{lo hi:Int}(h:l.length<=k):gI (l.drop k) (m+1) k lo hi=k:=by
 rw[bE h];rfl
theorem xY{l:O}{k m:Nat}{lo hi:Int}(h:k<l.length)(U:¬ (lo<=G l[k]/\G l[k]<=hi)):gI (l.drop k) (m+1) k lo hi=k:=by
 rw[aC h];simp only[gI];rw[if_neg U]
theorem N0{l:O}{k m:Nat}{lo hi:Int}(h:k<l.length)(U:lo<=G l[k]/\G l[k]<=hi):gI (l.drop k) (m+1) k lo hi=gI (l.drop (k+1)) m (k+1) 0x80 0xbf:=by
 rw[aC h];simp only[gI];rw[if_pos U]
theorem xC(l:O)(cap b o:Nat)(w:H)(hm:l.length<=maxLen)(h0:0<l.length)(h:At w b o (Lib.byteCells l)) :
  gB prog 96 #[.slice (some ⟨b,o,none⟩) l.length cap] w (.int .i64 (ml l)):=by
 unfold maxLen at hm
 have H':∀ k (hk:k<l.length),w.cell? ⟨b,o+k,none⟩=some (.int .u8 (G l[k])):=λk hk=>by
  have:=h k (by simpa[Lib.byteCells]using hk)
  simpa[Lib.byteCells,G]using this
 have hc0:=H' 0 h0;simp only[dH]at hc0
 have Le:ml l=gI (l.drop 1) ((cG (G l[0])).2.2.toNat-1) 1 (cG (G l[0])).1 (cG (G l[0])).2.1:=by
  cases l with
  |nil=>simp at h0
  |cons x r=>rfl
 obtain⟨⟨hs1,hs2⟩,hl1,hl2,hh1,PW⟩:=zO (G l[0]);have cb:=λw=>E5 (G l[0]) w;obtain⟨lo,hi,sz,hB⟩:∃ lo hi sz,cG (G l[0])=(lo,hi,sz):=⟨_,_,_,rfl⟩;rw[hB]at Le hs1 hs2 hl1 hl2 hh1 PW cb;simp only at Le hs1 hs2 hl1 hl2 hh1 PW cb;clear hB;obtain⟨n,rfl⟩:=Int.eq_ofNat_of_zero_le (show 0<=sz by omega);simp only[eV]at Le hs1 hs2 cb;have b4T:1<=n:=M0;have b4U:n<=4:=M0;obtain⟨x0,hx0⟩:=V (G l[0]);rw[<-hx0]at hc0 cb;clear hx0;obtain⟨L,hL⟩:=V (l.length);rw[<-hL]at hm h0 ⊢;have xM:=F hL;clear hL;obtain⟨r,hr⟩:=V (ml l);rw[<-hr]at Le ⊢;have HR:=F Le;clear Le hr;have HH:=F H';clear H' h;have Hcl:=F cb;clear cb;go_enter func96,ntmps96
 go_wp2_with (go_at_call 138;refine(Hcl.o _).m ?_;rintro e w' ⟨rfl,rfl⟩)
 go_loop [3,4,6] (λlo' hi' i=>∃ (k:Nat) (l1 Y:Int),1<=k/\k<=n/\k<=L/\i=.int .i64 k/\lo'=.int .u8 l1/\hi'=.int .u8 Y/\(0<=l1/\l1<256)/\(0<=Y/\Y<256)/\gI (l.drop k) (n-k) k l1 Y=r) (λ_ _ i=>n-(intOf i).toNat)
 case atStart=>exact⟨1,lo,hi,M0,M0,M0,rfl,rfl,rfl,⟨hl1,hl2⟩,⟨hh1,PW⟩,HR.o.symm⟩
 case round =>
  obtain⟨k,l1,Y,hk1,hk,hkL,rfl,rfl,rfl,⟨hl1,hl2⟩,⟨hh1,PW⟩,hg⟩:=hrel;have HG:=F hg;clear hg;by_cases hkn:k<n
  ·by_cases hkl:k<L
   ·have X:k<l.length:=by have:=xM.o;omega
    have hcell:=HH.o k X;obtain⟨y,hy⟩:=V (G l[k]);rw[<-hy]at hcell;obtain⟨hy1,hy2⟩:0<=y/\y<256:=by rw[hy];exact jL _
    have HY:=F hy;clear hy;by_cases hb1:y<l1
    ·have hfin:=xY (m:=n-k-1) (lo:=l1) (hi:=Y) X (by rw[<-HY.o];omega)
     rw[show n-k-1+1=n-k by omega,HG.o]at hfin;have HF:=F hfin;clear hfin
     go_wp2
     go_ret;exact⟨iD (by rw[HF.o]),rfl⟩
    by_cases hb2':Y<y
    ·have hfin:=xY (m:=n-k-1) (lo:=l1) (hi:=Y) X (by rw[<-HY.o];omega)
     rw[show n-k-1+1=n-k by omega,HG.o]at hfin;have HF:=F hfin;clear hfin
     go_wp2
     go_ret;exact⟨iD (by rw[HF.o]),rfl⟩
    have hfin:=N0 (m:=n-k-1) (lo:=l1) (hi:=Y) X (by rw[<-HY.o];omega);rw[show n-k-1+1=n-k by omega,HG.o,show n-k-1=n-(k+1) by omega]at hfin;have HF:=F hfin;clear hfin
    go_wp2
    go_round
    case rel=>exact⟨k+1,_,_,M0,M0,M0,by go_num,rfl,rfl,M0,M0,HF.o.symm⟩
    case measure=>simp[intOf];omega
   have hfin:=Ks (l:=l) (k:=k) (m:=n-k-1) (lo:=l1) (hi:=Y) (by have:=xM.o;omega);rw[show n-k-1+1=n-k by omega,HG.o]at hfin;have HF:=F hfin;clear hfin
   go_wp2
   go_ret;exact⟨iD (by rw[HF.o]),rfl⟩
  obtain rfl:k=n:=M0
  have hfin:r=k:=by
   have:=HG.o;rw[<-this];simp[gI]
  have HF:=F hfin;clear hfin
  go_wp2
  go_ret;exact⟨iD (by rw[HF.o]),rfl⟩
end Go.Proofs.YtpbnfjdkdfombaaGreatDoor
set_option maxHeartbeats 40000000
namespace Go.Proofs.YtpbnfjdkdfombaaGreatDoor
open Tryz
open Go.RowKit
set_option maxRecDepth 10000
theorem zI{a:ByteArray}{b:O}(h:a=E b):Ending.returned (.string a)=.returned (S b):=by rw[h]
theorem join_one(c:Int):fp [c]=enc c:=by simp[fp]
theorem mI:fp [0x69,0x307]=[105,204,135]:=by decide +kernel
theorem ix:fp [0x2e]=[46]:=by decide +kernel
theorem jY:fp [0x61,0x2f,0x63]=[97,47,99]:=by decide +kernel
theorem jZ:fp [0x63,0x2f,0x6f]=[99,47,111]:=by decide +kernel
theorem LS(c:Int)(w:H):gB prog 237 #[.int .i64 c] w (S (fp (oE c))):=by
 rcases DU c with⟨h|h|h|h|h|h,e⟩|⟨h,I,e⟩|⟨h,I,e⟩|⟨rfl,e⟩|⟨h,e⟩|⟨rfl|rfl|rfl,e⟩|⟨rfl,e⟩|⟨rfl,e⟩|⟨h,e⟩|⟨h,e⟩|⟨h|h,e⟩|⟨h,e⟩|⟨h,e⟩
 iterate 6
  ·rw[e]
   clear e;have q0:(c==304)=false:=by simp;omega
   have q1:(c==8228)=false:=by simp;omega
   have q2:(c==12290)=false:=by simp;omega
   have q3:(c==65377)=false:=by simp;omega
   have q4:(c==8448)=false:=by simp;omega
   have q5:(c==8453)=false:=by simp;omega
   go_enter func237,ntmps237
   go_wp2_with (first|(go_at_call 247;first|(refine(gu _ _ _ _ M0).m ?_;rintro e w2 ⟨rfl,rfl⟩)|(refine(gq _ _ _ _ M0).m ?_;rintro e w2 ⟨rfl,rfl⟩))|(go_at_call 57;refine(fK _ _).m ?_;rintro e w2 ⟨rfl,rfl⟩))
   go_ret;exact⟨zI (by first|rfl|rw[join_one]|(rw[mI];rfl)|(rw[ix];rfl)|(rw[jY];rfl)|(rw[jZ];rfl)|(rw[join_one];congr 2;omega)),rfl⟩
 ·rw[e]
  clear e;have q0:(c==304)=false:=by simp;omega
  have q1:(c==8228)=false:=by simp;omega
  have q2:(c==12290)=false:=by simp;omega
  have q3:(c==65377)=false:=by simp;omega
  have q4:(c==8448)=false:=by simp;omega
  have q5:(c==8453)=false:=by simp;omega
  have tm:Int.tmod c 2=0:=by rw[ei M0];exact I
  go_enter func237,ntmps237
  go_wp2_with (first|(go_at_call 247;first|(refine(gu _ _ _ _ M0).m ?_;rintro e w2 ⟨rfl,rfl⟩)|(refine(gq _ _ _ _ M0).m ?_;rintro e w2 ⟨rfl,rfl⟩))|(go_at_call 57;refine(fK _ _).m ?_;rintro e w2 ⟨rfl,rfl⟩))
  go_ret;exact⟨zI (by first|rfl|rw[join_one]|(rw[mI];rfl)|(rw[ix];rfl)|(rw[jY];rfl)|(rw[jZ];rfl)|(rw[join_one];congr 2;omega)),rfl⟩
 ·rw[e]
  clear e;have q0:(c==304)=false:=by simp;omega
  have q1:(c==8228)=false:=by simp;omega
  have q2:(c==12290)=false:=by simp;omega
  have q3:(c==65377)=false:=by simp;omega
  have q4:(c==8448)=false:=by simp;omega
  have q5:(c==8453)=false:=by simp;omega
  have tm:Int.tmod c 2=1:=by rw[ei M0];exact I
  go_enter func237,ntmps237
  go_wp2_with (first|(go_at_call 247;first|(refine(gu _ _ _ _ M0).m ?_;rintro e w2 ⟨rfl,rfl⟩)|(refine(gq _ _ _ _ M0).m ?_;rintro e w2 ⟨rfl,rfl⟩))|(go_at_call 57;refine(fK _ _).m ?_;rintro e w2 ⟨rfl,rfl⟩))
  go_ret;exact⟨zI (by first|rfl|rw[join_one]|(rw[mI];rfl)|(rw[ix];rfl)|(rw[jY];rfl)|(rw[jZ];rfl)|(rw[join_one];congr 2;omega)),rfl⟩
 ·rw[e]
  clear e;go_enter func237,ntmps237
  go_wp2_with (first|(go_at_call 247;first|(refine(gu _ _ _ _ M0).m ?_;rintro e w2 ⟨rfl,rfl⟩)|(refine(gq _ _ _ _ M0).m ?_;rintro e w2 ⟨rfl,rfl⟩))|(go_at_call 57;refine(fK _ _).m ?_;rintro e w2 ⟨rfl,rfl⟩))
  go_ret;exact⟨zI (by first|rfl|rw[join_one]|(rw[mI];rfl)|(rw[ix];rfl)|(rw[jY];rfl)|(rw[jZ];rfl)|(rw[join_one];congr 2;omega)),rfl⟩
 ·rw[e]
  clear e;have q0:(c==304)=false:=by simp;omega
  have q1:(c==8228)=false:=by simp;omega
  have q2:(c==12290)=false:=by simp;omega
  have q3:(c==65377)=false:=by simp;omega
  have q4:(c==8448)=false:=by simp;omega
  have q5:(c==8453)=false:=by simp;omega
  go_enter func237,ntmps237
  go_wp2_with (first|(go_at_call 247;first|(refine(gu _ _ _ _ M0).m ?_;rintro e w2 ⟨rfl,rfl⟩)|(refine(gq _ _ _ _ M0).m ?_;rintro e w2 ⟨rfl,rfl⟩))|(go_at_call 57;refine(fK _ _).m ?_;rintro e w2 ⟨rfl,rfl⟩))
  go_ret;exact⟨zI (by first|rfl|rw[join_one]|(rw[mI];rfl)|(rw[ix];rfl)|(rw[jY];rfl)|(rw[jZ];rfl)|(rw[join_one];congr 2;omega)),rfl⟩
 iterate 5
  ·rw[e]
   clear e;go_enter func237,ntmps237
   go_wp2_with (first|(go_at_call 247;first|(refine(gu _ _ _ _ M0).m ?_;rintro e w2 ⟨rfl,rfl⟩)|(refine(gq _ _ _ _ M0).m ?_;rintro e w2 ⟨rfl,rfl⟩))|(go_at_call 57;refine(fK _ _).m ?_;rintro e w2 ⟨rfl,rfl⟩))
   go_ret;exact⟨zI (by first|rfl|rw[join_one]|(rw[mI];rfl)|(rw[ix];rfl)|(rw[jY];rfl)|(rw[jZ];rfl)|(rw[join_one];congr 2;omega)),rfl⟩
 iterate 4
  ·rw[e]
   clear e;have q0:(c==304)=false:=by simp;omega
   have q1:(c==8228)=false:=by simp;omega
   have q2:(c==12290)=false:=by simp;omega
   have q3:(c==65377)=false:=by simp;omega
   have q4:(c==8448)=false:=by simp;omega
   have q5:(c==8453)=false:=by simp;omega
   go_enter func237,ntmps237
   go_wp2_with (first|(go_at_call 247;first|(refine(gu _ _ _ _ M0).m ?_;rintro e w2 ⟨rfl,rfl⟩)|(refine(gq _ _ _ _ M0).m ?_;rintro e w2 ⟨rfl,rfl⟩))|(go_at_call 57;refine(fK _ _).m ?_;rintro e w2 ⟨rfl,rfl⟩))
   go_ret;exact⟨zI (by first|rfl|rw[join_one]|(rw[mI];rfl)|(rw[ix];rfl)|(rw[jY];rfl)|(rw[jZ];rfl)|(rw[join_one];congr 2;omega)),rfl⟩
 ·rw[e]
  clear e;have q0:(c==304)=false:=by simp;omega
  have q1:(c==8228)=false:=by simp;omega
  have q2:(c==12290)=false:=by simp;omega
  have q3:(c==65377)=false:=by simp;omega
  have q4:(c==8448)=false:=by simp;omega
  have q5:(c==8453)=false:=by simp;omega
  have tm:Int.tmod (c-120782) 10=(c-120782)%10:=ei M0;have tm2:0<=(c-120782)%10/\(c-120782)%10<10:=M0;go_enter func237,ntmps237
  go_wp2_with (first|(go_at_call 247;first|(refine(gu _ _ _ _ M0).m ?_;rintro e w2 ⟨rfl,rfl⟩)|(refine(gq _ _ _ _ M0).m ?_;rintro e w2 ⟨rfl,rfl⟩))|(go_at_call 57;refine(fK _ _).m ?_;rintro e w2 ⟨rfl,rfl⟩))
  go_ret;exact⟨zI (by first|rfl|rw[join_one]|(rw[mI];rfl)|(rw[ix];rfl)|(rw[jY];rfl)|(rw[jZ];rfl)|(rw[join_one];congr 2;omega)),rfl⟩
 rw[e];clear e;have q0:(c==304)=false:=by simp;omega
 have q1:(c==8228)=false:=by simp;omega
 have q2:(c==12290)=false:=by simp;omega
 have q3:(c==65377)=false:=by simp;omega
 have q4:(c==8448)=false:=by simp;omega
 have q5:(c==8453)=false:=by simp;omega
 go_enter func237,ntmps237
 go_wp2_with (first|(go_at_call 247;first|(refine(gu _ _ _ _ M0).m ?_;rintro e w2 ⟨rfl,rfl⟩)|(refine(gq _ _ _ _ M0).m ?_;rintro e w2 ⟨rfl,rfl⟩))|(go_at_call 57;refine(fK _ _).m ?_;rintro e w2 ⟨rfl,rfl⟩))
 go_ret;exact⟨zI (by first|rfl|rw[join_one]|(rw[mI];rfl)|(rw[ix];rfl)|(rw[jY];rfl)|(rw[jZ];rfl)|(rw[join_one];congr 2;omega)),rfl⟩
end Go.Proofs.YtpbnfjdkdfombaaGreatDoor
set_option maxHeartbeats 40000000
namespace Go.Proofs.YtpbnfjdkdfombaaGreatDoor
open Tryz
open Go.RowKit
set_option maxRecDepth 10000
structure gF where
 kind:Int
 name:O
 four:Int
 six:List Int
structure Url where
 aJ:O
 usr:O
 er:O
 host:gF
 bz:Bool
 port:Int
 opq:Bool
 flat:O
 path:List O
 bZ:Bool
 q:O
 cg:Bool
 f:O
def aS(h:gF):List Z:=.int .i64 h.kind::S h.name::.int .u32 h.four::h.six.map (Value.int .u16)
def cu(A:Z)(u:Url):List Z :=
 [S u.aJ,S u.usr,S u.er]++aS u.host++[.bool u.bz,.int .i64 u.port,.bool u.opq,S u.flat,A,.bool u.bZ,S u.q,.bool u.cg,S u.f]
structure sV (h:gF):Prop where
 k:-9223372036854775808<=h.kind/\h.kind<=9223372036854775807
 f:0<=h.four/\h.four<4294967296
 l:h.six.length=8
 s:∀ n∈h.six,0<=n/\n<65536
structure gG (u:Url):Prop where
 h:sV u.host
 p:-9223372036854775808<=u.port/\u.port<=9223372036854775807
structure By (cs:Array Z) (h:gF):Prop where
 sz:cs.size=11
 kind:cs[0]? = some (.int .i64 h.kind)
 name:cs[1]? = some (S h.name)
 four:cs[2]? = some (.int .u32 h.four)
 six:∀ k (hk:k<h.six.length),cs[3+k]? = some (.int .u16 h.six[k])
 ok:sV h
structure sY (cs:Array Z) (A:Z) (u:Url):Prop where
 sz:cs.size=23
 aJ:cs[0]? = some (S u.aJ)
 usr:cs[1]? = some (S u.usr)
 er:cs[2]? = some (S u.er)
 kind:cs[3]? = some (.int .i64 u.host.kind)
 XM:∀ k,k<11->cs[3+k]? = (aS u.host)[k]?
 bz:cs[14]? = some (.bool u.bz)
 port:cs[15]? = some (.int .i64 u.port)
 opq:cs[16]? = some (.bool u.opq)
 flat:cs[17]? = some (S u.flat)
 path:cs[18]? = some A
 bZ:cs[19]? = some (.bool u.bZ)
 q:cs[20]? = some (S u.q)
 cg:cs[21]? = some (.bool u.cg)
 f:cs[22]? = some (S u.f)
 ok:gG u
theorem eight{α:Type}{l:List α}(h:l.length=8):∃ a b c d e f g i,l=[a,b,c,d,e,f,g,i]:=by
 match l,h with
 | [a,b,c,d,e,f,g,i],_=>exact⟨a,b,c,d,e,f,g,i,rfl⟩
theorem CS{h:gF}(ok:sV h):By (aS h).toArray h:=by
 obtain⟨a,b,c,d,e,f,g,i,hl⟩:=eight ok.l;refine⟨?_,rfl,rfl,rfl,?_,ok⟩
 ·simp[aS,ok.l]
 intro k hk;have h8:k<8:=by rw[ok.l]at hk;exact hk
 simp only[aS,cf];rw[show 3+k=k+1+1+1 by omega];simp[hk]
theorem lV{u:Url}(A:Z)(ok:gG u):sY (cu A u).toArray A u:=by
 obtain⟨aJ,usr,er,⟨hk,hn,hf,six⟩,a1,a2,a3,a4,a5,a6,a7,a8,a9⟩:=u;have hl:=ok.h.l;simp only at hl;obtain⟨a,b,c,d,e,f,g,i,rfl⟩:=eight hl;refine⟨rfl,rfl,rfl,rfl,rfl,?_,rfl,rfl,rfl,rfl,rfl,rfl,rfl,rfl,rfl,ok⟩;intro k hk
 match k,hk with
 |0,_=>rfl
 |1,_=>rfl
 |2,_=>rfl
 |3,_=>rfl
 |4,_=>rfl
 |5,_=>rfl
 |6,_=>rfl
 |7,_=>rfl
 |8,_=>rfl
 |9,_=>rfl
 |10,_=>rfl
theorem jb:(prog.info? 32).map (·.size)=some 11:=Rz
end Go.Proofs.YtpbnfjdkdfombaaGreatDoor
set_option maxHeartbeats 40000000
namespace Go.Proofs.YtpbnfjdkdfombaaGreatDoor
open Tryz
theorem a1Q{W:H}(h:W.ShapedOpen prog):∃ m,W.cell? ⟨0,0,none⟩=some (.int .i64 m) :=
 cell_of_shapedOpen_int (g:=0) (zero:=#[.int .i64 0]) (t:=3) h (of_decide_eq_true Rz) Rz rfl Rz Rz underlying3
end Go.Proofs.YtpbnfjdkdfombaaGreatDoor
set_option maxHeartbeats 40000000
namespace Go.Proofs.YtpbnfjdkdfombaaGreatDoor
open Tryz
open Go.RowKit
set_option maxRecDepth 10000
theorem RQ{P:Program}{e:TypeId}{i:TypeInfo}(hi:P.info? e=some i)(hsize:i.size=1)(w:H):(sizeOf e).run P w=.ok 1 w:=by
 simp[sizeOf,typeInfo,hi,hsize]
section
variable {P:Program} {t:TypeId} {i:TypeInfo} (ht:P.underlying t=some (.slice (P.elem t))) (hi:P.info? (P.elem t)=some i) (hsize:i.size=1)
include ht hi hsize
end
