import Derived.Deep.QuietTactic
import Derived.BigQuiet
import Derived.Test.YtagfilhbpnjhkaaGreatDoorFGTextA
import Derived.IntWalk
set_option maxRecDepth 10000
set_option maxHeartbeats 0
namespace Go.Proofs.Q
open Tryz Go.RowKit
def cm:O->Nat->Nat->Int->Int->Int->Int×Int×Bool
 |_,0,k,c,_,_=>(c,k,true)
 | [],_+1,k,_,_,_=>(0xfffd,k,false)
 |x::r,m+1,k,c,lo,hi=>if G x<lo\/hi<G x then(0xfffd,k,false)else cm r m (k+1) (64*c+G x-0x80) 0x80 0xbf
def dW:O->Int×Int×Bool
 | []=>(0,0,false)
 |x::r =>
  let t:=dV (G x)
  if t.1=1 then(G x,1,true)
  else if t.1=0 then(0xfffd,1,false)
  else if t.1=2 then cm r 1 1 (G x%32) t.2.1 t.2.2
  else if t.1=3 then cm r 2 1 (G x%16) t.2.1 t.2.2
  else cm r 3 1 (G x%8) t.2.1 t.2.2

theorem lP:∀(r:O) (m k:Nat) (c lo hi:Int),(k:Int)<=(cm r m k c lo hi).2.1/\(cm r m k c lo hi).2.1<=(k:Int)+r.length
 |_,0,k,c,_,_=>by simp[cm];omega
 | [],_+1,k,_,_,_=>by simp[cm]
 |x::r,m+1,k,c,lo,hi=>by
  unfold cm
  split
  ·simp;omega
  have:=lP r m (k+1) (64*c+G x-0x80) 0x80 0xbf;simp only[cz];omega
def d9(l:O):Nat:=(dW l).2.1.toNat
theorem mK(x:UInt8)(r:O):(dW (x::r)).2.1=(d9 (x::r):Int)/\1<=d9 (x::r)/\d9 (x::r)<=r.length+1:=by
 have h:1<=(dW (x::r)).2.1/\(dW (x::r)).2.1<=1+r.length:=by
  unfold dW;simp only
  split
  ·simp;omega
  split
  ·simp;omega
  split
  ·have:=lP r 1 1 (G x%32) (dV (G x)).2.1 (dV (G x)).2.2;omega
  split
  ·have:=lP r 2 1 (G x%16) (dV (G x)).2.1 (dV (G x)).2.2;omega
  have:=lP r 3 1 (G x%8) (dV (G x)).2.1 (dV (G x)).2.2;omega
 unfold d9;omega
def sL:Nat->O->List Int
 |0,_=>[]
 |_,[]=>[]
 |f+1,x::r=>(dW (x::r)).1::sL f ((x::r).drop (d9 (x::r)))
def signs(l:O):List Int:=sL l.length l
theorem oB(f:Nat)(x:UInt8)(r:O):sL (f+1) (x::r)=(dW (x::r)).1::sL f ((x::r).drop (d9 (x::r))):=rfl
theorem tM:∀(f g:Nat) (l:O),l.length<=f->l.length<=g->sL f l=sL g l
 |0,g,l,h,_=>by
  obtain rfl:l=[]:=az M0;cases g <;>rfl
 |f+1,0,l,_,h=>by
  obtain rfl:l=[]:=az M0;rfl
 |f+1,g+1,[],_,_=>rfl
 |f+1,g+1,x::r,h,a=>by
  have hn:=mK x r;rw[cz]at h a;have hd:((x::r).drop (d9 (x::r))).length<=r.length:=by rw[aj,cz];omega
  rw[oB,oB,tM f g _ M0 M0]
theorem y9:signs []=[]:=rfl
theorem p9(x:UInt8)(r:O):signs (x::r)=(dW (x::r)).1::signs ((x::r).drop (d9 (x::r))):=by
 have hn:=mK x r;have hd:((x::r).drop (d9 (x::r))).length<=r.length:=by rw[aj,cz];omega
 unfold signs;rw[cz,oB,tM r.length _ _ hd (ag _)]
theorem At.from_{w:H}{b o k:Nat}{xs:List Z}(h:At w b o xs):At w b (o+k) (xs.drop k):=λj c=>by
 have a:k+j<xs.length:=by simp at c;omega
 have:=h (k+j) a;rw[EK,this];simp
theorem At.from'{w:H}{b o a k c:Nat}{l:O}(h:At w b o (Lib.byteCells l))(hl:l.length<=c)(f:k<c->a=o+k):At w b a (Lib.byteCells (l.drop k)):=by
 by_cases e:k<c
 ·rw[f e]
  have:=h.from_ (k:=k)
  rwa [show(Lib.byteCells l).drop k=Lib.byteCells (l.drop k) by simp[Lib.byteCells]]at this
 intro j d;simp[Lib.byteCells]at d;omega

def fp(l:List Int):O:=l.flatMap enc
theorem mH(c:Int)(l:List Int):fp (c::l)=enc c++fp l:=rfl
theorem a4o(a b:List Int):fp (a++b)=fp a++fp b:=by simp[fp]
theorem oN(c:Int):1<=(enc c).length/\(enc c).length<=4:=by
 by_cases U:c<0\/0x10ffff<c\/(0xd800<=c/\c<=0xdfff)
 ·rw[Uy U];simp
 by_cases Y:c<0x80
 ·rw[ID M0 Y];simp
 by_cases I:c<0x800
 ·rw[IE M0 I];simp
 by_cases a:c<0x10000
 ·rw[yn M0 a M0];simp
 rw[D6 M0 M0];simp
theorem Lu(l:List Int):(fp l).length<=4*l.length:=by
 induction l with
 |nil=>simp[fp]
 |cons c r ih=>rw[mH,ae,cz];have:=oN c;omega
theorem lR:∀(n:Nat) (l:O),l.length<=n->(signs l).length<=l.length
 |_,[],_=>by simp[y9]
 |0,x::r,h=>by simp at h
 |n+1,x::r,h=>by
  have hn:=mK x r;rw[cz]at h;have hd:((x::r).drop (d9 (x::r))).length<=r.length:=by rw[aj,cz];omega
  have:=lR n ((x::r).drop (d9 (x::r))) M0;rw[p9,cz,cz];omega
def a5h(l:O):O:=fp (signs l)

def gI:O->Nat->Nat->Int->Int->Nat
 |_,0,k,_,_=>k
 | [],_+1,k,_,_=>k
 |x::r,m+1,k,lo,hi=>if lo<=G x/\G x<=hi then gI r m (k+1) 0x80 0xbf else k
def ml:O->Nat
 | []=>0
 |x::r=>gI r ((cG (G x)).2.2.toNat-1) 1 (cG (G x)).1 (cG (G x)).2.1
theorem zO(c:Int):(1<=(cG c).2.2/\(cG c).2.2<=4)/\0<=(cG c).1/\(cG c).1<256/\0<=(cG c).2.1/\(cG c).2.1<256:=by
 unfold cG
 repeat (first|split|(refine⟨⟨?_,?_⟩,?_,?_,?_,?_⟩ <;>simp))
theorem BK:∀(r:O) (m k:Nat) (lo hi:Int),k<=gI r m k lo hi/\gI r m k lo hi<=k+r.length
 |_,0,k,_,_=>by simp[gI]
 | [],_+1,k,_,_=>by simp[gI]
 |x::r,m+1,k,lo,hi=>by
  unfold gI
  split
  ·have:=BK r m (k+1) 0x80 0xbf
   simp only[cz];omega
  simp
theorem um(x:UInt8)(r:O):1<=ml (x::r)/\ml (x::r)<=r.length+1:=by
 have:=BK r ((cG (G x)).2.2.toNat-1) 1 (cG (G x)).1 (cG (G x)).2.1;simp only[ml];omega
theorem Ks{l:O}{k m:Nat}{lo hi:Int}(h:l.length<=k):gI (l.drop k) (m+1) k lo hi=k:=by
 rw[bE h];rfl
theorem xY{l:O}{k m:Nat}{lo hi:Int}(h:k<l.length)(U:¬(lo<=G l[k]/\G l[k]<=hi)):gI (l.drop k) (m+1) k lo hi=k:=by
 rw[aC h];simp only[gI];rw[gc U]
theorem N0{l:O}{k m:Nat}{lo hi:Int}(h:k<l.length)(U:lo<=G l[k]/\G l[k]<=hi):gI (l.drop k) (m+1) k lo hi=gI (l.drop (k+1)) m (k+1) 0x80 0xbf:=by
 rw[aC h];simp only[gI];rw[ge U]
theorem xC(l:O)(cap b o:Nat)(w:H)(hm:l.length<=maxLen)(C:0<l.length)(h:At w b o (Lib.byteCells l)) :
  pa prog 101 #[.slice (some ⟨b,o,none⟩) l.length cap] w (.int .i64 (ml l)):=by
 unfold maxLen at hm
 have v:∀k (K:k<l.length),w.cell? ⟨b,o+k,none⟩=some (.int .u8 (G l[k])):=λk K=>by
  have:=h k (by simpa[Lib.byteCells]using K)
  simpa[Lib.byteCells,G]using this
 have s:=v 0 C;simp only[dH]at s
 have p:ml l=gI (l.drop 1) ((cG (G l[0])).2.2.toNat-1) 1 (cG (G l[0])).1 (cG (G l[0])).2.1:=by
  cases l with
  |nil=>simp at C
  |cons x r=>rfl
 obtain⟨⟨hs1,j⟩,f,g,d,u⟩:=zO (G l[0]);have cb:=λw=>E5 (G l[0]) w;obtain⟨lo,hi,N,P⟩:∃lo hi N,cG (G l[0])=(lo,hi,N):=⟨_,_,_,rfl⟩;rw[P]at p hs1 j f g d u cb;simp only at p hs1 j f g d u cb;clear P;obtain⟨n,rfl⟩:=Int.eq_ofNat_of_zero_le (show 0<=N by omega);simp only[eV]at p hs1 j cb;have b4T:1<=n:=M0;have b4U:n<=4:=M0;generalize G l[0]=x0 at s cb;obtain⟨L,T⟩:=ey (l.length);rw[<-T.o]at hm C⊢;obtain⟨r,R⟩:=V (ml l);rw[<-R]at p⊢;have HR:=F p;clear p R;have W:=F v;clear v h;have B:=F cb;clear cb;go_enter func101,ntmps101
 go_wp2_with(go_at_call 150;refine(B.o _).e ?_)
 go_loop [3,4,6] (λM J i=>∃(k:Nat) (a Y:Int),1<=k/\k<=n/\k<=L/\i=.int .i64 k/\M=.int .u8 a/\J=.int .u8 Y/\(0<=a/\a<256)/\(0<=Y/\Y<256)/\gI (l.drop k) (n-k) k a Y=r) (λ_ _ i=>n-(intOf i).toNat)
 exact⟨1,lo,hi,M0,M0,M0,rfl,rfl,rfl,⟨f,g⟩,⟨d,u⟩,HR.o.symm⟩
 obtain⟨k,a,Y,hk1,K,hkL,rfl,rfl,rfl,⟨f,g⟩,⟨d,u⟩,Q⟩:=hrel;have q:=F Q;clear Q;by_cases hkn:k<n
 ·by_cases hkl:k<L
  ·have X:k<l.length:=by have:=T.o;omega
   have hcell:=W.o k X;obtain⟨y,hy⟩:=V (G l[k]);rw[<-hy]at hcell;obtain⟨hy1,hy2⟩:0<=y/\y<256:=by rw[hy];exact jL _
   have z:=F hy;clear hy;by_cases hb1:y<a
   ·have hfin:=xY (m:=n-k-1) (lo:=a) (hi:=Y) X (by rw[<-z.o];omega)
    rw[show n-k-1+1=n-k by omega,q.o]at hfin;have c:=F hfin;clear hfin
    go_wp2
    go_ret;exact⟨iD (by rw[c.o]),rfl⟩
   by_cases hb2':Y<y
   ·have hfin:=xY (m:=n-k-1) (lo:=a) (hi:=Y) X (by rw[<-z.o];omega)
    rw[show n-k-1+1=n-k by omega,q.o]at hfin;have c:=F hfin;clear hfin
    go_wp2
    go_ret;exact⟨iD (by rw[c.o]),rfl⟩
   have hfin:=N0 (m:=n-k-1) (lo:=a) (hi:=Y) X (by rw[<-z.o];omega);rw[show n-k-1+1=n-k by omega,q.o,show n-k-1=n-(k+1) by omega]at hfin;have c:=F hfin;clear hfin
   go_wp2
   go_round
   exact⟨k+1,_,_,M0,M0,M0,by go_num,rfl,rfl,M0,M0,c.o.symm⟩
   exact aa
  have hfin:=Ks (l:=l) (k:=k) (m:=n-k-1) (lo:=a) (hi:=Y) (by have:=T.o;omega);rw[show n-k-1+1=n-k by omega,q.o]at hfin;have c:=F hfin;clear hfin
  go_wp2
  go_ret;exact⟨iD (by rw[c.o]),rfl⟩
 obtain rfl:k=n:=M0
 have hfin:r=k:=by
  have:=q.o;rw[<-this];simp[gI]
 have c:=F hfin;clear hfin
 go_wp2
 go_ret;exact⟨iD (by rw[c.o]),rfl⟩
theorem zI{a:ByteArray}{b:O}(h:a=E b):Ending.returned (.string a)=.returned (S b):=by rw[h]
theorem join_one(c:Int):fp [c]=enc c:=by simp[fp]
theorem mI:fp [0x69,0x307]=[105,204,135]:=by decide +kernel
theorem ix:fp [0x2e]=[46]:=by decide +kernel
theorem jY:fp [0x61,0x2f,0x63]=[97,47,99]:=by decide +kernel
theorem jZ:fp [0x63,0x2f,0x6f]=[99,47,111]:=by decide +kernel
theorem LS(c:Int)(w:H):pa prog 253 #[.int .i64 c] w (S (fp (oE c))):=by
 rcases DU c with⟨h|h|h|h|h|h,e⟩|⟨h,I,e⟩|⟨h,I,e⟩|⟨rfl,e⟩|⟨h,e⟩|⟨rfl|rfl|rfl,e⟩|⟨rfl,e⟩|⟨rfl,e⟩|⟨h,e⟩|⟨h,e⟩|⟨h|h,e⟩|⟨h,e⟩|⟨h,e⟩
 iterate 6
  ·rw[e]
   clear e;have d:(c==304)=false:=by simp;omega
   have f:(c==8228)=false:=by simp;omega
   have g:(c==12290)=false:=by simp;omega
   have i:(c==65377)=false:=by simp;omega
   have j:(c==8448)=false:=by simp;omega
   have k:(c==8453)=false:=by simp;omega
   go_enter func253,ntmps253
   go_wp2_with(first|(go_at_call 263;first|(refine(gu _ _ _ _ M0).e ?_)|(refine(gq _ _ _ _ M0).e ?_))|(go_at_call 57;refine(fK _ _).e ?_))
   go_ret;exact⟨zI (by first|rfl|rw[join_one]|(rw[mI];rfl)|(rw[ix];rfl)|(rw[jY];rfl)|(rw[jZ];rfl)|(rw[join_one];congr 2;omega)),rfl⟩
 ·rw[e]
  clear e;have d:(c==304)=false:=by simp;omega
  have f:(c==8228)=false:=by simp;omega
  have g:(c==12290)=false:=by simp;omega
  have i:(c==65377)=false:=by simp;omega
  have j:(c==8448)=false:=by simp;omega
  have k:(c==8453)=false:=by simp;omega
  have l:Int.tmod c 2=0:=by rw[ei M0];exact I
  go_enter func253,ntmps253
  go_wp2_with(first|(go_at_call 263;first|(refine(gu _ _ _ _ M0).e ?_)|(refine(gq _ _ _ _ M0).e ?_))|(go_at_call 57;refine(fK _ _).e ?_))
  go_ret;exact⟨zI (by first|rfl|rw[join_one]|(rw[mI];rfl)|(rw[ix];rfl)|(rw[jY];rfl)|(rw[jZ];rfl)|(rw[join_one];congr 2;omega)),rfl⟩
 ·rw[e]
  clear e;have d:(c==304)=false:=by simp;omega
  have f:(c==8228)=false:=by simp;omega
  have g:(c==12290)=false:=by simp;omega
  have i:(c==65377)=false:=by simp;omega
  have j:(c==8448)=false:=by simp;omega
  have k:(c==8453)=false:=by simp;omega
  have l:Int.tmod c 2=1:=by rw[ei M0];exact I
  go_enter func253,ntmps253
  go_wp2_with(first|(go_at_call 263;first|(refine(gu _ _ _ _ M0).e ?_)|(refine(gq _ _ _ _ M0).e ?_))|(go_at_call 57;refine(fK _ _).e ?_))
  go_ret;exact⟨zI (by first|rfl|rw[join_one]|(rw[mI];rfl)|(rw[ix];rfl)|(rw[jY];rfl)|(rw[jZ];rfl)|(rw[join_one];congr 2;omega)),rfl⟩
 ·rw[e]
  clear e;go_enter func253,ntmps253
  go_wp2_with(first|(go_at_call 263;first|(refine(gu _ _ _ _ M0).e ?_)|(refine(gq _ _ _ _ M0).e ?_))|(go_at_call 57;refine(fK _ _).e ?_))
  go_ret;exact⟨zI (by first|rfl|rw[join_one]|(rw[mI];rfl)|(rw[ix];rfl)|(rw[jY];rfl)|(rw[jZ];rfl)|(rw[join_one];congr 2;omega)),rfl⟩
 ·rw[e]
  clear e;have d:(c==304)=false:=by simp;omega
  have f:(c==8228)=false:=by simp;omega
  have g:(c==12290)=false:=by simp;omega
  have i:(c==65377)=false:=by simp;omega
  have j:(c==8448)=false:=by simp;omega
  have k:(c==8453)=false:=by simp;omega
  go_enter func253,ntmps253
  go_wp2_with(first|(go_at_call 263;first|(refine(gu _ _ _ _ M0).e ?_)|(refine(gq _ _ _ _ M0).e ?_))|(go_at_call 57;refine(fK _ _).e ?_))
  go_ret;exact⟨zI (by first|rfl|rw[join_one]|(rw[mI];rfl)|(rw[ix];rfl)|(rw[jY];rfl)|(rw[jZ];rfl)|(rw[join_one];congr 2;omega)),rfl⟩
 iterate 5
  ·rw[e]
   clear e;go_enter func253,ntmps253
   go_wp2_with(first|(go_at_call 263;first|(refine(gu _ _ _ _ M0).e ?_)|(refine(gq _ _ _ _ M0).e ?_))|(go_at_call 57;refine(fK _ _).e ?_))
   go_ret;exact⟨zI (by first|rfl|rw[join_one]|(rw[mI];rfl)|(rw[ix];rfl)|(rw[jY];rfl)|(rw[jZ];rfl)|(rw[join_one];congr 2;omega)),rfl⟩
 iterate 4
  ·rw[e]
   clear e;have d:(c==304)=false:=by simp;omega
   have f:(c==8228)=false:=by simp;omega
   have g:(c==12290)=false:=by simp;omega
   have i:(c==65377)=false:=by simp;omega
   have j:(c==8448)=false:=by simp;omega
   have k:(c==8453)=false:=by simp;omega
   go_enter func253,ntmps253
   go_wp2_with(first|(go_at_call 263;first|(refine(gu _ _ _ _ M0).e ?_)|(refine(gq _ _ _ _ M0).e ?_))|(go_at_call 57;refine(fK _ _).e ?_))
   go_ret;exact⟨zI (by first|rfl|rw[join_one]|(rw[mI];rfl)|(rw[ix];rfl)|(rw[jY];rfl)|(rw[jZ];rfl)|(rw[join_one];congr 2;omega)),rfl⟩
 ·rw[e]
  clear e;have d:(c==304)=false:=by simp;omega
  have f:(c==8228)=false:=by simp;omega
  have g:(c==12290)=false:=by simp;omega
  have i:(c==65377)=false:=by simp;omega
  have j:(c==8448)=false:=by simp;omega
  have k:(c==8453)=false:=by simp;omega
  have l:Int.tmod (c-120782) 10=(c-120782)%10:=ei M0;have tm2:0<=(c-120782)%10/\(c-120782)%10<10:=M0;go_enter func253,ntmps253
  go_wp2_with(first|(go_at_call 263;first|(refine(gu _ _ _ _ M0).e ?_)|(refine(gq _ _ _ _ M0).e ?_))|(go_at_call 57;refine(fK _ _).e ?_))
  go_ret;exact⟨zI (by first|rfl|rw[join_one]|(rw[mI];rfl)|(rw[ix];rfl)|(rw[jY];rfl)|(rw[jZ];rfl)|(rw[join_one];congr 2;omega)),rfl⟩
 rw[e];clear e;have d:(c==304)=false:=by simp;omega
 have f:(c==8228)=false:=by simp;omega
 have g:(c==12290)=false:=by simp;omega
 have i:(c==65377)=false:=by simp;omega
 have j:(c==8448)=false:=by simp;omega
 have k:(c==8453)=false:=by simp;omega
 go_enter func253,ntmps253
 go_wp2_with(first|(go_at_call 263;first|(refine(gu _ _ _ _ M0).e ?_)|(refine(gq _ _ _ _ M0).e ?_))|(go_at_call 57;refine(fK _ _).e ?_))
 go_ret;exact⟨zI (by first|rfl|rw[join_one]|(rw[mI];rfl)|(rw[ix];rfl)|(rw[jY];rfl)|(rw[jZ];rfl)|(rw[join_one];congr 2;omega)),rfl⟩
