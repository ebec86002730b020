/- tamislaw23.Few, walked. -/
import Derived.Test.YthfkicfjlljjiaaGreatDoorGPolA
set_option maxHeartbeats 40000000
namespace Go.Proofs.YthfkicfjlljjiaaGreatDoor
open Tryz
open Go.RowKit
set_option maxRecDepth 10000
def Tk(l:List O):Prop:=l.length<=20/\∀ x∈l,List.length x<=200
def GE(p:qh):Nat->List O
 |0=>p.schemes
 |1=>p.hosts
 |_=>p.types
theorem KV(p:qh)(sv hv tv:Z)(w:H)(h:BB w sv hv tv p):Calls prog 6 #[.agg (aY sv hv tv p.most)] w λe w'=>zH (EL p) e/\r7 w w':=by
 obtain⟨r,z,e1⟩:=cQ h.s;obtain⟨u,B,e2⟩:=cQ h.h;obtain⟨y,y3,e3⟩:=cQ h.t;rw[ay]at e1 e2 e3;obtain⟨m,M⟩:=V (p.schemes.length);obtain⟨q,N⟩:=V (p.hosts.length);obtain⟨n3,CO⟩:=V (p.types.length);rw[<-M]at e1;rw[<-N]at e2;rw[<-CO]at e3;subst e1 e2 e3;clear M N CO;obtain⟨G',hG⟩:∃ G':Prop,G'=EL p:=⟨_,rfl⟩;rw[<-hG];have HG:=F (show(∀j,j<3->Tk (GE p j))->G' from λf=>by rw[hG];exact⟨f 0 M0,f 1 M0,f 2 M0⟩);obtain⟨W,hw,hsz,c1,R,G⟩:=qd w 24 22 (aY (.slice r m z) (.slice u q B) (.slice y n3 y3) p.most) #[(.slice r m z),(.slice u q B),(.slice y n3 y3)]
 have HT:=F (show ∀k,k<3->∃ a n c,W.cell? ⟨w.heap.size+1,k,none⟩=some (.slice a n c)/\n=(GE p k).length/\Sl W.heap.size W (.slice a n c) ((GE p k).map S)from λk hk=>by
  have key:∀ (v:Z) (l:List O),Sl w.heap.size w v (l.map S)->∃ a n c,v=.slice a n c/\n=l.length/\Sl W.heap.size W (.slice a n c) (l.map S):=λv l D=>by
   obtain⟨a,c,e⟩:=cQ D;rw[ay]at e;exact⟨a,l.length,c,e,rfl,by rw[<-e];exact(D.below G).more G.size⟩
  match k,hk with
  |0,_=>obtain⟨a,n,c,e,Y,I⟩:=key (.slice r m z) _ h.s;exact⟨a,n,c,by rw[R.cell,<-e];rfl,Y,I⟩
  |1,_=>obtain⟨a,n,c,e,Y,I⟩:=key (.slice u q B) _ h.h;exact⟨a,n,c,by rw[R.cell,<-e];rfl,Y,I⟩
  |2,_=>obtain⟨a,n,c,e,Y,I⟩:=key (.slice y n3 y3) _ h.t;exact⟨a,n,c,by rw[R.cell,<-e];rfl,Y,I⟩)
 have X:=CB.new w 24 (aY (.slice r m z) (.slice u q B) (.slice y n3 y3) p.most);obtain⟨w1,d⟩:=V (w.alloc (.cells (aY (.slice r m z) (.slice u q B) (.slice y n3 y3) p.most) 24));have hz1:w1.heap.size=w.heap.size+1:=by rw[d];simp
 rw[<-d]at X hw;have Q:=F X;have L:=F d;have HW:=F hw;have P:=F G;have HSW:=F (show w.heap.size+1<W.heap.size by omega);clear hG hw hsz c1 R G h d X;go_enter func6,ntmps6
 go_upto_region 1 with fail
 rw[<-L.o]
 go_upto_region 3 with(first|((with_reducible apply bS);first|refine gwr r5 (.tmp 6) rfl w.heap.size 0 24 (aY (.slice r m z) (.slice u q B) (.slice y n3 y3) p.most) Q.o (.slice r m z) rfl rfl ?_|refine gwr r5 (.tmp 8) rfl w.heap.size 1 24 (aY (.slice r m z) (.slice u q B) (.slice y n3 y3) p.most) Q.o (.slice u q B) rfl rfl ?_|refine gwr r5 (.tmp 10) rfl w.heap.size 2 24 (aY (.slice r m z) (.slice u q B) (.slice y n3 y3) p.most) Q.o (.slice y n3 y3) rfl rfl ?_))
 rw[HW.o];obtain⟨g,hg⟩:=V (w.heap.size+1);rw[<-hg]at HT HSW ⊢;clear hg hz1 HW L Q
 go_loopw [4,5] (λkv _ wr=>∃ k:Nat,k<=3/\kv=.int .i64 k/\Hid (∀j,j<k->Tk (GE p j))/\W=wr) (λkv _ _=>3-(intOf kv).toNat)
 exact⟨0,M0,Oc,λj C=>M0,rfl⟩
 obtain⟨k,hk,rfl,hd,rfl⟩:=hrel;by_cases hlt:k<3
 ·obtain⟨av,n,c,hc,hn,J⟩:=HT.o k hlt
  have K:=F J;have T:=F hn
  have HD:=F (show Tk (GE p k)->∀ j,j<k+1->Tk (GE p j)from λf j C=>by
   by_cases e:j=k
   ·subst e;exact f
   exact hd.o j M0)
  have hn9:n<=9223372036854775807:=by
   obtain⟨c',Y,I,_⟩:=J;rw[ay]at Y;unfold maxLen at I;omega
  clear J hn hd;generalize GE p k=l at K T HD
  go_upto_region 6 with fail
  go_loopw [5] (λiv wr=>∃ i:Nat,i<=n/\i<=30/\iv=.int .i64 i/\Hid (∀j (C:j<l.length),j<i->l[j].length<=200)/\W=wr) (λiv _=>30-(intOf iv).toNat)
  exact⟨0,M0,M0,Oc,λj C h=>M0,rfl⟩
  obtain⟨i,hi,b4A,rfl,D,rfl⟩:=hrel;by_cases hin:i<n/\i<30
  ·have hil:i<l.length:=by rw[<-T.o];exact hin.1
   obtain⟨b,o,rfl,hbb,hcc⟩:=gO K.o i hil;have t1:(i:Int)<n:=M0;have t2:(i:Int)<30:=M0
   have HS:=F (show l[i].length<=200->∀ j (C:j<l.length),j<i+1->l[j].length<=200 from λf j C hji=>by
    by_cases e:j=i
    ·subst e;exact f
    exact D.o j C M0)
   generalize l[i]=x at hcc HS;clear D;by_cases h5:(200:Int)<x.length
   ·go_wp2_with fail
    go_ret;exact⟨zH.ff,P.o⟩
   have HS2:=F<|HS.o M0;go_wp2_with fail;go_roundw
   exact⟨i+1,M0,M0,by go_num,HS2.o,by trivial⟩
   simp[intOf];omega
  by_cases h20:(20:Int)<n
  ·by_cases t1:(i:Int)<n
   ·have t2:¬ (i:Int)<30:=by omega
    go_wp2_with fail;go_ret;exact⟨zH.ff,P.o⟩
   go_wp2_with fail;go_ret;exact⟨zH.ff,P.o⟩
  have t1:¬ (i:Int)<n:=M0
  have HF:=F<|HD.o ⟨by rw[<-T.o];omega,λx X=>by
   obtain⟨j,C,rfl⟩:=cC X;exact D.o j C (by have:=T.o;omega)⟩
  clear D;go_wp2_with fail;go_roundw
  exact⟨k+1,M0,by go_num,HF.o,by trivial⟩
  simp[intOf];omega
 obtain rfl:k=3:=M0;go_wp2_with fail;go_ret;exact⟨zH.of λ_=>HG.o hd.o,P.o⟩
