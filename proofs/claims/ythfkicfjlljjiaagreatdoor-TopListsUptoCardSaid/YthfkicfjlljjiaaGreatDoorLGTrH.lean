/- Joined texts. -/
import Derived.Lib.OthersKept
import Derived.Test.YthfkicfjlljjiaaGreatDoorLGTextH
import Derived.Great.Ranges
import Derived.Deep.MidRow
import Derived.ProofKit
import Derived.OpenShut
import Derived.ShutString
import Derived.ChangeOld
import Derived.Below
import Derived.ChangeArms
set_option maxHeartbeats 40000000
namespace Go.Proofs.YthfkicfjlljjiaaGreatDoor
open Tryz
open Go.RowKit
set_option maxRecDepth 10000
def sF:Nat->O->List Int
 |0,_=>[]
 |_,[]=>[]
 |f+1,x::r=>((dr (x::r)).1:Int)::sF f ((x::r).drop (dr (x::r)).2)
def runes(l:O):List Int:=sF l.length l
theorem oA(f:Nat)(x:UInt8)(r:O):sF (f+1) (x::r)=((dr (x::r)).1:Int)::sF f ((x::r).drop (dr (x::r)).2):=rfl
theorem tI:∀ (f g:Nat) (l:O),l.length<=f->l.length<=g->sF f l=sF g l
 |0,g,l,h,_=>by
  obtain rfl:l=[]:=az M0;cases g <;>rfl
 |f+1,0,l,_,h=>by
  obtain rfl:l=[]:=az M0;rfl
 |f+1,g+1,[],_,_=>rfl
 |f+1,g+1,x::r,h,a=>by
  have hn:=nV x r;rw[cz]at h a;have hd:((x::r).drop (dr (x::r)).2).length<=r.length:=by rw[aj,cz];omega
  rw[oA,oA,tI f g _ M0 M0]
theorem Mn:runes []=[]:=rfl
theorem wF(x:UInt8)(r:O):runes (x::r)=((dr (x::r)).1:Int)::runes ((x::r).drop (dr (x::r)).2):=by
 have hn:=nV x r;have hd:((x::r).drop (dr (x::r)).2).length<=r.length:=by rw[aj,cz];omega
 unfold runes;rw[cz,oA,tI r.length _ _ hd (ag _)]
theorem A9(l:O)(p:Nat):Utf8.decode (E l) p=dr (l.drop p):=by
 rw[Lib.decode_at,td,aF,aj];simp only[Ab,fz,dH]
theorem GU(s:ByteArray)(w:H)(hs:s.size<=307200000)(hT:uL w) :
  Calls prog 251 #[.string s] w λe w'=>ga w 3 (d8 (runes (kz (ls s)))) e w':=by
 obtain⟨i0,hi0,hz0,hz1,hz2⟩:=info_parts CU;have kb:=run_bytes_of_string (P:=prog) w 9 46 5 s underlying9 underlying46 underlying5;obtain⟨d,j⟩:=V (grownCap w s.size 0 5);have hcp1:s.size<=d:=by rw[j];exact grownCap_ge _ _ _ _
 have hcp2:d<=maxLen:=by rw[j];exact grownCap_le_maxLen _ _ _ _ (by unfold maxLen;omega)
 rw[<-j]at kb;clear j;obtain⟨B,n,t⟩:=Kw w s d 5 ((bytesRow s d).size,(bytesRow s d).size+1)
 have q:Sl (w.heap.size+1) (w.alloc (.cells (bytesRow s d) 5 ((bytesRow s d).size,(bytesRow s d).size+1))).drew (.slice (some ⟨w.heap.size,0,none⟩) s.size d) (Lib.byteCells (ls s)) :=
  ⟨d,by rw[Lib.byteCells_length,nD];exact hcp1,hcp2,.inr ⟨_,0,M0,by rw[Lib.byteCells_length,nD],B⟩⟩
 rw[<-t]at q;have hd:=a08 (ls s) _ _ q (by rw[nD];omega) (hT.below n);have J:=nT _ (ls s) (ag _);rw[nD]at J;obtain⟨D,z⟩:=V (kz (ls s));rw[<-z]at hd J ⊢;clear z;obtain⟨T,Tb⟩:=V (runes D);rw[<-Tb];have TL:=F Tb;clear Tb;have HD:=F hd;clear hd;have HB:=F n;clear n;have HZ:=F t;clear t q B hT;go_enter func251,ntmps251
 go_wp2_with (go_at_call 120;refine(HD.o).m ?_;rintro e w1 ⟨rfl,g⟩;have N:=F g;clear g)
 have a35:r7 w w1:=(HB.o).trans ((N.o).m (by have:=HZ.o;omega));have y:=F a35;clear a35;have DL:(E D).size=D.length:=aF D;have WT:=F DL;clear DL
 go_loopw [3] (λout wr=>∃ (p:Nat) (acc:List Int),p<=D.length/\wr.heap[w1.heap.size]? = some (.stringIter (E D) p)/\wr.ownsRow (w1.heap.size+1) 3 1 out acc.length (d8 acc) /\
   acc++runes (D.drop p)=T/\acc.length<=p/\w1.heap.size<wr.heap.size/\r7 w1 wr) (λ_ wr=>D.length-wr.iterPos w1.heap.size)
 exact⟨0,[],M0,World.iter_heap _ _ _,⟨Oc,.inl ⟨rfl,rfl⟩⟩,by simpa using TL.o.symm,Oc,by simp[World.iter],(Below.refl _ _).alloc (ag _) _⟩
 obtain⟨p,acc,hp,hit,hown,hacc,hal,hwz,hbel⟩:=hrel;have M:=F hit;clear hit;have HO:=F hown;clear hown;have HC:=F hacc;clear hacc;have lZ:=F hbel;clear hbel;by_cases K:p<D.length
 ·have c:∀ ty,(Instr.next (.pointer (some ⟨w1.heap.size,0,none⟩)) true ty).run prog wr=_:=λty=>Lib.run_next_any_at wr w1.heap.size (E D) p ty M.o (by rw[WT.o];exact K)
  have C:=A9 D p
  obtain⟨x,r,X⟩:∃ x r,D.drop p=x::r:=by
   cases h:D.drop p with
   |nil=>have:=congrArg List.length h;simp at this;omega
   |cons x r=>exact⟨x,r,rfl⟩
  have hn:=nV x r;have L:=Fs (x::r);have hlen:r.length+1=D.length-p:=by have:=congrArg List.length X;simp at this;omega
  have i:=HC.o;rw[X,wF]at i;rw[C,X]at c;have hdrop:(x::r).drop (dr (x::r)).2=D.drop (p+(dr (x::r)).2):=by rw[<-X,qg]
  rw[hdrop]at i;obtain⟨rn,f,z⟩:∃ rn f,dr (x::r)=(rn,f):=⟨_,_,rfl⟩;rw[z]at c hn L i;simp only at c hn L i;clear z hdrop C;have Ei:=F i;clear i X;obtain⟨hn1,hn2⟩:=hn;have CO:p+f<=D.length:=M0;clear hn2 hlen;have W:=Lib.iterAt_heap wr w1.heap.size (E D) p (p+f) M.o;have ZE:=Lib.iterAt_size wr w1.heap.size (E D) (p+f);have l:=ownsRow_iterAt HO.o (k:=w1.heap.size) (bV _) (E D) (p+f);have R:=Lib.below_iterAt (lZ.o) (k:=w1.heap.size) (ag _) (E D) (p+f);obtain⟨wi,u⟩:=V (wr.iterAt w1.heap.size (E D) (p+f));rw[<-u]at W ZE l R c;have hpos:wr.iterPos w1.heap.size=p:=iterPos_of M.o;have HWI:=F u;clear u;have Br:=F W;clear W;have Q:=F ZE;clear ZE;have Kc:=F l;clear l;have xt:=F R;clear R;have Ke:=F hpos;clear hpos;have hbase:w1.heap.size+1<=wi.heap.size:=by have:=Q.o;omega
  go_wp2_with (at_builtin;go_must (refine et rfl (.tmp 13) (.tmp 16) _ rfl (w1.heap.size+1) 3 i0 _ 8 underlying25 hi0 hz0 hz1 hz2 rfl _ _ acc.length (d8 acc) rfl Kc.o (.int .i64 rn) rfl rfl M0 M0 hbase ?_);intro v2 w2 hown2 hw2 a;have eJ:=F hown2;clear hown2;have v:=F a;clear a)
  go_roundw
  case rel =>
   have a:=v.o;refine⟨p+f,acc++[(rn:Int)],CO,(a.block _ M0).trans Br.o,?_,?_,?_,M0,(xt.o).trans (a.m M0)⟩
   ·have:=eJ.o
    rw[ae,dq]
    simpa[d8]using this
   ·rw[bB];exact Ei.o
   rw[ae,dq];omega
  case measure =>
   have e2:w2.iterPos w1.heap.size=p+f:=iterPos_of (((v.o).block _ M0).trans Br.o);rw[e2,Ke.o];omega
 have c:∀ ty,(Instr.next (.pointer (some ⟨w1.heap.size,0,none⟩)) true ty).run prog wr=_:=λty=>Lib.run_next_end_at wr w1.heap.size (E D) p ty M.o (by rw[WT.o];exact K)
 go_wp2
 go_ret;have ho:=HO.o;have i:=HC.o;rw[bE M0,Mn,aV]at i;rw[i]at ho;have g:=(y.o).size;exact ga.mk ho M0 ((y.o).trans ((lZ.o).m g))
end Go.Proofs.YthfkicfjlljjiaaGreatDoor
set_option maxHeartbeats 40000000
namespace Go.Proofs.YthfkicfjlljjiaaGreatDoor
open Tryz
open Go.RowKit
set_option maxRecDepth 10000
structure gF where
 kind:Int
 name:O
 four:Int
 six:List Int
structure Url where
 aJ:O
 usr:O
 ib:O
 host:gF
 bz:Bool
 port:Int
 opq:Bool
 flat:O
 path:List O
 bZ:Bool
 q:O
 cg:Bool
 f:O
def aS(h:gF):List Z:=.int .i64 h.kind::S h.name::.int .u32 h.four::h.six.map (Value.int .u16)
def cu(A:Z)(u:Url):List Z :=
 [S u.aJ,S u.usr,S u.ib]++aS u.host++[.bool u.bz,.int .i64 u.port,.bool u.opq,S u.flat,A,.bool u.bZ,S u.q,.bool u.cg,S u.f]
structure sV (h:gF):Prop where
 k:-9223372036854775808<=h.kind/\h.kind<=9223372036854775807
 f:0<=h.four/\h.four<4294967296
 l:h.six.length=8
 s:∀ n∈h.six,0<=n/\n<65536
structure gG (u:Url):Prop where
 h:sV u.host
 p:-9223372036854775808<=u.port/\u.port<=9223372036854775807
structure By (cs:Array Z) (h:gF):Prop where
 sz:cs.size=11
 kind:cs[0]? = some (.int .i64 h.kind)
 name:cs[1]? = some (S h.name)
 four:cs[2]? = some (.int .u32 h.four)
 six:∀ k (hk:k<h.six.length),cs[3+k]? = some (.int .u16 h.six[k])
 ok:sV h
structure sY (cs:Array Z) (A:Z) (u:Url):Prop where
 sz:cs.size=23
 aJ:cs[0]? = some (S u.aJ)
 usr:cs[1]? = some (S u.usr)
 ib:cs[2]? = some (S u.ib)
 kind:cs[3]? = some (.int .i64 u.host.kind)
 XM:∀ k,k<11->cs[3+k]? = (aS u.host)[k]?
 bz:cs[14]? = some (.bool u.bz)
 port:cs[15]? = some (.int .i64 u.port)
 opq:cs[16]? = some (.bool u.opq)
 flat:cs[17]? = some (S u.flat)
 path:cs[18]? = some A
 bZ:cs[19]? = some (.bool u.bZ)
 q:cs[20]? = some (S u.q)
 cg:cs[21]? = some (.bool u.cg)
 f:cs[22]? = some (S u.f)
 ok:gG u
theorem eight{α:Type}{l:List α}(h:l.length=8):∃ a b c d e f g i,l=[a,b,c,d,e,f,g,i]:=by
 match l,h with
 | [a,b,c,d,e,f,g,i],_=>exact⟨a,b,c,d,e,f,g,i,rfl⟩
theorem CS{h:gF}(ok:sV h):By (aS h).toArray h:=by
 obtain⟨a,b,c,d,e,f,g,i,hl⟩:=eight ok.l;refine⟨?_,rfl,rfl,rfl,?_,ok⟩
 ·simp[aS,ok.l]
 intro k j;have h8:k<8:=by rw[ok.l]at j;exact j
 simp only[aS,cf];rw[show 3+k=k+1+1+1 by omega];simp[j]
theorem lV{u:Url}(A:Z)(ok:gG u):sY (cu A u).toArray A u:=by
 obtain⟨aJ,usr,ib,⟨j,hn,hf,six⟩,a1,a2,a3,a4,a5,a6,a7,a8,a9⟩:=u;have m:=ok.h.l;simp only at m;obtain⟨a,b,c,d,e,f,g,i,rfl⟩:=eight m;refine⟨rfl,rfl,rfl,rfl,rfl,?_,rfl,rfl,rfl,rfl,rfl,rfl,rfl,rfl,rfl,ok⟩;intro k j
 match k,j with
 |0,_=>rfl
 |1,_=>rfl
 |2,_=>rfl
 |3,_=>rfl
 |4,_=>rfl
 |5,_=>rfl
 |6,_=>rfl
 |7,_=>rfl
 |8,_=>rfl
 |9,_=>rfl
 |10,_=>rfl
theorem jb:(prog.info? 32).map (·.size)=some 11:=Rz
end Go.Proofs.YthfkicfjlljjiaaGreatDoor
set_option maxHeartbeats 40000000
namespace Go.Proofs.YthfkicfjlljjiaaGreatDoor
open Tryz
open Go.ChangeShapes Go.WideShapes Go.ChangeAt Go.RowKit
open Go.ChangeMaps (open_string shut_string)
def xQ(k:IntKind)(w:H)(a:Option Addr)(len cap:Nat)(zs:List Int):Prop :=
 (a=none/\len=0/\cap=0/\zs=[]) \/
 ∃x,a=some x/\len<=cap/\cap<=maxLen/\zs.length=cap/\(∀i,i<zs.length->w.cell? (x.add i)=some (.int k (zs.getD i 0)))/\∀ n∈zs,(Lit.int k n).wf=true
end Go.Proofs.YthfkicfjlljjiaaGreatDoor
set_option maxHeartbeats 40000000
namespace Go.Proofs.YthfkicfjlljjiaaGreatDoor
open Tryz
open Go.RowKit
set_option maxRecDepth 10000
section
variable {H':Type} {enc:TypeId×Z->H'} {w:H}
def Tr(enc:TypeId×Z->H')(w:H)(t:TypeId)(cs:List Z):Prop:=∃ fuel x,DataW.trod enc prog w 0 (λ_=>true) true fuel t cs=some x
theorem MB{t:TypeId}{cs:List Z}(a:prog.underlying t=some .string)(h:Tr enc w t cs):∃ l:O,cs=[S l]:=by
 obtain⟨fuel,x,h⟩:=h;obtain⟨s,rfl,_,_⟩:=DataW.trod_string a h;exact⟨ls s,by rw[S,kt]⟩
theorem a01{t:TypeId}{k:IntKind}{cs:List Z}(a:prog.underlying t=some (.int k))(h:Tr enc w t cs):∃ n,cs=[.int k n]/\(Lit.int k n).wf=true:=by
 obtain⟨fuel,x,h⟩:=h;obtain⟨n,rfl,_,hw⟩:=DataW.trod_int a h;exact⟨n,rfl,hw⟩
theorem Sn{t:TypeId}{fs:Array Field}{cs:List Z}(d:prog.underlying t=some (.struct fs))(h:Tr enc w t cs) :
  cs.length=prog.cellsOf t/\∀ (i:Nat) (f:Field),fs[i]? = some f->Tr enc w f.type ((cs.drop f.offset).take (prog.cellsOf f.type)):=by
 obtain⟨fuel,x,h⟩:=h;obtain⟨xs,n,_,_,Y,I,c⟩:=DataW.trod_struct d h;refine⟨Y,λi f a=>?_⟩;have hi:i<xs.length:=by rw[I];exact(bw.1 a).1
 exact⟨n,xs[i],by rw[c i f a,aG hi]⟩
theorem sZ{α:Type}{Q:Nat->α->Prop}:∀ n,(∀i,i<n->∃ b,Q i b)->∃ l:List α,l.length=n/\∀ i (h:i<l.length),Q i l[i]
 |0,_=>⟨[],rfl,λi h=>by simp at h⟩
 |n+1,h=>by
  obtain⟨l,Y,I⟩:=sZ n (λi hi=>h i M0);obtain⟨b,U⟩:=h n M0;refine⟨l++[b],by simp[Y],λi hi=>?_⟩;by_cases a:i<l.length
  ·rw[List.getElem_append_left a];exact I i a
  have:i=n:=by rw[ae]at hi;simp at hi;omega
  subst this;rw[a2P M0]
  simpa[Y]using U
theorem So{t e:TypeId}{cs:List Z}(m:prog.underlying t=some (.slice e))(h:Tr enc w t cs) :
  cs=[.slice none 0 0]\/∃ (a:Addr) (len cap:Nat),cs=[.slice (some a) len cap]/\len<=cap/\cap<=maxLen /\
   ∀i,i<len->∃ ds:List Z,ds.length=prog.cellsOf e/\(∀j,j<prog.cellsOf e->w.cell? ((a.add (i*prog.cellsOf e)).add j)=ds[j]?)/\Tr enc w e ds:=by
 obtain⟨fuel,x,h⟩:=h;rcases DataW.trod_slice m h with⟨Y,_⟩|⟨a,len,cap,elems,rest,n,_,Y,_,_,I,f,h4,g,_,_⟩
 ·exact .inl Y
 refine .inr ⟨a,len,cap,Y,I,f,λi hi=>?_⟩;have:=g i hi;rw[aG M0]at this;obtain⟨ds,c,d⟩:=Option.bind_eq_some_iff.1 this;obtain⟨_,l,k⟩:=World.cells?_some c;exact⟨ds,l,k,n,_,d⟩
theorem Ua{a:Addr}{v:Z}(h:w.cell? (a.add 0)=some v):∃ b o,a=⟨b,o,none⟩/\b<w.heap.size:=by
 have e:a.add 0=a:=by simp[Addr.add]
 rw[e]at h;obtain⟨b,o,spot⟩:=a;have hspot:spot=none:=World.cell?_spot h;subst hspot;refine⟨b,o,rfl,?_⟩;rcases cI b w.heap.size with d|c
 ·exact d
 simp[World.cell?,Array.getElem?_eq_none c]at h
end
