/- Joined texts. -/
import Derived.Shelf.Strings.Split
import Derived.Shelf.Strings.OnBuilder
import Derived.Laws.OwnMore
import Derived.Test.YthfkicfjlljjiaaGreatDoorGEmJ
set_option maxHeartbeats 40000000
namespace Go.Proofs.YthfkicfjlljjiaaGreatDoor
open Tryz
open Go.RowKit
set_option maxRecDepth 10000
def Env(w:H):Prop:=uL w/\∃ m,w.cell? ⟨0,0,none⟩=some (.int .i64 m)
theorem Env.below{w a:H}(h:Env w)(U:r7 w a):Env a:=by
  obtain⟨Y,m,hm⟩:=h;exact⟨Y.below U,m,(U.cell (p:=⟨0,0,none⟩) (block_lt_of_cell hm)).trans hm⟩
def Tg(c:Int):Bool:=decide ((gV c).2≠0)
def fq(l:List Int):O:=l.flatMap (λc=>(gV c).1)
theorem MA{l:List Int}{k:Nat}(h:k<l.length):fq (l.take (k+1))=fq (l.take k)++(gV l[k]).1:=by
  unfold fq;rw[aH h,dL];simp
theorem DV(c:Int):(fp (oE c)).length<=12:=by
  have Y:=Lu (oE c);have I:=Wv c;omega
theorem Jn(c:Int):(gV c).1.length<=12:=by
  have Y:=DV c;have I:=(oN c).2;unfold gV
  split
  · exact Y
  split
  · simp
  split
  · simp only;omega
  simp
theorem rx:∀ l:List Int,(fq l).length<=12*l.length
  | []=>by simp[fq]
  |c::r=>by
    have:=rx r;have:=Jn c;have e:fq (c::r)=(gV c).1++fq r:=by simp[fq]
    rw[e,ae,ah];omega
def nU:ByteArray:=⟨#[46]⟩
def pieces(t:O):List O:=(Lib.splitB nU 0 (Lib.countB (E t) nU) (E t)).map ls
def Q7(p:O):Bool:=(xJ p).isSome
def iz(p:O):O:=(xJ p).getD []
def iw(ps:List O):O:=Lib.join ps [46]
def nw(b:O):Option O :=
  if(signs b).all Tg=true then(if(pieces (fq (signs b))).all Q7=true then some (iw ((pieces (fq (signs b))).map iz))else none)else none
theorem a3z{b:O}{k:Nat}(h:k<(signs b).length)(U:(gV (signs b)[k]).2=0):nw b=none:=by
  unfold nw;rw[if_neg];intro a;have:=ch.mp a _ (be h);unfold Tg at this;simp[U]at this
theorem a3A{b:O}(h:(signs b).all Tg=true){p:O}(hp:p∈pieces (fq (signs b)))(U:xJ p=none):nw b=none:=by
  unfold nw;rw[if_pos h,if_neg];intro a;have:=ch.mp a _ hp;unfold Q7 at this;simp[U]at this
theorem a3B{b:O}(h:(signs b).all Tg=true)(I:(pieces (fq (signs b))).all Q7=true):nw b=some (iw ((pieces (fq (signs b))).map iz)):=by
  unfold nw;rw[if_pos h,if_pos I]
abbrev Strs(l:List O):List Z:=l.map λb=>Value.string (E b)
theorem UQ{c:Nat}{g:Option Nat}{w2 wr w3 f:H}(h:Fr (λk=>k=c) w2 wr)(U:r7 wr w3)(a:Fr (λk=>k=c\/g=some k) w3 f)(i:∀ k,g=some k->w2.heap.size<=k):Fr (λk=>k=c) w2 f:=by
  have Y:=h.trans (Fr.of_below U);refine⟨a.os.trans Y.os,a.tape.trans Y.tape,a.output.trans Y.output,am Y.size a.size,λk d e=>?_⟩;refine(a.block k (aN d Y.size) ?_).trans (Y.block k d e);rintro(I|I)
  · exact e I
  have:=i k I;omega
theorem LU{w:H}{base e n:Nat}{v:Z}{xs:List Z}(h:w.ownsRow base e 1 v n xs):(v=.slice none 0 0/\xs=[])\/∃ g c,v=.slice (some ⟨g,0,none⟩) n c/\base<=g/\g<w.heap.size/\∀ j (i:j<xs.length),w.cell? ⟨g,0+j,none⟩=some xs[j]:=by
  have hl:=h.1;rcases h.2 with⟨rfl,rfl⟩|⟨g,cap,cur,rfl,f,U,hn,hm,hsz,htk⟩
  · exact .inl ⟨rfl,az M0⟩
  refine .inr ⟨g,cap,rfl,f,?_,λj i=>?_⟩
  · rcases cI g w.heap.size with d|a
    · exact d
    rw[cD a]at U;cases U
  have:=h.cells (g:=g) rfl j xs[j] Oc
  rwa [addr_add]at this
theorem VN(p:O):(iz p).length<=3004+p.length:=by
  unfold iz xJ;have I:=Ci (signs p)
  split
  · split
    · split
      · split <;>simp
      simp
    simp
  split
  · simp
  split
  · split
    · rw[dj,ae]
      have:kE.length=4:=rfl;omega
    simp
  simp
theorem DN:∀ (k:Nat) (s:ByteArray),∀p∈Lib.splitB nU 0 k s,p.size<=s.size
  |0,s,p,h=>by
    rw[Lib.splitB_zero]at h;simp at h;subst h;exact ag _
  |k+1,s,p,h=>by
    rcases Lib.indexB_cases s nU with hi|⟨i,hi,hle⟩
    · rw[Lib.splitB_miss _ _ _ _ hi]at h
      simp at h;subst h;exact ag _
    rw[Lib.splitB_hit _ _ _ _ i hi]at h;rcases aK.mp h with rfl|h
    · simp[ByteArray.size_extract];omega
    have:=DN k _ p h;simp only[ByteArray.size_extract]at this;omega
theorem wl(t:O):(pieces t).length=Lib.countB (E t) nU+1/\Lib.countB (E t) nU<=t.length:=by
  have Y:=Lib.countB_le nU P8 _ (E t) (ag _);have I:=Lib.splitB_all nU P8 0 _ (E t) rfl;rw[aF]at Y;exact⟨by unfold pieces;rw[ay,I],Y⟩
theorem GC{t p:O}(h:p∈pieces t):p.length<=t.length:=by
  unfold pieces at h;obtain⟨q,a,rfl⟩:=dt.mp h;have:=DN _ _ q a;rw[aF]at this;rw[ec];exact this
theorem zc(t:O)(w:H)(a:Env w)(ht:t.length<=1024000000) :
    Calls prog 253 #[.string (E t),.string ⟨#[46]⟩] w λe c=>e=.returned (.slice (some ⟨w.heap.size,0,none⟩) (pieces t).length (pieces t).length)/\c=w.alloc (.cells (Strs (pieces t)).toArray 9):=by
  obtain⟨_,m,hm⟩:=a;have h:=Any.strings_Split laysSplit Rz (E t) nU m w (by rw[aF];omega) hm P8
  have e:Strs (pieces t)=(Lib.splitB nU 0 (Lib.countB (E t) nU) (E t)).map Value.string:=by
    show(List.map ls _).map (λb=>Value.string (E b))=_;rw[lu];refine jJ λx _=>?_;simp
  rw[(wl t).1,e];exact h
theorem b7K:Builder.Extra prog laysJoin_ren:={
  sizeBuilder:=Rz,
  liesBuilder:=Rz,
  t5:=underlying5,
  a5:=isAgg5,
  z5:=sizeOf5,
  v5:=zeroValue5,
  infoByte:=Rz,
  cellsByte:=Rz,
  sizeByte:=Rz,
  neB5:=by decide}
theorem Lv(g n c:Nat)(a:List O)(w:H)(h:∀ j (hj:j<a.length),w.cell? ⟨g,0+j,none⟩=some (.string (E a[j])))(f:g<w.heap.size)(i:n=a.length)(e:n<=c)(hl:n<=1024000000)(hJ:(iw a).length<=1000000000000) :
    bF prog 255 #[.slice (some ⟨g,0,none⟩) n c,.string ⟨#[46]⟩] w (S (iw a)):=by
  subst i
  have hmap:(a.map E).map (·.data.toList)=a:=by rw[lu];conv=>rhs;rw[<-List.map_id a]
                                                refine jJ λx _=>?_;exact cW x
  have Y:=Any.strings_Join laysJoin b7K g 0 c (a.map E) nU w (λj x X=>by
      rw[eW]at X;cases hp:a[j]? with
      |none=>rw[hp]at X;cases X
      |some p =>
        rw[hp]at X;obtain⟨d,rfl⟩:=bh.1 hp;cases X;exact h j d) f (by rw[ay];omega) (by rw[ay];exact e)
    (by rw[hmap];show(iw a).length<=_;omega)
  rw[hmap,ay]at Y;exact Y

def mr:O->List O
 | []=>[[]]
 |x::r=>if x=46 then []::mr r else match mr r with | []=>[[x]]|p::ps=>(x::p)::ps
theorem Oy:mr []=[[]]:=rfl
theorem BU(r:O):mr (46::r)=[]::mr r:=by rw[mr,if_pos rfl]
theorem up:∀ t,∃p a,mr t=p::a
 | []=>⟨_,_,rfl⟩
 |x::r=>by
  unfold mr
  split
  ·exact⟨_,_,rfl⟩
  obtain⟨p,a,h⟩:=up r;rw[h];exact⟨_,_,rfl⟩
theorem mt{x:UInt8}{r p:O}{a:List O}(h:x≠46)(c:mr r=p::a):mr (x::r)=(x::p)::a:=by
 rw[mr,if_neg h,c]
theorem ux(x:UInt8)(r:O):Lib.index (x::r) [46]=if x=46 then 0 else if Lib.index r [46]=-1 then -1 else Lib.index r [46]+1:=by
 rw[Lib.index_one,Lib.index_one,Lib.indexByte];by_cases h:x=46
 ·subst h;simp
 rw[if_neg h,if_neg (by simpa using h)];simp only[beq_iff_eq]
theorem nR(x:UInt8)(r:O):Lib.count (x::r) [46]=if x=46 then Lib.count r [46]+1 else Lib.count r [46]:=by
 rw[Lib.count_one,Lib.count_one,List.count_cons];by_cases h:x=46
 ·subst h;simp
 simp[h]
theorem Ji:∀ r:O,Lib.count r [46]=0->Lib.index r [46]=-1/\mr r=[r]
 | [],_=>⟨by rw[Lib.index_one];rfl,rfl⟩
 |x::r,h=>by
  rw[nR]at h
  split at h
  ·omega
  next X =>
  obtain⟨Y,I⟩:=Ji r h;exact⟨by rw[ux,if_neg X,if_pos Y],mt X I⟩
theorem Jj:∀ r:O,Lib.count r [46]≠0->∃ i:Nat,Lib.index r [46]=i
 | [],h=>by rw[Lib.count_one]at h;simp at h
 |x::r,h=>by
  rw[nR]at h;rw[ux];by_cases X:x=46
  ·exact⟨0,by rw[if_pos X];try rfl⟩
  rw[if_neg X]at h;obtain⟨i,hi⟩:=Jj r h;exact⟨i+1,by rw[if_neg X,if_neg M0,hi];rfl⟩
theorem qa{s:O}{k i:Nat}(h:Lib.index s [46]=i):Lib.splitK [46] 0 (k+1) s=s.take i::Lib.splitK [46] 0 k (s.drop (i+1)):=by
 rw[Lib.splitK,if_neg (by rw[h];simp),h];rfl
theorem wM:∀ t:O,Lib.splitK [46] 0 (Lib.count t [46]) t=mr t
 | []=>by
  rw[Lib.count_one];rfl
 |x::r=>by
  have a:=wM r;rw[nR];by_cases X:x=46
  ·subst X
   rw[if_pos rfl,qa (i:=0) (by rw[ux,if_pos rfl];rfl),BU];rw[show(46::r).drop (0+1)=r from rfl,a];rfl
  rw[if_neg X];by_cases h0:Lib.count r [46]=0
  ·rw[h0]
   exact(mt X (Ji r h0).2).symm
  obtain⟨i,hi⟩:=Jj r h0;obtain⟨k,c⟩:∃ k,Lib.count r [46]=k+1:=⟨Lib.count r [46]-1,M0⟩;rw[c,qa hi]at a;rw[c,qa (i:=i+1) (by rw[ux,if_neg X,if_neg M0,hi];rfl)];rw[mt X a.symm];rfl
theorem p6(t:O):pieces t=mr t:=by
 unfold pieces;have h:=Lib.splitB_data nU 0 (Lib.countB (E t) nU) (E t);have a:(E t).data.toList=t:=cW t;have c:nU.data.toList=[46]:=rfl
 have d:Lib.countB (E t) nU=Lib.count t [46]:=by
  show Lib.count (E t).data.toList nU.data.toList=_;rw[a,c]
 rw[a,c,d,wM]at h;rw[d];exact h
theorem vM(p:O)(q:O)(a:List O):iw (p::q::a)=p++46::iw (q::a):=by
 unfold iw;rw[Lib.join_cons,Lib.join_cons];unfold Lib.joinTail;simp
theorem vP:∀ t:O,iw (mr t)=t
 | []=>by rw[Oy];unfold iw;rw[Lib.join_one]
 |x::r=>by
  have a:=vP r;obtain⟨p,c,h⟩:=up r;by_cases X:x=46
  ·subst X
   rw[BU];rw[h]at a ⊢;rw[vM,a];rfl
  rw[mt X h];rw[h]at a;cases c with
  |nil =>
   unfold iw at *;rw[Lib.join_one]at *;rw[a]
  |cons q qs =>
   rw[vM]at *;rw[<-a];rfl

def Zo(l:List Int):Option O:=if l.all Tg=true then(if(mr (fq l)).all Q7=true then some (iw ((mr (fq l)).map iz))else none)else none
theorem KI(b:O):nw b=Zo (signs b):=by unfold nw Zo;rw[p6]

def BD(w:H)(o:Option O):Ending->H->Prop:=λe w'=>e=.returned (.tuple #[S (o.getD []),.bool o.isSome])/\r7 w w'
theorem BD.none{w a:H}{o:Option O}(h:o=none)(U:r7 w a):BD w o (.returned (.tuple #[S [],.bool false])) a:=by subst h;exact⟨rfl,U⟩
theorem BD.some{w a:H}{o:Option O}{x:O}{s:ByteArray}(h:o=some x)(c:s=E x)(U:r7 w a):BD w o (.returned (.tuple #[.string s,.bool true])) a:=by subst h;subst c;exact⟨rfl,U⟩
theorem yK:∀ a:List O,Lib.lens (a.map iz)<=3004*a.length+Lib.lens a
 | []=>by simp[Lib.lens]
 |x::r=>by
  have ih:=yK r;have h:=VN x;have c:Lib.lens ((x::r).map iz)=(iz x).length+Lib.lens (r.map iz):=by simp[Lib.lens]
  have d:Lib.lens (x::r)=x.length+Lib.lens r:=by simp[Lib.lens]
  rw[c,d,ah];omega
theorem vN(x:O)(r:List O):(iw (x::r)).length=Lib.lens (x::r)+r.length:=by
 unfold iw;have a:([46]:List UInt8).length=1:=rfl;have e:Lib.lens (x::r)=x.length+Lib.lens r:=by simp[Lib.lens]
 rw[Lib.join_cons,ae,Lib.joinTail_length,a,e];omega
theorem Ar(t:O):(iw ((pieces t).map iz)).length<=3005*(t.length+1):=by
 rw[p6];obtain⟨p,c,h⟩:=up t;have a:=vP t;rw[h]at a ⊢;have Y:=congrArg List.length a;rw[vN]at Y;have I:=yK (p::c);rw[dh]at I ⊢;rw[vN,ay];rw[ah]at I;omega
theorem Dk(w:H)(base e:Nat)(a:List O)(U:base<=w.heap.size)(hl:a.length<=1024000000) :
  (w.alloc (.cells (Strs a).toArray e)).ownsRow base e 1 (.slice (some ⟨w.heap.size,0,none⟩) a.length a.length) a.length (Strs a) :=
 ⟨Oc,.inr ⟨w.heap.size,a.length,_,rfl,U,heap_alloc_new w _,ag _,by unfold maxLen;omega,Oc,aP Oc⟩⟩
theorem a0s{α:Type}{f:α->α}{a:List α}{k:Nat}(h:k<a.length):((a.take k).map f++a.drop k)[k]? = some a[k]:=by
 have c:((a.take k).map f).length=k:=by rw[ay,aD];omega
 rw[dB M0,c,jy,fz,dH];exact aG h
theorem VE{α:Type}{f:α->α}{a:List α}{k:Nat}(h:k<a.length){y:α}(hy:f a[k]=y):((a.take k).map f++a.drop k).set k y=(a.take (k+1)).map f++a.drop (k+1):=by
 have c:((a.take k).map f).length=k:=by rw[ay,aD];omega
 rw[aH h,eY,aC h,b3Y _ _ M0,c,jy,bB,<-hy];rfl
theorem Fp(b:O)(w:H)(U:b.length<=307200000)(ht:(fq (signs b)).length<=102400000)(hE:Env w):Calls prog 234 #[.string (E b)] w λe w'=>BD w (nw b) e w':=by
 have R:=λW (h:r7 w W)=>St b W U (hE.below h).1
 have Q:∀ x∈signs b,(gV x).2=0->nw b=none:=by
  intro x X h;obtain⟨k,hk,rfl⟩:=cC X;exact a3z hk h
 have q:=λ(h:(signs b).all Tg=true) (p:O) (hp:p∈pieces (fq (signs b))) (I:xJ p=none)=>a3A h hp I;have r:=λ(h:(signs b).all Tg=true) (I:(pieces (fq (signs b))).all Q7=true)=>a3B h I;obtain⟨O',hO⟩:=V (nw b);rw[<-hO]at Q q r ⊢;clear hO;have hsl:=lR _ b (ag _);obtain⟨l,hl⟩:=V (signs b);rw[<-hl]at R hsl ht Q q r;clear hl;obtain⟨s,hs⟩:=V (E b);rw[<-hs]at R ⊢;clear hs;obtain⟨L,hL⟩:=V (l.length);have hLm:L<=307200000:=M0;clear hsl U;have ma:=F R;clear R;have HD1:=F Q;clear Q;have HD2:=F q;clear q;have HD3:=F r;clear r;have HL:=F hL;clear hL;have HT:=F ht;clear ht;have SW:=F hE;clear hE;go_enter func234,ntmps234;go_wp2_with fail;refine(ma.o _ ((Below.refl _ _).alloc (ag _) _)).m ?_;rintro e w2 ⟨v2,rfl,ho2,hb2⟩;have a32:=(sR.fresh w).below hb2;have HB2:=F<|((Below.refl _ w).alloc (ag _) _).trans (hb2.m Oc);clear hb2
 have hat:∀ k (hk:k<l.length),∃gs c,v2=.slice (some ⟨gs,0,none⟩) L c/\w.heap.size<gs/\gs<w2.heap.size/\w2.cell? ⟨gs,0+k,none⟩=some (.int .i64 l[k]):=by
  intro k hk;rcases LU ho2 with⟨_,h0⟩|⟨gs,c,Y,I,h3,h4⟩
  ·have:(d8 l).length=0:=by rw[h0];rfl
   rw[ay]at this;omega
  rw[show(d8 l).length=L by rw[ay,HL.o]]at Y;refine⟨gs,c,Y,by simp at I;omega,h3,?_⟩;have:=h4 k (by rw[ay];exact hk)
  simpa using this
 obtain⟨av,cv,hv⟩:=cQ (Sl.ew ho2);rw[show(d8 l).length=L by rw[ay,HL.o]]at hv;subst hv;clear ho2;have HAT:=F hat;clear hat;have lZ:=F a32;clear a32;have hz2:w.heap.size<w2.heap.size:=lZ.o.lt;go_wp2_with fail
 go_loopw [17] (λiv wr=>∃ (k:Nat) (g:Option Nat),k<=L/\iv=.int .i64 k/\(l.take k).all Tg=true/\sR w.heap.size g (fq (l.take k)) wr/\(∀j,g=some j->w2.heap.size<=j)/\Fr (λj=>j=w.heap.size) w2 wr) (λi _=>L-(intOf i).toNat)
 exact⟨0,none,M0,Oc,Oc,by simpa[fq]using lZ.o,Oc,Fr.of_below (Below.refl _ _)⟩
 obtain⟨k,g,hk,rfl,hall,n,hg,hfr⟩:=hrel;have hbw:r7 w wr:=HB2.o.trans (hfr.below M0 (λj J=>M0));have HA:=F hall;clear hall;have pN:=F n;clear n;have HG:=F hg;clear hg;have HF:=F hfr;clear hfr;have Hp:=F hbw;clear hbw;by_cases hlt:k<L
 ·have X:k<l.length:=by have:=HL.o;omega
  obtain⟨gs,c',hav,b4y,a9w,hc2⟩:=HAT.o k X;obtain⟨rfl,rfl⟩:av=some ⟨gs,0,none⟩/\cv=c':=by injection hav with e1 e2 e3;exact⟨e1,e3⟩
  have hcell:wr.cell? ⟨gs,0+k,none⟩=some (.int .i64 l[k]):=(World.cell?_of_block (w:=w2) (a:=⟨gs,0+k,none⟩) (HF.o.block gs a9w M0)).trans hc2;rw[bM]at hcell;clear hav hc2;have hts:=MA X;have u:=λh=>xW (f:=Tg) X HA.o h;have PJ:=HD1.o _ (be X);have v:=Jn l[k];have htl:=rx (l.take k);rw[aD]at htl;obtain⟨x,nB⟩:=V (l[k]);rw[<-nB]at hcell hts u PJ v;clear nB;have hma:=λW=>Jm x W;have hok2:(gV x).2≠0->(l.take (k+1)).all Tg=true:=λh=>u (decide_eq_true h);clear u;obtain⟨K,hK⟩:=V ((gV x).2);obtain⟨B,hB⟩:=V ((gV x).1);rw[<-hB]at hts v;rw[<-hK]at PJ hok2;rw[<-hK,<-hB]at hma;clear hK hB;have V7:=F hma;clear hma;have HTS:=F hts;clear hts;have TB:(fq (l.take k)).length+B.length<=1099511627776:=M0;have a7H:=F TB;clear TB htl v;by_cases C:K=0
  ·have hf:=PJ C
   have HO:=F hf;clear hf PJ hok2;subst C;go_wp2_with fail;refine(V7.o _).m ?_;rintro e w3 ⟨rfl,D⟩;have z:=F<|Hp.o.trans (D.m Hp.o.size);clear D;go_wp2_with fail
   go_ret2
   exact BD.none HO.o z.o
  have q0:(K==0)=false:=by simp[C]
  have CH:=hok2 C;have HA2:=F CH;clear CH hok2 PJ C;go_wp2_with fail;refine(V7.o _).m ?_;rintro e w3 ⟨rfl,D⟩;have z:=F D;clear D;go_wp2_with fail;refine(gP B (pN.o.below z.o) a7H.o).m ?_;rintro e w4 ⟨rfl,hrb⟩;have xo:=F hrb;clear hrb;go_wp2_with fail;obtain⟨g',a1,a2,a3⟩:=xo.o;have WX:=F<|UQ HF.o z.o a3 HG.o
  have HG':∀ j,g'=some j->w2.heap.size<=j:=by
   intro j J;rcases a2 with h|⟨j',h,h'⟩
   ·exact HG.o j (h▸J)
   rw[h]at J;injection J with J
   have:=HF.o.size;have:=z.o.size;omega
  have HG2:=F HG';clear HG' a2 a3;have HA1:=F a1;clear a1;go_roundw
  exact⟨k+1,g',M0,Oc,HA2.o,by rw[HTS.o];exact HA1.o,HG2.o,WX.o⟩
  simp[intOf];omega
 obtain rfl:L=k:=M0;have hall:=HA.o;have n:=pN.o;rw[aP (by have:=HL.o;omega)]at hall n;have q:=HD2.o hall;have r:=HD3.o hall;have ht:=HT.o;obtain⟨t,Ep⟩:=V (fq l);rw[<-Ep]at q r ht n;clear Ep hall;have hstr:=kX w.heap.size n (ag _) (λj J=>by have:=HG.o j J;omega);have a2y:=F hstr;clear hstr n;have hpn:=wl t;have hpl:=λp (hp:p∈pieces t)=>GC hp;have T:=λW (h:Env W)=>zc t W h M0;obtain⟨d,hps⟩:=V (pieces t);have hjo:(iw (d.map iz)).length<=1000000000000:=by rw[hps];have:=Ar t;omega
 have HJO:=F hjo;clear hjo;rw[<-hps]at q r hpn hpl T;clear hps;obtain⟨N,hN⟩:=V (d.length);rw[<-hN]at hpn T;have oP:N<=102400001:=M0;clear hpn;have HN:=F hN;clear hN;have ji:=F T;clear T;have X1:=F q;clear q;have Bv:=F r;clear r;have a4v:∀ p∈d,p.length<=102400000:=λp hp=>by have:=hpl p hp;omega
 have HPL:=F a4v;clear a4v hpl ht;go_wp2_with fail;refine(a2y.o).m ?_;rintro e w5 ⟨rfl,hb5⟩;have gD:=F<|Hp.o.trans hb5;clear hb5;go_wp2_with fail;refine(ji.o _ (SW.o.below gD.o)).m ?_;rintro e w6 ⟨rfl,hw6⟩
 have hown:w6.ownsRow w.heap.size 9 1 (.slice (some ⟨w5.heap.size,0,none⟩) N N) N (Strs d):=by
  rw[hw6,HN.o];exact Dk w5 w.heap.size _ d gD.o.size (by have:=HN.o;omega)
 have hb6:r7 w w6:=by rw[hw6];exact gD.o.alloc gD.o.size _
 have hgS:w.heap.size<=w5.heap.size:=gD.o.size;clear hw6;obtain⟨P,hgg⟩:=V (w5.heap.size);rw[<-hgg]at hown hgS ⊢;clear hgg;have HOW:=F hown;clear hown;have j8:=F hb6;clear hb6;clear Hp gD HF HG pN HA a2y;go_wp2_with fail
 go_loopw [35] (λiv wr=>∃ (k:Nat),k<=N/\iv=.int .i64 k/\(d.take k).all Q7=true/\wr.ownsRow w.heap.size 9 1 (.slice (some ⟨P,0,none⟩) N N) N (Strs ((d.take k).map iz++d.drop k))/\r7 w wr) (λi _=>N-(intOf i).toNat)
 exact⟨0,M0,Oc,Oc,by simpa using HOW.o,j8.o⟩
 obtain⟨k,hk,rfl,hall,hown,hbl⟩:=hrel;have HA:=F hall;clear hall;have HO:=F hown;clear hown;have HB:=F hbl;clear hbl;by_cases hlt2:k<N
 ·have X:k<d.length:=by have:=HN.o;omega
  have hcell:wr.cell? ⟨P,k,none⟩=some (.string (E d[k])):=by
   have:=HO.o.cells (g:=P) rfl k (.string (E d[k])) (by rw[eW,a0s X];rfl)
   rwa [addr_add,bM]at this
  have hmem:d[k]∈d:=be X;have hwt:=Eg d[k] wr (HPL.o _ hmem) (SW.o.below HB.o).1;have n:=X1.o d[k] hmem
  have u:Q7 d[k]=true->(d.take (k+1)).all Q7=true:=λh=>by
   rw[aH X,Xe,HA.o];simp[h]
  have hset:=λy h=>VE (f:=iz) X (y:=y) h;obtain⟨p,hp⟩:=V (d[k]);rw[<-hp]at hcell hwt n u hset;clear hp hmem X;have M:=F hwt;clear hwt;have HBAD:=F n;clear n;have Kd:=F u;clear u;have YD:=F hset;clear hset;cases hw:xJ p with
  |none =>
   have px:=F<|HBAD.o hw;rw[hw]at M;clear hw;go_wp2_with fail;refine(M.o).m ?_;rintro e w7 ⟨x,rfl,_,Em⟩;have HB7:=F<|HB.o.trans (Em.m HB.o.size);clear Em;go_wp2_with fail
   go_ret2
   exact BD.none px.o HB7.o
  |some y =>
   have hy1:iz p=y:=by unfold iz;rw[hw];rfl
   have hy2:Q7 p=true:=by unfold Q7;rw[hw];rfl
   have HY1:=F<|YD.o y hy1;have HY2:=F<|Kd.o hy2;rw[hw]at M;clear hw hy1 hy2;go_wp2_with fail;refine(M.o).m ?_;rintro e w7 ⟨x,rfl,X,Em⟩;obtain rfl:x=y:=X y rfl;clear X;have ho7:=own_below HO.o Em;have HB7:=F<|HB.o.trans (Em.m HB.o.size)
   have a9r:w7.cell? ⟨P,k,none⟩=some (.string (E p)):=by
    rw[Em.cell (p:=⟨P,k,none⟩) (block_lt_of_cell hcell)];exact hcell
   have b4w:=ho7.frozenAt k;have hst:=ho7.stored k (.string (E x))
   have XO:(Strs ((d.take k).map iz++d.drop k)).set k (.string (E x))=Strs ((d.take (k+1)).map iz++d.drop (k+1)):=by
    rw[<-HY1.o];exact(List.map_set (f:=λb=>Value.string (E b))).symm
   have HST:=F<|XO▸hst.1;clear hst XO ho7 Em;go_wp2_with fail;go_roundw
   exact⟨k+1,M0,Oc,HY2.o,HST.o,HB7.o.setCell hgS _⟩
   simp[intOf];omega
 obtain rfl:N=k:=M0;have hall:=HA.o;have hown:=HO.o;rw[aP (by have:=HN.o;omega)]at hall hown;rw[dG (by have:=HN.o;omega),aV]at hown;have hno:=Bv.o hall;have px:=F hno;clear hno hall;have v:(d.map iz).length=N:=by rw[ay,HN.o]
 have hcs:∀ j (J:j<(d.map iz).length),wr.cell? ⟨P,0+j,none⟩=some (.string (E (d.map iz)[j])):=by
  intro j J;have:=hown.cells (g:=P) rfl j (.string (E (d.map iz)[j])) (by rw[eW,aG J];rfl)
  rwa [addr_add]at this
 have a4f:=(hown.lt P rfl).2;have hjn:=Lv P N N (d.map iz) wr hcs a4f v.symm (ag _) M0 HJO.o;have SY:=F hjn;clear hjn hcs v hown;go_wp2_with fail;refine(SY.o).m ?_;rintro e w8 ⟨rfl,Eo⟩;have HB8:=F<|HB.o.trans (Eo.m HB.o.size);clear Eo;go_wp2_with fail
 go_ret2
 exact BD.some px.o rfl HB8.o

def fin(out:O)(R:List O):Option O:=if R.all Q7=true then some (out++iw (R.map iz))else none

theorem KO(l:List Int):(encR l).1.length<=1+8*l.length:=by
 unfold encR
 split
 ·simp
 next h =>
 have Y:l.all sg=true:=by
  by_cases I:l.all sg=true
  ·exact I
  exact absurd (.inr I) h
 obtain⟨W,e,_,hw,_⟩:=vg (ch.mp Y) M0;have U:=uR l;have hh:(hyp (lD l)).length<=1:=by unfold hyp;split <;>simp
 simp only;rw[e,ae,ae];omega
theorem Rg(p:O):(iz p).length<=5+8*p.length:=by
 have I:=KO (signs p);have h3:=lR _ p (ag _);unfold iz xJ
 split
 ·split
  ·split
   ·split
    ·rw[dj];omega
    simp
   simp
  simp
 split
 ·rw[dj];omega
 split
 ·split
  ·rw[dj,ae]
   have:kE.length=4:=rfl;omega
  simp
 simp
theorem qY(x:O)(r:List O):(iw (x::r)).length=Lib.lens (x::r)+r.length:=by
 unfold iw;have a:([46]:List UInt8).length=1:=rfl;have e:Lib.lens (x::r)=x.length+Lib.lens r:=by simp[Lib.lens]
 rw[Lib.join_cons,ae,Lib.joinTail_length,a,e];omega
theorem De:∀ a:List O,Lib.lens (a.map iz)<=5*a.length+8*Lib.lens a
 | []=>by simp[Lib.lens]
 |p::a=>by
  have ih:=De a;have hp:=Rg p;have c:Lib.lens ((p::a).map iz)=(iz p).length+Lib.lens (a.map iz):=by simp[Lib.lens]
  have d:Lib.lens (p::a)=p.length+Lib.lens a:=by simp[Lib.lens]
  rw[c,d,ah];omega
theorem Cg{b t:O}(h:nw b=some t):t.length<=8*(fq (signs b)).length+8:=by
 rw[KI]at h;unfold Zo at h
 split at h
 ·split at h
  ·have e:=bj h
   obtain⟨p,f,hp⟩:=up (fq (signs b));have c:=vP (fq (signs b));have d:=De (p::f);have a:=congrArg List.length c;rw[hp,qY]at a;rw[<-e,hp,dh,qY,ay];rw[dh,ah]at d;omega
  cases h
 cases h
