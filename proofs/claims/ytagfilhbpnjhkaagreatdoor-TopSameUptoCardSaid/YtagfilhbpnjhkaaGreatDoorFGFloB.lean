import Derived.WalkMore
import Derived.Test.YtagfilhbpnjhkaaGreatDoorFGFloA
set_option maxRecDepth 10000
set_option maxHeartbeats 0
namespace Go.Proofs.Q
open Tryz Go.RowKit
variable{W' w' w2:H}
theorem Zp{x:UInt8}(r:O)(h:G x<0x80):dr (x::r)=(x.toNat,1):=by
 have d:=QZ r h;rcases lH x r with⟨Y,I,a,h4,h5,_⟩|⟨Y,_⟩
 ·rw[d]at a
  have e:d9 (x::r)=1:=by unfold d9;rw[d];rfl
  rw[e]at I;have c:(dr (x::r)).1=x.toNat:=by unfold G at a;simp only at a;omega
  exact Prod.ext c I
 rw[d]at Y;cases Y
theorem a3C{x:UInt8}(r:O)(h:0x80<=G x):((dr (x::r)).1=65533\/(128<=(dr (x::r)).1/\Utf8.valid ((dr (x::r)).1:Int)=true))/\∀y∈(x::r).take (dr (x::r)).2,0x80<=G y:=by
 have k:=Gw r h;have hN:=mK x r;rcases lH x r with⟨Y,I,c,a,f,g⟩|⟨Y,I,c,a,f⟩
 ·rw[I]
  refine⟨.inr ⟨?_,by rw[c];exact g⟩,k⟩;rcases cI (dr (x::r)).1 128 with hlt|d
  ·rw[<-c,ID M0 M0]at a
   obtain⟨j,i⟩:∃j,d9 (x::r)=j+1:=⟨d9 (x::r)-1,M0⟩;rw[i,dM]at a;injection a with e _
   rw[<-e]at h;unfold G at h;rw[cF M0]at h;omega
  exact d
 refine⟨.inl c,?_⟩;rw[a];intro y hy;obtain rfl:y=x:=by simpa using hy
 exact h
def FW(c:Int):Int:=if c=101 then 0 else if c=69 then 1 else -1
theorem ZN:∀k:Fin 128,Lib.indexByte [101,69] (((k.val:Nat):Int).toNat.toUInt8)=FW (k.val:Int):=by decide +kernel
theorem a0j(c:Int)(w:H)(d:0<=c)(Y:c<128):bF prog 214 #[.string ⟨#[101,69]⟩,.int .i32 c] w (.int .i64 (FW c)):=by
 have a:=ZN ⟨c.toNat,M0⟩;have e:((c.toNat:Nat):Int)=c:=M0;simp only[e]at a;refine(Any.strings_IndexRune_ascii {laysIA with} ⟨#[101,69]⟩ c w d Y).e ?_;exact⟨by rw[<-a],gT _ _⟩
theorem a3D:∀k:Fin 2,Utf8.decode ⟨#[101,69]⟩ k.val=(if k.val=0 then(101,1)else(69,1)):=by decide +kernel
theorem Qp(w:H):bF prog 214 #[.string ⟨#[101,69]⟩,.int .i32 65533] w (.int .i64 (-1)):=by
 go_enter func214,ntmps214;go_wp2_with fail
 go_loopw [5,6] (λ_ _ wr=>∃p:Nat,p<=2/\Hid (wr.heap[w.heap.size]?= some (.stringIter ⟨#[101,69]⟩ p))/\Hid (r7 w wr)) (λ_ _ wr=>2-wr.iterPos w.heap.size)
 exact⟨0,M0,World.iter_heap _ _ _,(gT _ _).alloc (ag _) _⟩
 obtain⟨p,hp,f,HB⟩:=hrel;by_cases d:p<2
 ·have a:∀ty,(Instr.next (.pointer (some ⟨w.heap.size,0,none⟩)) true ty).run prog wr=_:=λty=>Lib.run_next_any_at wr w.heap.size ⟨#[101,69]⟩ p ty f.o d
  have hd:=a3D ⟨p,d⟩;have h:=Lib.iterAt_heap wr w.heap.size ⟨#[101,69]⟩ p (p+1) f.o;have g:=Lib.below_iterAt (HB.o) (k:=w.heap.size) (ag _) ⟨#[101,69]⟩ (p+1);have hpos:wr.iterPos w.heap.size=p:=iterPos_of f.o;have hp2:p=0\/p=1:=M0;simp only at hd;have Y:(Utf8.decode ⟨#[101,69]⟩ p).2=1:=by rw[hd];split <;>rfl
  have I:(Utf8.decode ⟨#[101,69]⟩ p).1=101\/(Utf8.decode ⟨#[101,69]⟩ p).1=69:=by rw[hd];split <;>simp
  obtain⟨rn,c⟩:=V ((Utf8.decode ⟨#[101,69]⟩ p).1);rw[Y,<-c]at a;rw[<-c]at I;clear c hd Y;obtain⟨m,e⟩:=V (wr.iterAt w.heap.size ⟨#[101,69]⟩ (p+1));rw[<-e]at h g a;have i:=F h;clear h;have n:=F g;clear g;have j:=F hpos;clear hpos;clear e;have hne:((rn:Int)==65533)=false:=by rcases I with rfl|rfl <;>rfl
  have hrk:((rn:Nat):Int)<128:=M0;go_wp2_with fail;go_roundw
  exact⟨p+1,M0,i.o,n.o⟩
  ·have l:m.iterPos w.heap.size=p+1:=iterPos_of i.o;rw[l,j.o];omega
 obtain rfl:p=2:=M0;have a:∀ty,(Instr.next (.pointer (some ⟨w.heap.size,0,none⟩)) true ty).run prog wr=_:=λty=>Lib.run_next_end_at wr w.heap.size ⟨#[101,69]⟩ 2 ty f.o P8;go_wp2_with fail;go_ret;exact⟨rfl,HB.o⟩
theorem a07(c:Int)(w:H)(_:128<=c)(a:Utf8.valid c=true):bP prog 234 #[.int .i32 c] w (.bool true):=by
 rcases(sQ c).mp a with⟨Y,I⟩|⟨Y,I⟩
 ·go_enter func234,ntmps234
  go_wp2_with fail;go_ret;exact⟨rfl,rfl⟩
 have h3:¬c<55296:=M0;have h4:(57343:Int)<c:=M0;go_enter func234,ntmps234;go_wp2_with fail;go_ret;exact⟨rfl,rfl⟩
theorem b8r{c:Int}(h:128<=c)(d:Utf8.valid c=true):(∃a b:UInt8,Utf8.encode c=⟨#[a,b]⟩/\128<=a.toNat/\128<=b.toNat)\/3<=(Utf8.encode c).size:=by
 have U:E (enc c)=Utf8.encode c:=kt _;rcases(sQ c).mp d with Y|Y
 ·by_cases I:c<0x800
  ·left
   rw[IE M0 I]at U;exact⟨_,_,U.symm,by rw[cF M0];omega,by rw[cF M0];omega⟩
  right
  rw[<-U,yn M0 M0 M0,aF];simp
 right
 by_cases I:c<0x10000
 ·rw[<-U,yn M0 M0 M0,aF];simp
 rw[<-U,D6 M0 M0,aF];simp
theorem a4X(c:Int)(w:H)(h:128<=c)(f:c≠65533)(k:Utf8.valid c=true)(hm:c<2147483648):bF prog 214 #[.string ⟨#[101,69]⟩,.int .i32 c] w (.int .i64 (-1)):=by
 have p:=λW=>a07 c W h k;have j:∀(d:Int) W,bP prog 98 #[.string ByteArray.empty,.int .u8 d] W (.int .i64 (-1)):=λd W=>(Any.strings_IndexByte laysIB ByteArray.empty d W);have i:=F p;clear p;have q:=F j;clear j;have hne1:(c==65533)=false:=by simpa using f
 have h128:¬c<128:=M0;have h00:(0:Int)<=c:=M0;rcases b8r h k with⟨a,b,he,s,U⟩|r
 ·have b4n:(((69:UInt8).toNat:Int)==(b.toNat:Int))=false:=by
   have:(69:UInt8).toNat=69:=rfl;rw[beq_eq_false_iff_ne,this];omega
  have a30:((69:Int)==(b.toNat:Int))=false:=by rw[beq_eq_false_iff_ne];omega
  have l:((69:Int) != (b.toNat:Int))=true:=by unfold bne;rw[a30];rfl
  have hix:((((⟨#[101,69]⟩:ByteArray)[1]' P8).toNat:Int) != (((⟨#[a,b]⟩:ByteArray)[1]'(by exact Nat.lt_of_lt_of_eq M0 (show 2=(⟨#[a,b]⟩:ByteArray).size from rfl))).toNat:Int))=true:=l;have hw2:IntKind.i64.wrap 2=2:=P8;clear k h f s U;go_enter func214,ntmps214
  go_wp2_with(go_at_call 234;refine(i.o _).m ?_;rintro e w2⟨rfl,hw⟩;subst hw)
  refine wp_scope_straight ?_;go_wp2_with fail;refine wp_loop_rounds 1 ?_;rw[rounds_succ];go_wp2_with fail;refine wp_scope_straight ?_;go_wp2_with fail
  go_quiet (fail)
  have g:=F<|ft (gT w2.heap.size w2) nq;generalize w2.drewN nq=w3 at g⊢;go_wp2_with fail
  go_quiet ((go_at_call 98;exact Calls.quiet_of_same (q.o _ _)))
  go_wp2_with fail;simp only[Exit.noGoto,Exit.inBlock,Exit.then];go_ret;exact⟨rfl,ft g.o _⟩
 obtain⟨L,n⟩:=V ((Utf8.encode c).size);rw[<-n]at r;have hLs:(Utf8.encode c).size=L:=n.symm
 have hLm:L<=4:=by
  have:=(oN c).2;unfold enc at this;rw[nD]at this;omega
 have hw1:IntKind.i64.wrap ((L:Int)-1)=(L:Int)-1:=gS _ M0;have hlt:¬((L:Int)-1)<2:=M0;clear k h f n;go_enter func214,ntmps214
 go_wp2_with(go_at_call 234;refine(i.o _).e ?_)
 refine wp_scope_straight ?_;go_wp2_with fail;refine wp_loop_rounds 1 ?_;rw[rounds_succ];go_wp2_with fail;simp only[Exit.noGoto,Exit.inBlock];go_ret;exact⟨rfl,gT _ _⟩
def nF(l:O):Int:=if l.dropWhile nE=[]then -1 else((l.takeWhile nE).length:Int)
theorem Qj{a B:O}{x:UInt8}(hp:∀y∈a,nE y=true)(X:nE x=false):nF (a++x::B)=(a.length:Int):=by
 unfold nF;rw[b7v (p:=nE) _ hp,Fu (p:=nE) _ hp,Fv X,gc Oc,bI (by rw[X];simp),aV]
theorem Qk{l:O}{p:Nat}(h:p<l.length)(hp:∀y∈l.take p,nE y=true)(X:nE (l[p]'h)=false):nF l=(p:Int):=by
 have e:=Qj (B:=l.drop (p+1)) hp X;rw[<-List.drop_eq_getElem_cons h,cT,aD]at e;rw[e];omega
theorem Li{l:O}(hp:∀y∈l,nE y=true):nF l=-1:=by
 have:l.dropWhile nE=[]:=by
  have:=Fu (p:=nE) (d:=l) [] hp
  simpa using this
 unfold nF;rw[ge this]
theorem XW(x:UInt8):nE x=!(decide (G x=101)||decide (G x=69)):=ku (P:=λx=>nE x=!(decide (G x=101)||decide (G x=69))) (by decide +kernel) x
theorem pF:∀l:O,Lib.indexAny l [101,69]=nF l
 | []=>rfl
 |x::r=>by
  have d:=pF r;have hge:=Lib.indexAny_ge [101,69] r;unfold Lib.indexAny;rw[d];have c:([101,69]:List UInt8).contains x=!(nE x):=ku (P:=λx=>([101,69]:List UInt8).contains x=!(nE x)) (by decide +kernel) x;rw[c];cases a:nE x with
  |false =>
   rw[ge (show(!false)=true from rfl)];unfold nF;rw[Fv a,gc Oc,bI (by rw[a];simp)];rfl
  |true =>
   rw[gc Oc];unfold nF;rw[aQ a,bJ a];by_cases h:r.dropWhile nE=[]
   ·rw[ge h,ge h];rfl
   rw[gc h,gc h,gc Oc,cz];omega
theorem Ws(n:Int)(w:H)(h:n<=8):bP prog 235 #[.int .i64 n] w (.bool false):=by
 refine(Any.strings_shouldUseASCIISet {laysIA with} n w).e ?_;exact⟨by rw[gh M0],rfl⟩
theorem Lj(l:O)(w:H)(hl:l.length<=8):bF prog 215 #[.string (E l),.string ⟨#[101,69]⟩] w (.int .i64 (nF l)):=by
 obtain⟨R,HR⟩:=ey (nF l);rw[<-HR.o];have v:=A9 l;obtain⟨t,ht⟩:=V (E l);have hsz:t.size=l.length:=by rw[ht,aF]
 rw[<-ht]at v⊢;clear ht;obtain⟨N,hN⟩:=V (t.size);have P6:t.size=N:=hN.symm;have hN8:(N:Int)<=8:=M0;obtain⟨eM,Q,T⟩:=cZ (show N=l.length by omega) v (λW=>Ws (N:Int) W hN8);clear hN hsz v hl;go_enter func215,ntmps215
 go_wp2_with(go_at_call 235;refine(T.o _).e ?_)
 go_loopw [9,10] (λ_ _ wr=>∃p:Nat,p<=N/\Hid (wr.heap[w.heap.size]?= some (.stringIter t p))/\Hid (r7 w wr)/\Hid (w.heap.size<wr.heap.size)/\Hid (∀y∈l.take p,nE y=true)) (λ_ _ wr=>N-wr.iterPos w.heap.size)
 exact⟨0,M0,World.iter_heap _ _ _,(gT _ _).alloc (ag _) _,F (by simp[World.iter]),λy hy=>by simp at hy⟩
 obtain⟨p,hp,B,HB,HL,P⟩:=hrel;by_cases hlt:p<N
 ·have f:∀ty,(Instr.next (.pointer (some ⟨w.heap.size,0,none⟩)) true ty).run prog wr=_:=λty=>Lib.run_next_any_at wr w.heap.size t p ty B.o (by omega)
  have J:p<l.length:=by have:=eM.o;omega
  rw[Q.o p]at f;have X:=aC J;rw[X]at f;have z:=nV l[p] (l.drop (p+1));have K:=Fs (l[p]::l.drop (p+1));have hlen:(l.drop (p+1)).length+1=N-p:=by rw[aj];have:=eM.o;omega
  have hasc:=λ(j:G l[p]<0x80)=>Zp (x:=l[p]) (l.drop (p+1)) j;have d:=λ(j:0x80<=G l[p])=>a3C (x:=l[p]) (l.drop (p+1)) j;have g:=XW l[p];have vH:=jL l[p];have hhit:=λ(j:nE l[p]=false)=>Qk J P.o j
  have htake:∀k,1<=k->(∀y∈(l[p]::l.drop (p+1)).take k,nE y=true)->∀y∈l.take (p+k),nE y=true:=by
   intro k _ h y hy;rw[<-X]at h;rw[List.take_add]at hy;rcases bO.mp hy with hy|hy
   ·exact P.o y hy
   exact h y hy
  obtain⟨rn,i,hD⟩:∃rn i,dr (l[p]::l.drop (p+1))=(rn,i):=⟨_,_,rfl⟩;rw[hD]at f z K hasc d;simp only at f z K d;have PD:=Lib.iterAt_heap wr w.heap.size t p (p+i) B.o;have ZE:=Lib.iterAt_size wr w.heap.size t (p+i);have IL:=Lib.below_iterAt (HB.o) (k:=w.heap.size) (ag _) t (p+i);obtain⟨wi,L⟩:=V (wr.iterAt w.heap.size t (p+i));rw[<-L]at PD ZE IL f;have hpos:wr.iterPos w.heap.size=p:=iterPos_of B.o;have hlt2:w.heap.size<wi.heap.size:=by rw[ZE];exact HL.o
  have M:=F PD;clear PD;have xt:=F IL;clear IL ZE;have Ke:=F hpos;clear hpos;have s:=F hlt2;clear L hD X B HB HL P hlt2;have hps:p+i<=N:=M0;by_cases j:G l[p]<0x80
  ·have e:=hasc j
   have e1:rn=l[p].toNat:=congrArg Prod.fst e;have D:i=1:=congrArg Prod.snd e;subst D;have r:(rn:Int)=G l[p]:=by rw[e1];rfl
   have c:=F<|λW=>a0j (rn:Int) W M0 M0;have uh:=F<|htake 1 (ag _);cases q:nE l[p]with
   |false =>
    have u:R=(p:Int):=by rw[HR.o];exact hhit q
    have n:¬(FW (rn:Int))<0:=by
     rw[g,<-r]at q;unfold FW;by_cases Y:(rn:Int)=101
     ·rw[ge Y];omega
     by_cases I:(rn:Int)=69
     ·rw[gc Y,ge I];omega
     simp[Y,I]at q
    subst u;generalize FW (rn:Int)=hv at c n;have PV:(0:Int)<=hv:=M0;clear hasc d hhit htake g q vH hlen z e e1 r j uh
    go_wp2_with(go_at_call 214;refine(c.o _).k λw2 a=>?_)
    go_ret;exact⟨rfl,xt.o.trans (a.o.m (xp s.o))⟩
   |true =>
    have n:FW (rn:Int)=-1:=by
     rw[g,<-r]at q;unfold FW;by_cases Y:(rn:Int)=101
     ·simp[Y]at q
     by_cases I:(rn:Int)=69
     ·simp[I]at q
     rw[gc Y,gc I]
    rw[n]at c;have YI:=F<|uh.o (λy hy=>by rw[dS.mp (show y ∈ [l[p]]from hy)];exact q);clear hasc d hhit htake g q vH hlen z e e1 r j uh n
    go_wp2_with(go_at_call 214;refine(c.o _).k λw2 a=>?_)
    go_roundw
    exact⟨p+1,M0,(a.o.block _ s.o).trans M.o,xt.o.trans (a.o.m (xp s.o)),aN s.o a.o.size,YI.o⟩
    ·have D:w2.iterPos w.heap.size=p+1:=iterPos_of ((a.o.block _ s.o).trans M.o);rw[D,Ke.o];omega
  obtain⟨Y,I⟩:=d M0
  have C:∀W,bF prog 214 #[.string ⟨#[101,69]⟩,.int .i32 rn] W (.int .i64 (-1)):=by
   intro W;rcases Y with Y|⟨Y,h3⟩
   ·subst Y;exact Qp W
   by_cases h4:rn=65533
   ·subst h4;exact Qp W
   exact a4X (rn:Int) W M0 M0 h3 M0
  have c:=F C
  have YI:=F<|htake i z.1 (λy hy=>by
   have:=I y hy;rw[XW];have a1:¬G y=101:=M0;have a2:¬G y=69:=M0;simp[a1,a2])
  have hn1:=z.1;clear hasc d hhit htake g vH hlen z j Y I C
  go_wp2_with(go_at_call 214;refine(c.o _).k λw2 a=>?_)
  go_roundw
  exact⟨p+i,M0,(a.o.block _ s.o).trans M.o,xt.o.trans (a.o.m (xp s.o)),aN s.o a.o.size,YI.o⟩
  ·have D:w2.iterPos w.heap.size=p+i:=iterPos_of ((a.o.block _ s.o).trans M.o);rw[D,Ke.o];omega
 obtain rfl:p=N:=M0;have f:∀ty,(Instr.next (.pointer (some ⟨w.heap.size,0,none⟩)) true ty).run prog wr=_:=λty=>Lib.run_next_end_at wr w.heap.size t p ty B.o M0
 have u:R=-1:=by
  rw[HR.o];refine Li λy hy=>P.o y ?_;rw[aP (by have:=eM.o;omega)];exact hy
 subst u;go_wp2_with fail;go_ret;exact⟨rfl,HB.o⟩
theorem Vn(l:O)(w:H)(hl:l.length<=1024000000):bF prog 215 #[.string (E l),.string (E [101,69])] w (.int .i64 (nF l)):=by
 by_cases c:l.length<=8
 ·exact Lj l w c
 have h116:(prog.info? (laysIA_ren.t 116)).map (λi=>(i.zero,i.size))=some (some (.agg (Array.replicate 256 (.bool false))),256):=Rz
 have h:=Any.strings_IndexAny_long laysIA (zero_of_info h116).1 (zero_of_info h116).2 (E l) (E [101,69]) w P8 (by rw[aF];omega) (by rw[aF];omega) (by decide)
  (ascii_of_all P8)
 rw[show(E l).data.toList=l from cW l,show(E [101,69]).data.toList=[101,69]from cW _,pF]at h;refine h.e ?_;refine⟨rfl,?_⟩;have a:∀o,Below w.heap.size w (w.alloc o):=λo=>(gT w.heap.size w).alloc (ag _) o;exact(a _).alloc (a _).size _

theorem ph{l:O}{n:Int}(h:dc l=some n):0<=n/\n<=9223372036854775807:=by
 have key:∀(l:O) (m v:Int),0<=m/\m<=9223372036854775807->kU m l=some v->0<=v/\v<=9223372036854775807:=by
  intro l
  induction l with
  |nil=>intro m v Y I;rw[kU]at I;cases I;exact Y
  |cons c t a =>
   intro m v Y I;rw[kU]at I
   split at I
   ·cases I
   next hd =>
   refine a _ v ?_ I;have:=Iy (G c)
   split <;>omega
 unfold dc at h
 split at h
 ·cases h
 exact key l 0 n M0 h
def Cs(s:O):O:=if s.head? = some 43 then s.drop 1 else s
theorem qP(s:O)(w:H)(z:s.length<=1024000000) :
  bP prog 216 #[.string (E s)] w (.tuple #[.int .i64 ((qO s).getD 0),.bool (qO s).isSome]):=by
 have c:=λW=>uW s [45] W;rw[hp1,tp1]at c;by_cases Y:s.head? = some 45
 ·have hcp2:∀W,bP prog 142 #[.string (E s),.string (E [45])] W (.tuple #[S (s.drop 1),.bool true]):=λW=>by
   have:=c W;rw[ge Y,gr Y]at this;exact this
  have y:=λW=>ki (s.drop 1) W (by rw[aj];omega);have r:qO s=if 4<(s.drop 1).length then none else(dc (s.drop 1)).map λn=>-n:=by unfold qO;rw[ge Y]
  rw[r];clear r c Y;have d:(s.drop 1).length<=1024000000:=by rw[aj];omega
  generalize s.drop 1=m at *;obtain⟨t,f,u,hu⟩:=ac (E s) (E m);have a:u.size=m.length:=by rw[hu,aF]
  have k:=fo (∀W,bP prog 142 #[.string t,.string ⟨#[45]⟩] W (.tuple #[.string u,.bool true])) (by rw[f,hu];exact hcp2);have l:=fo (∀W,bP prog 180 #[.string u] W (.tuple #[.int .i64 ((dc m).getD 0),.bool (dc m).isSome])) (by rw[hu];exact y);rw[<-f];clear hcp2 y f hu z;obtain⟨N,v⟩:=V (u.size);have j:u.size=N:=v.symm;rw[<-a,j];have C:N<=1024000000:=M0;clear v a d;by_cases q:4<N
  ·rw[ge q]
   have h:(4:Int)<(N:Int):=M0;go_enter func216,ntmps216
   go_wp2_with(go_at_call 142;refine(k.o _).e ?_)
   go_ret2
   exact⟨rfl,rfl⟩
  rw[gc q];have h:¬(4:Int)<(N:Int):=M0;cases x:dc m with
  |none =>
   have g:=fo (∀W,bP prog 180 #[.string u] W (.tuple #[.int .i64 0,.bool false])) (λW=>by have:=l.o W;rw[x]at this;exact this);clear x l;go_enter func216,ntmps216
   go_wp2_with(first|(go_at_call 142;refine(k.o _).e ?_)|(go_at_call 180;refine(g.o _).e ?_))
   go_ret2
   exact⟨rfl,rfl⟩
  |some n =>
   have hlim:=ph x;have hng:IntKind.i64.wrap (-n)=-n:=gS _ M0;have g:=fo (∀W,bP prog 180 #[.string u] W (.tuple #[.int .i64 n,.bool true])) (λW=>by have:=l.o W;rw[x]at this;exact this);clear x l;go_enter func216,ntmps216
   go_wp2_with(first|(go_at_call 142;refine(k.o _).e ?_)|(go_at_call 180;refine(g.o _).e ?_))
   go_ret2
   exact⟨rfl,rfl⟩
 have hcp2:∀W,bP prog 142 #[.string (E s),.string (E [45])] W (.tuple #[S s,.bool false]):=λW=>by
  have:=c W;rw[gc Y,gh Y]at this;exact this
 have i:=λW=>Sm s [43] W;rw[tp1]at i;have r:qO s=if 4<(Cs s).length then none else dc (Cs s):=by unfold qO Cs;rw[gc Y]
 have p:∀W,bP prog 129 #[.string (E s),.string (E [43])] W (S (Cs s)):=i
 have d:(Cs s).length<=1024000000:=by
  unfold Cs
  split
  ·rw[aj];omega
  exact z
 have y:=λW=>ki (Cs s) W d;rw[r];clear r c Y i;generalize Cs s=m at *;obtain⟨t,f,u,hu⟩:=ac (E s) (E m);have a:u.size=m.length:=by rw[hu,aF]
 obtain⟨k,B,l⟩:=cZ (show ∀W,bP prog 142 #[.string t,.string ⟨#[45]⟩] W (.tuple #[.string t,.bool false])from by rw[f];exact hcp2) (show ∀W,bP prog 129 #[.string t,.string ⟨#[43]⟩] W (.string u)from by rw[f,hu];exact p) (show ∀W,bP prog 180 #[.string u] W (.tuple #[.int .i64 ((dc m).getD 0),.bool (dc m).isSome])from by rw[hu];exact y);rw[<-f];clear hcp2 y p f hu z;obtain⟨N,v⟩:=V (u.size);have j:u.size=N:=v.symm;rw[<-a,j];have C:N<=1024000000:=M0;clear v a d;by_cases q:4<N
 ·rw[ge q]
  have h:(4:Int)<(N:Int):=M0;go_enter func216,ntmps216
  go_wp2_with(first|(go_at_call 142;refine(k.o _).e ?_)|(go_at_call 129;refine(B.o _).e ?_))
  go_ret2
  exact⟨rfl,rfl⟩
 rw[gc q];have h:¬(4:Int)<(N:Int):=M0;generalize dc m=R at *;go_enter func216,ntmps216
 go_wp2_with(first|(go_at_call 142;refine(k.o _).e ?_)|(go_at_call 129;refine(B.o _).e ?_)|(go_at_call 180;refine(l.o _).e ?_))
 go_ret2
 exact⟨rfl,rfl⟩

def sH(q:Bool)(p:Option (Int×Int)):Nat×Bool:=match p with
 |none=>(0,false)
 |some p=>(si ⟨q,p.1,p.2⟩,true)
def Cw(s:O):Nat×Bool:=match FJ s with
 |none=>(0,false)
 |some f=>(si f,true)
theorem UL(s:O):Cw s=sH (decide (s.head? = some 45)) (sf (if s.head? = some 45 then s.drop 1 else s)):=by
 unfold Cw FJ sH;by_cases h:s.head? = some 45
 ·rw[ge h,ge h,gr h]
  cases sf (s.drop 1) <;>rfl
 rw[gc h,gc h,gh h];cases sf s <;>rfl
theorem Sv{t:O}{e:UInt8}{u:O}(h:t.dropWhile nE=e::u):t.take (t.takeWhile nE).length=t.takeWhile nE/\t.drop ((t.takeWhile nE).length+1)=u/\(t.takeWhile nE).length<t.length:=by
 have c:t.takeWhile nE++t.dropWhile nE=t:=ez;rw[h]at c;generalize t.takeWhile nE=a at *;subst c;refine⟨ko rfl,?_,by rw[ae,cz];omega⟩;rw[show a++e::u=(a++[e])++u by simp];exact Xf Oc
theorem UN{x a w2:O}{pt:Bool}{m:Int}(h:bQ 46 x=(a,w2,pt)):Cx x m=if(pt=true/\w2=[])\/15<a.length+w2.length then none
 else match dc (a++w2)with
  |none=>none
  |some n=>if m-(w2.length:Int) < -22\/22<m-(w2.length:Int)then none else some (n,m-(w2.length:Int)):=by
 unfold Cx;simp only[h];rfl
theorem BS(c:UInt8):∀(s:O),(bQ c s).1.length+(bQ c s).2.1.length<=s.length
 | []=>ag _
 |x::r=>by
  have ih:=BS c r;unfold bQ
  split <;>(simp only[cz,aO];omega)
theorem JR{l:O}{n:Int}(h:dc l=some n)(f:l.length<=4):n<=9999:=by
 have key:∀(l:O) (m v:Int) (k:Nat),l.length=k->k<=4->0<=m->m<=10 ^ (4-k)-1->kU m l=some v->v<=9999:=by
  intro l
  induction l with
  |nil=>intro m v k Y I e d a;rw[kU]at a;cases a;simp at Y;subst Y;simpa using d
  |cons c t g =>
   intro m v k Y I e d a;rw[kU]at a;rw[cz]at Y
   split at a
   ·cases a
   next hd =>
   have hq:=Iy (G c)
   have hp:m<=9999:=by
    have:k=1\/k=2\/k=3\/k=4:=M0;rcases this with rfl|rfl|rfl|rfl <;>(simp at d;omega)
   rw[gc M0]at a;refine g _ v (k-1) M0 M0 M0 ?_ a;have:k=1\/k=2\/k=3\/k=4:=M0;rcases this with rfl|rfl|rfl|rfl <;>(simp at d⊢;omega)
 unfold dc at h
 split at h
 ·cases h
 exact key l 0 n l.length rfl f M0 (by
  have:l.length=0\/l.length=1\/l.length=2\/l.length=3\/l.length=4:=M0;rcases this with h|h|h|h|h <;>rw[h] <;>decide) h
theorem UC{s:O}{n:Int}(h:qO s=some n):-9999<=n/\n<=9999:=by
 have key:∀{l:O} {v:Int},(if 4<l.length then none else dc l)=some v->0<=v/\v<=9999:=by
  intro l v h
  split at h
  ·cases h
  next a=>exact⟨(ph h).1,JR h M0⟩
 unfold qO at h;by_cases Y:s.head? = some 45
 ·rw[ge Y]at h
  split at h
  ·cases h
  next a =>
  rw[cY]at h;obtain⟨v,I,rfl⟩:=h;have:=ph I;have:=JR I M0;omega
 rw[gc Y]at h;have:=key h;omega
theorem VG{P:Program}(W:H)(x:Nat):(Op.unary .neg (.float .f64 x)).run P W=.ok (.float .f64 (Op.negFloat .f64 x)) W:=rfl
theorem QW(n:Int){m:Int}(h:-22<=m/\m<=22)(W:H):bP prog 217 #[.float .f64 (floatOfInt .f64 n),.int .i64 m] W (.float .f64 (moveB (floatOfInt .f64 n) m)):=QX _ m W (a0i n) h.1 h.2
theorem La(s:O)(w:H)(hl:s.length<=1024000000)(hE:Env w) :
  bF prog 181 #[.string (E s)] w (.tuple #[.float .f64 (Cw s).1,.bool (Cw s).2]):=by
 rw[UL];have hcp:=λW=>uW s [45] W;rw[hp1,tp1]at hcp
 have B:(if s.head? = some 45 then s.drop 1 else s).length<=1024000000:=by
  split
  ·rw[aj];omega
  exact hl
 generalize (if s.head? = some 45 then s.drop 1 else s)=a at *;generalize decide (s.head? = some 45)=q at *;have hia:=λW=>Vn a W B;obtain⟨t0,ht0,t,C⟩:=ac (E s) (E a);have Ey:=fo (∀W,bP prog 142 #[.string t0,.string ⟨#[45]⟩] W (.tuple #[.string t,.bool q])) (by rw[ht0,C];exact hcp);have J:∀W,bF prog 215 #[.string t,.string ⟨#[101,69]⟩] W (.int .i64 (nF a)):=by rw[C];exact hia
 rw[<-ht0];clear hcp hia ht0 hl;have Z4:t.size=a.length:=by rw[C,aF]
 have hcase:(a.dropWhile nE=[])\/(∃e u,a.dropWhile nE=e::u/\qO u=none)\/(∃e u m,a.dropWhile nE=e::u/\qO u=some m):=by
  cases h:a.dropWhile nE with
  |nil=>exact .inl rfl
  |cons e u =>
   cases I:qO u with
   |none=>exact .inr (.inl ⟨e,u,rfl,I⟩)
   |some m=>exact .inr (.inr ⟨e,u,m,rfl,I⟩)
 rcases hcase with hA|⟨e0,u,hB,hB2⟩|⟨e0,u,M,hC,Q⟩
 case inr.inl =>
  have p:sH q (sf a)=(0,false):=by unfold sf;rw[hB];simp only[hB2];rfl
  rw[p];obtain⟨k1,D,k3⟩:=Sv hB;obtain⟨K,hK⟩:=V ((a.takeWhile nE).length);rw[<-hK]at k1 D k3;have g:nF a=(K:Int):=by unfold nF;rw[hB,gc Oc,hK]
  rw[g]at J;have Nf:u.length<=1024000000:=by rw[<-D,aj];omega
  have hex:=λW=>qP u W Nf;rw[hB2]at hex;obtain⟨N,hN⟩:=V (t.size);have P6:t.size=N:=hN.symm;obtain⟨K1,hK1e⟩:=V (K+1);have hcut:t.extract K1 N=E u:=by rw[hK1e,C,gn a (K+1) N M0,D]
  obtain⟨tu,z⟩:=V (E u);rw[<-z]at hcut hex;have Br:=F J;have MU:=F hex;have hKN:K<N:=M0;have oP:N<=1024000000:=M0;have hw1:IntKind.i64.wrap ((K:Int)+1)=(K1:Int):=by rw[gS _ M0];omega
  have hK1:K1<=N:=M0;clear hK1e;clear g J hex hB hB2 p k1 D k3 hK Nf z C Z4 B hN;go_enter func181,ntmps181
  go_wp2_with(first|(go_at_call 142;refine(Ey.o _).e ?_)|(go_at_call 215;refine(Br.o _).k λwi f=>?_)|(go_at_call 216;refine(MU.o _).e ?_))
  go_ret2
  exact⟨rfl,f.o⟩
 case' inl =>
  obtain⟨M,hM⟩:∃M:Int,M=0:=⟨0,rfl⟩;have Z1:-9999<=M/\M<=9999:=M0;have p:sH q (sf a)=sH q (Cx a M):=by unfold sf;rw[hA,hM]
  have HM0:=F hM;clear hM;have g:nF a=-1:=by unfold nF;rw[ge hA]
  rw[p];rw[g]at J;have Br:=F J;obtain⟨x,X,T,hT⟩:=ac (a) (t);have YJ:=F (show T=E x by rw[hT,X,C]);have a4S:x.length<=1024000000:=by rw[X];exact B
  rw[<-X];rw[<-hT]at Br Ey;clear p g J hA C Z4 B X hT;go_enter func181,ntmps181
  go_upto_region 9 with(first|(go_at_call 142;refine(Ey.o _).e ?_)|(go_at_call 215;refine(Br.o _).k λwi f=>?_))
 case' inr.inr =>
  obtain⟨k1,D,k3⟩:=Sv hC;have p:sH q (sf a)=sH q (Cx (a.takeWhile nE) M):=by unfold sf;rw[hC];simp only[Q]
  rw[p];obtain⟨x,X⟩:=V (a.takeWhile nE);rw[<-X]at k1 D k3⊢;obtain⟨K,hK⟩:=V (x.length);rw[<-hK]at k1 D k3;have g:nF a=(K:Int):=by unfold nF;rw[hC,gc Oc,<-X,hK]
  rw[g]at J;have Nf:u.length<=1024000000:=by rw[<-D,aj];omega
  have hex:=λW=>qP u W Nf;rw[Q]at hex;have Z1:=UC Q;obtain⟨N,hN⟩:=V (t.size);have P6:t.size=N:=hN.symm;obtain⟨K1,hK1e⟩:=V (K+1);have hcut:t.extract K1 N=E u:=by rw[hK1e,C,gn a (K+1) N M0,D]
  obtain⟨T,hT⟩:=V (E x);have b15:t.extract 0 K=T:=by rw[C,nY,k1,hT]
  have YJ:=F hT;obtain⟨tu,z⟩:=V (E u);rw[<-z]at hcut hex;have Br:=F J;have MU:=fo (∀W,bP prog 216 #[.string tu] W (.tuple #[.int .i64 M,.bool true])) hex;have hKN:K<N:=M0;have oP:N<=1024000000:=M0;have a4S:x.length<=1024000000:=M0;have hw1:IntKind.i64.wrap ((K:Int)+1)=(K1:Int):=by rw[gS _ M0];omega
  have hK1:K1<=N:=M0;clear hK1e;have hK0:K<=N:=M0;clear g J hex hC Q p k1 D k3 X hK Nf z C Z4 B hN hT;go_enter func181,ntmps181
  go_upto_region 9 with(first|(go_at_call 142;refine(Ey.o _).e ?_)|(go_at_call 215;refine(Br.o _).k λwi f=>?_)|(go_at_call 216;refine(MU.o _).e ?_))
 all_goals
  have hTx:=YJ.o;obtain⟨p1,p2,pt,hcut⟩:∃a b c,bQ 46 x=(a,b,c):=⟨_,_,_,rfl⟩;have hcl:=BS 46 x;rw[hcut]at hcl;simp only at hcl;have d:=UN (m:=M) hcut;have hsc:=λW (U:r7 w W)=>gK x [46] W a4S (hE.below U);rw[yI,hcut]at hsc;simp only at hsc;have lg:=λW=>ki (p1++p2) W (by rw[ae];omega);have t4:=mm p1 p2;obtain⟨U',hU⟩:=V (E (p1++p2));rw[<-hU]at lg t4;obtain⟨U1,R,v,y⟩:=ac (E p1) (E p2);have hs1:U1.size=p1.length:=by rw[R,aF]
  have hs2:v.size=p2.length:=by rw[y,aF]
  have hemp:v.toList=[] ↔ p2=[]:=by rw[y,aB]
  have rG:=fo (∀W,r7 w W->bF prog 72 #[.string T,.string ⟨#[46]⟩] W (.tuple #[.string U1,.string v,.bool pt])) (by rw[hTx,R,y];exact hsc);rw[<-R,<-y]at t4;clear hsc hU R y hcut hTx;obtain⟨N1,hN1,l,EQ⟩:=ac (U1.size) (v.size);have a9i:U1.size=N1:=hN1.symm;have a9j:v.size=l:=EQ.symm;rw[<-hs1,<-hs2,a9i,a9j]at d;have mc:N1<=1024000000/\l<=1024000000:=M0;have hsum:IntKind.i64.wrap ((N1:Int)+(l:Int))=(N1:Int)+(l:Int):=gS _ M0;have hcz:¬ 9223372036854775807<N1+l:=M0;have hcz2:¬ 9223372036854775807<U1.size+v.size:=M0;obtain⟨K,hK⟩:=V (M-(l:Int):Int);have hwk:IntKind.i64.wrap (M-(l:Int))=K:=by rw[hK];exact gS _ M0
  have a4O:IntKind.i64.wrap (-(l:Int))=-(l:Int):=gS _ M0;have a4P:M-(l:Int)=K:=hK.symm;rw[<-hK]at d
  try (have hM:=HM0.o;subst hM;have b41:-(l:Int)=K:=M0)
  clear hcl hs1 hs2 hN1 EQ hK;by_cases hz:pt=true/\p2=[]
  ·rw[ge (.inl hz)]at d
   obtain⟨rfl,hz2⟩:=hz;have he:=hemp.mpr hz2;have k:v.toList.isEmpty=true:=by simpa using he
   have r:=F<|congrArg (sH q) d;clear d hemp hz2 lg t4 hsum hcz hcz2 hwk a4O a4P
   go_wp2_with(go_at_call 72;refine(rG.o _ f.o).k λw5 U=>?_;have j:=F<|dw f.o U.o;clear U)
   all_goals
    go_ret2
    exact⟨by rw[r.o];rfl,j.o⟩
  have hpt:pt=false\/(pt=true/\p2 ≠ []):=by
   cases pt with
   |false=>exact .inl rfl
   |true=>exact .inr ⟨rfl,λh=>hz ⟨rfl,h⟩⟩
  have hpe:pt=true->(¬v.toList=[]/\v.toList.isEmpty=false):=λh=>by
   have Y:¬v.toList=[]:=λI=>hz ⟨h,hemp.mp I⟩;exact⟨Y,by simpa using Y⟩
  have FY:pt=false\/(pt=true/\¬v.toList=[]/\v.toList.isEmpty=false):=by
   rcases hpt with h|⟨h,_⟩
   ·exact .inl h
   exact .inr ⟨h,hpe h⟩
  clear hpe hpt hemp;by_cases UX:15<N1+l
  ·rw[ge (.inr UX)]at d
   have r:=F<|congrArg (sH q) d;have a80:(15:Int)<(N1:Int)+(l:Int):=M0;clear d hz lg t4 hwk a4O a4P UX;rcases FY with rfl|⟨rfl,he,k⟩ <;>
   ·go_wp2_with(go_at_call 72;refine(rG.o _ f.o).k λw5 U=>?_;have j:=F<|dw f.o U.o;clear U)
    all_goals
     go_ret2
     exact⟨by rw[r.o];rfl,j.o⟩
  rw[gc (λh=>h.elim hz UX)]at d;have a80:¬(15:Int)<(N1:Int)+(l:Int):=M0;clear hz UX;cases p:dc (p1++p2)with
  |none =>
   rw[p]at d lg;have pP:=fo (∀W,bP prog 180 #[.string U'] W (.tuple #[.int .i64 0,.bool false])) lg;have r:=F<|congrArg (sH q) d;clear d lg p;rcases FY with rfl|⟨rfl,he,k⟩ <;>
   ·go_wp2_with(first|(go_at_call 72;refine(rG.o _ f.o).k λw5 U=>?_;have j:=F<|dw f.o U.o;clear U)|(go_at_call 180;refine(pP.o _).e ?_))
    all_goals
     go_ret2
     exact⟨by rw[r.o];rfl,j.o⟩
  |some n =>
   rw[p]at d lg;simp only at d;have pP:=fo (∀W,bP prog 180 #[.string U'] W (.tuple #[.int .i64 n,.bool true])) lg;have hn0:=ph p;clear lg p;by_cases hr:K < -22\/22<K
   ·rw[ge hr]at d
    have r:=F<|congrArg (sH q) d;clear d;rcases hr with Y|Y
    ·rcases FY with rfl|⟨rfl,he,k⟩ <;>
     ·go_wp2_with(first|(go_at_call 72;refine(rG.o _ f.o).k λw5 U=>?_;have j:=F<|dw f.o U.o;clear U)|(go_at_call 180;refine(pP.o _).e ?_))
      all_goals
       go_ret2
       exact⟨by rw[r.o];rfl,j.o⟩
    have I:¬K < -22:=M0;rcases FY with rfl|⟨rfl,he,k⟩ <;>
    ·go_wp2_with(first|(go_at_call 72;refine(rG.o _ f.o).k λw5 U=>?_;have j:=F<|dw f.o U.o;clear U)|(go_at_call 180;refine(pP.o _).e ?_))
     all_goals
      go_ret2
      exact⟨by rw[r.o];rfl,j.o⟩
   rw[gc hr]at d;have I:¬K < -22:=M0;have h3:¬(22:Int)<K:=M0;have L:=F<|λW=>QW n (m:=K) M0 W;have r:=fo (sH q _=(si ⟨q,n,K⟩,true)) (congrArg (sH q) d);clear d hr;obtain⟨F',hF⟩:=V (moveB (floatOfInt .f64 n) K);rw[<-hF]at L;have hfl:si ⟨q,n,K⟩=if q=true/\n≠0 then Op.negFloat .f64 F' else F':=by unfold si;rw[hF]
   have zD:=F hfl;clear hfl hF;cases q with
   |false =>
    rcases FY with rfl|⟨rfl,he,k⟩ <;>
    ·go_wp2_with(first|(go_at_call 72;refine(rG.o _ f.o).k λw5 U=>?_;have j:=F<|dw f.o U.o;clear U)|(go_at_call 180;refine(pP.o _).e ?_)|(go_at_call 217;refine(L.o _).e ?_))
     all_goals
      go_ret2
      exact⟨by rw[r.o,zD.o,gc Oc];rfl,j.o⟩
   |true =>
    by_cases hn:n=0
    ·subst hn
     rcases FY with rfl|⟨rfl,he,k⟩ <;>
     ·go_wp2_with(first|(go_at_call 72;refine(rG.o _ f.o).k λw5 U=>?_;have j:=F<|dw f.o U.o;clear U)|(go_at_call 180;refine(pP.o _).e ?_)|(go_at_call 217;refine(L.o _).e ?_))
      all_goals
       go_ret2
       exact⟨by rw[r.o,zD.o,gc Oc];rfl,j.o⟩
    have hnb:(n != 0)=true:=by simpa using hn
    have hng:=λ(W:H)=>VG (P:=prog) W F';have xm:=F hn;rcases FY with rfl|⟨rfl,he,k⟩ <;>
    ·go_wp2_with(first|(go_at_call 72;refine(rG.o _ f.o).k λw5 U=>?_;have j:=F<|dw f.o U.o;clear U)|(go_at_call 180;refine(pP.o _).e ?_)|(go_at_call 217;refine(L.o _).e ?_))
     all_goals
      go_ret2
      exact⟨by rw[r.o,zD.o,ge (by simpa using xm.o)];rfl,j.o⟩

def bA(wv:Z)(c:dk):Array Z:=#[S c.url,wv,.bool c.hw,.int .i64 c.w,.bool c.hh,.int .i64 c.h,.bool c.hd,.float .f64 c.d]
theorem Vv{l:O}(h:l ≠ []):∃m x,l=m++[x]:=⟨l.dropLast,l.getLast h,(ip h).symm⟩
theorem G9(c:dk)(m:O)(x:UInt8):ni c (m++[x])=if x=119 then(match dc m with
   |none=>none
   |some n=>if n<1\/c.hw=true\/c.hd=true then none else some {c with hw:=true,w:=n})
  else if x=104 then(match dc m with
   |none=>none
   |some n=>if n<1\/c.hh=true\/c.hd=true then none else some {c with hh:=true,h:=n})
  else if x=120 then(match FJ m with
   |none=>none
   |some f=>if geB (si f)=false\/c.hw=true\/c.hh=true\/c.hd=true then none else some {c with hd:=true,d:=si f})
  else none:=by
 unfold ni;rw[Bi];dsimp only;rw[c74];rfl
theorem BH(x:UInt8)(k:Nat)(h:k<256):(G x=(k:Int)) ↔ x=UInt8.ofNat k:=by
 constructor
 ·intro e
  have:x.toNat=k:=by unfold G at e;omega
  rw[<-this,dN]
 rintro rfl;unfold G;rw[cF h]
theorem DB{P:Program}(W:H)(a:Addr)(b:Nat)(m:Mode):(store a (.float .f64 b) m).run P W=stored P W a (.float .f64 b) m:=run_store P W a _ m rfl
theorem Sh(g:Nat)(wv:Z)(c:dk)(word:O)(w:H)(hl:word.length<=1024000000)(i:CB w g 101 (bA wv c))(hE:Env w) :
  Calls prog 138 #[.pointer (some ⟨g,0,none⟩),.string (E word)] w λe w' =>
   e=.returned (.bool (ni c word).isSome)/\CB w' g 101 (bA wv ((ni c word).getD c))/\Fk (λj=>j=g) w w':=by
 by_cases h0:word=[]
 ·subst h0
  have s:=F i;obtain⟨t,ht⟩:=V (E []);have he:t.toList=[]:=by rw[ht,aB]
  have he1:t.toList.isEmpty=true:=by rw[he];rfl
  rw[<-ht];clear ht i hE hl;go_enter func138,ntmps138;go_wp2_with fail;go_ret;exact⟨rfl,s.o,Fk.refl _ _⟩
 obtain⟨m,x,rfl⟩:=Vv h0;obtain⟨R,k⟩:=V (ni c (m++[x]));rw[<-k];rw[G9]at k;obtain⟨K,hK⟩:=V (m.length);rw[ae,dq,<-hK]at hl;obtain⟨t,ht⟩:=V (E (m++[x]));have hsz:t.size=K+1:=by rw[ht,aF,ae,hK];rfl
 have mf:K<t.size:=M0
 have X:((t[K]'mf).toNat:Int)=G x:=by
  rw[cy ht mf (by rw[ae,<-hK];simp)];simp[hK]
 have hex:t.extract 0 K=E m:=by rw[ht,nY,hK,ko rfl]
 have he:¬t.toList=[]:=by rw[ht,aB];simp
 have he1:t.toList.isEmpty=false:=by simpa using he
 obtain⟨u,HUM⟩:=ey (E m);rw[<-HUM.o]at hex;rw[<-ht];clear ht h0;obtain⟨N,hN⟩:=V (t.size);have P6:t.size=N:=hN.symm;have hw1:IntKind.i64.wrap ((N:Int)-1)=(K:Int):=by rw[gS _ M0];omega
 have hKN:K<=N:=M0;have oP:N<=1024000000:=M0;have hKm:m.length<=1024000000:=M0;have Lx:=BH x 119 M0;have Lw:=BH x 104 M0;have Ly:=BH x 120 M0;clear hsz hN hl hK;have s:=F i;have f2:=i.vz 2;have f3:=i.vz 3;have f4:=i.vz 4;have f5:=i.vz 5;have f6:=i.vz 6;have f7:=i.vz 7;have c2:=i.aE (j:=2) (v:=.bool c.hw) rfl;have c3:=i.aE (j:=3) (v:=.int .i64 c.w) rfl;have c4:=i.aE (j:=4) (v:=.bool c.hh) rfl;have c5:=i.aE (j:=5) (v:=.int .i64 c.h) rfl;have c6:=i.aE (j:=6) (v:=.bool c.hd) rfl;have c7:=i.aE (j:=7) (v:=.float .f64 c.d) rfl;clear i;by_cases h119:x=119
 ·rw[ge h119]at k
  have hX:G x=119:=Lx.mpr (by rw[h119];rfl);rw[hX]at X;clear Lx Lw Ly hX h119;have D:=λW=>ki m W hKm;rw[<-HUM.o]at D;cases C:dc m with
  |none =>
   rw[C]at k D;have M:=fo (∀W,bP prog 180 #[.string u] W (.tuple #[.int .i64 0,.bool false])) D;have p:=fo (R=none) k;clear k D C hE;go_enter func138,ntmps138
   go_wp2_with(go_at_call 180;refine(M.o _).e ?_)
   go_ret;rw[p.o];exact⟨rfl,s.o,Fk.refl _ _⟩
  |some n =>
   rw[C]at k D;have M:=fo (∀W,bP prog 180 #[.string u] W (.tuple #[.int .i64 n,.bool true])) D;replace k:R=if n<1\/c.hw=true\/c.hd=true then none else some {c with hw:=true,w:=n}:=k;clear D C hE;by_cases hn:n<1
   ·have p:=F (show R=none by rw[k,ge (.inl hn)])
    clear k;go_enter func138,ntmps138
    go_wp2_with(go_at_call 180;refine(M.o _).e ?_)
    go_ret;rw[p.o];exact⟨rfl,s.o,Fk.refl _ _⟩
   cases q:c.hw with
   |true =>
    rw[q]at c2;have p:=F (show R=none by rw[k,ge (.inr (.inl q))]);clear k q;go_enter func138,ntmps138
    go_wp2_with(go_at_call 180;refine(M.o _).e ?_)
    go_ret;rw[p.o];exact⟨rfl,s.o,Fk.refl _ _⟩
   |false =>
    rw[q]at c2;cases Q:c.hd with
    |true =>
     rw[Q]at c6;have p:=F (show R=none by rw[k,ge (.inr (.inr Q))]);clear k q Q;go_enter func138,ntmps138
     go_wp2_with(go_at_call 180;refine(M.o _).e ?_)
     go_ret;rw[p.o];exact⟨rfl,s.o,Fk.refl _ _⟩
    |false =>
     rw[Q]at c6;have p:=F (show R=some {c with hw:=true,w:=n} by rw[k,gc (by rw[q,Q];simpa using hn)]);clear k q Q;go_enter func138,ntmps138
     go_wp2_with(go_at_call 180;refine(M.o _).e ?_)
     go_ret;rw[p.o];exact⟨rfl,(s.o.set 2 (.bool true)).set 3 (.int .i64 n),(Fk.set (J:=λj=>j=g) s.o 2 _ rfl).trans (Fk.set (J:=λj=>j=g) (s.o.set 2 _) 3 _ rfl)⟩
 rw[gc h119]at k
 have n119:(G x==119)=false:=by
  rw[beq_eq_false_iff_ne];exact λh=>h119 (Lx.mp h)
 by_cases FP:x=104
 ·rw[ge FP]at k
  have hX:G x=104:=Lw.mpr (by rw[FP];rfl);rw[hX]at X;clear Lx Lw Ly hX h119 FP n119;have D:=λW=>ki m W hKm;rw[<-HUM.o]at D;cases C:dc m with
  |none =>
   rw[C]at k D;have M:=fo (∀W,bP prog 180 #[.string u] W (.tuple #[.int .i64 0,.bool false])) D;have p:=fo (R=none) k;clear k D C hE;go_enter func138,ntmps138
   go_wp2_with(go_at_call 180;refine(M.o _).e ?_)
   go_ret;rw[p.o];exact⟨rfl,s.o,Fk.refl _ _⟩
  |some n =>
   rw[C]at k D;have M:=fo (∀W,bP prog 180 #[.string u] W (.tuple #[.int .i64 n,.bool true])) D;replace k:R=if n<1\/c.hh=true\/c.hd=true then none else some {c with hh:=true,h:=n}:=k;clear D C hE;by_cases hn:n<1
   ·have p:=F (show R=none by rw[k,ge (.inl hn)])
    clear k;go_enter func138,ntmps138
    go_wp2_with(go_at_call 180;refine(M.o _).e ?_)
    go_ret;rw[p.o];exact⟨rfl,s.o,Fk.refl _ _⟩
   cases q:c.hh with
   |true =>
    rw[q]at c4;have p:=F (show R=none by rw[k,ge (.inr (.inl q))]);clear k q;go_enter func138,ntmps138
    go_wp2_with(go_at_call 180;refine(M.o _).e ?_)
    go_ret;rw[p.o];exact⟨rfl,s.o,Fk.refl _ _⟩
   |false =>
    rw[q]at c4;cases Q:c.hd with
    |true =>
     rw[Q]at c6;have p:=F (show R=none by rw[k,ge (.inr (.inr Q))]);clear k q Q;go_enter func138,ntmps138
     go_wp2_with(go_at_call 180;refine(M.o _).e ?_)
     go_ret;rw[p.o];exact⟨rfl,s.o,Fk.refl _ _⟩
    |false =>
     rw[Q]at c6;have p:=F (show R=some {c with hh:=true,h:=n} by rw[k,gc (by rw[q,Q];simpa using hn)]);clear k q Q;go_enter func138,ntmps138
     go_wp2_with(go_at_call 180;refine(M.o _).e ?_)
     go_ret;rw[p.o];exact⟨rfl,(s.o.set 4 (.bool true)).set 5 (.int .i64 n),(Fk.set (J:=λj=>j=g) s.o 4 _ rfl).trans (Fk.set (J:=λj=>j=g) (s.o.set 4 _) 5 _ rfl)⟩
 rw[gc FP]at k
 have n104:(G x==104)=false:=by
  rw[beq_eq_false_iff_ne];exact λh=>FP (Lw.mp h)
 by_cases Lc:x=120
 ·rw[ge Lc]at k
  have hX:G x=120:=Ly.mpr (by rw[Lc];rfl);rw[hX]at X;clear Lx Lw Ly hX h119 FP Lc n119 n104;have z:=La m w hKm hE;rw[<-HUM.o]at z;clear hE;cases C:FJ m with
  |none =>
   have T:Cw m=(0,false):=by unfold Cw;rw[C]
   rw[C]at k;rw[T]at z;have zD:=fo (bF prog 181 #[.string u] w (.tuple #[.float .f64 0,.bool false])) z;have p:=fo (R=none) k;clear k z C T;go_enter func138,ntmps138
   go_wp2_with(go_at_call 181;refine(zD.o).k λr j8=>?_;have l:=F<|s.o.keep j8.o;have d2:=l.o.aE (j:=2) (v:=.bool c.hw) rfl;have d4:=l.o.aE (j:=4) (v:=.bool c.hh) rfl;have d6:=l.o.aE (j:=6) (v:=.bool c.hd) rfl;have d7:=l.o.aE (j:=7) (v:=.float .f64 c.d) rfl;have g6:=l.o.vz 6;have g7:=l.o.vz 7)
   go_ret;rw[p.o];exact⟨rfl,l.o,Fk.of_below j8.o⟩
  |some f =>
   have T:Cw m=(si f,true):=by unfold Cw;rw[C]
   rw[C]at k;rw[T]at z;obtain⟨B,hB⟩:=V (si f);replace k:R=if geB (si f)=false\/c.hw=true\/c.hh=true\/c.hd=true then none else some {c with hd:=true,d:=si f}:=k;rw[<-hB]at z k;have zD:=fo (bF prog 181 #[.string u] w (.tuple #[.float .f64 B,.bool true])) z;clear z C T hB;cases y:geB B with
   |false =>
    have p:=F (show R=none by rw[k,ge (.inl y)]);have PV:(FloatKind.f64.format.order B 0==some .gt||FloatKind.f64.format.order B 0==some .eq)=false:=y;clear k y;go_enter func138,ntmps138
    go_wp2_with(go_at_call 181;refine(zD.o).k λr j8=>?_;have l:=F<|s.o.keep j8.o;have d2:=l.o.aE (j:=2) (v:=.bool c.hw) rfl;have d4:=l.o.aE (j:=4) (v:=.bool c.hh) rfl;have d6:=l.o.aE (j:=6) (v:=.bool c.hd) rfl;have d7:=l.o.aE (j:=7) (v:=.float .f64 c.d) rfl;have g6:=l.o.vz 6;have g7:=l.o.vz 7)
    go_ret;rw[p.o];exact⟨rfl,l.o,Fk.of_below j8.o⟩
   |true =>
    have PV:(FloatKind.f64.format.order B 0==some .gt||FloatKind.f64.format.order B 0==some .eq)=true:=y;cases L:c.hw with
    |true =>
     have p:=F (show R=none by rw[k,ge (.inr (.inl L))]);have a4e:=PV;clear k y;go_enter func138,ntmps138
     go_wp2_with(go_at_call 181;refine(zD.o).k λr j8=>?_;have l:=F<|s.o.keep j8.o;have d2:=l.o.aE (j:=2) (v:=.bool c.hw) rfl;have d4:=l.o.aE (j:=4) (v:=.bool c.hh) rfl;have d6:=l.o.aE (j:=6) (v:=.bool c.hd) rfl;have d7:=l.o.aE (j:=7) (v:=.float .f64 c.d) rfl;have g6:=l.o.vz 6;have g7:=l.o.vz 7;rw[L]at d2)
     go_ret;rw[p.o];exact⟨rfl,l.o,Fk.of_below j8.o⟩
    |false =>
     cases hhh:c.hh with
     |true =>
      have p:=F (show R=none by rw[k,ge (.inr (.inr (.inl hhh)))]);have a4e:=PV;clear k y;go_enter func138,ntmps138
      go_wp2_with(go_at_call 181;refine(zD.o).k λr j8=>?_;have l:=F<|s.o.keep j8.o;have d2:=l.o.aE (j:=2) (v:=.bool c.hw) rfl;have d4:=l.o.aE (j:=4) (v:=.bool c.hh) rfl;have d6:=l.o.aE (j:=6) (v:=.bool c.hd) rfl;have d7:=l.o.aE (j:=7) (v:=.float .f64 c.d) rfl;have g6:=l.o.vz 6;have g7:=l.o.vz 7;rw[L]at d2;rw[hhh]at d4)
      go_ret;rw[p.o];exact⟨rfl,l.o,Fk.of_below j8.o⟩
     |false =>
      cases hhd:c.hd with
      |true =>
       have p:=F (show R=none by rw[k,ge (.inr (.inr (.inr hhd)))]);have a4e:=PV;clear k y;go_enter func138,ntmps138
       go_wp2_with(go_at_call 181;refine(zD.o).k λr j8=>?_;have l:=F<|s.o.keep j8.o;have d2:=l.o.aE (j:=2) (v:=.bool c.hw) rfl;have d4:=l.o.aE (j:=4) (v:=.bool c.hh) rfl;have d6:=l.o.aE (j:=6) (v:=.bool c.hd) rfl;have d7:=l.o.aE (j:=7) (v:=.float .f64 c.d) rfl;have g6:=l.o.vz 6;have g7:=l.o.vz 7;rw[L]at d2;rw[hhh]at d4;rw[hhd]at d6)
       go_ret;rw[p.o];exact⟨rfl,l.o,Fk.of_below j8.o⟩
      |false =>
       have hsf:=λ(W:H) (a:Addr) (m:Mode)=>DB (P:=prog) W a B m;have p:=F (show R=some {c with hd:=true,d:=B} by rw[k,gc (by rw[y,L,hhh,hhd];simp)]);clear k y;go_enter func138,ntmps138
       go_wp2_with(go_at_call 181;refine(zD.o).k λr j8=>?_;have l:=F<|s.o.keep j8.o;have d2:=l.o.aE (j:=2) (v:=.bool c.hw) rfl;have d4:=l.o.aE (j:=4) (v:=.bool c.hh) rfl;have d6:=l.o.aE (j:=6) (v:=.bool c.hd) rfl;have d7:=l.o.aE (j:=7) (v:=.float .f64 c.d) rfl;have g6:=l.o.vz 6;have g7:=l.o.vz 7;rw[L]at d2;rw[hhh]at d4;rw[hhd]at d6)
       go_ret;rw[p.o];exact⟨rfl,(l.o.set 6 (.bool true)).set 7 (.float .f64 B),(Fk.of_below j8.o).trans ((Fk.set (J:=λj=>j=g) l.o 6 _ rfl).trans (Fk.set (J:=λj=>j=g) (l.o.set 6 _) 7 _ rfl))⟩
 rw[gc Lc]at k
 have n120:(G x==120)=false:=by
  rw[beq_eq_false_iff_ne];exact λh=>Lc (Ly.mp h)
 have p:=F k;generalize G x=X' at X n119 n104 n120;clear k Lx Lw Ly h119 FP Lc hE;go_enter func138,ntmps138;go_wp2_with fail;go_ret;rw[p.o];exact⟨rfl,s.o,Fk.refl _ _⟩

theorem b7L(wv:Z)(c:dk):(bA wv c).size=8:=rfl
theorem nP:(prog.info? 101).map (·.size)=some 8:=Rz
theorem Ir{wv:Z}{c:dk}(h:wv.oneCell'=true):∀v∈(bA wv c).toList,v.oneCell'=true:=by
 intro v a;simp only[bA,aK,cV,or_false]at a;rcases a with rfl|rfl|rfl|rfl|rfl|rfl|rfl|rfl
 all_goals first|rfl|exact h
theorem Kh(w:H):(Instr.alloc 101 true (Value.tuple #[])).run prog w=.ok (.pointer (some ⟨w.heap.size,0,none⟩)) (w.alloc (.cells (bA aI C0) 101)):=Rz
theorem zS{f:Func}{k m:Nat}(g:f.results=#[.cell k 101,.tmp m]){tmps:Array Z}{b:Nat}{wv:Z}{c:dk}{q:Bool}{Post:Ending->H->Prop}
  (h:tmps.getD k undef=.pointer (some ⟨b,0,none⟩)) (hm:tmps.getD m undef=.bool q) (i:CB w2 b 101 (bA wv c)) (e:Post (.returned (.tuple #[.agg (bA wv c),.bool q])) w2) :
  bodyPost prog f Post Exit.ret {tmps:=tmps,defers:=[]} w2:=by
 have a:tmps[k]?.getD undef=.pointer (some ⟨b,0,none⟩):=by simpa using h
 have d:tmps[m]?.getD undef=.bool q:=by simpa using hm
 have j:=i.load (P:=prog) 101 _ underlying101 rfl nP;refine bodyPost_ret (v:=.tuple #[.agg (bA wv c),.bool q]) ?_ rfl e;simp[results,g,asAddr,a,d,j]
theorem Un(e wv:Z)(a c:dk):ua (bA e a) 0 (bA wv c).toList=bA wv c:=mQ [S a.url,e,.bool a.hw,.int .i64 a.w,.bool a.hh,.int .i64 a.h,.bool a.hd,.float .f64 a.d] [S c.url,wv,.bool c.hw,.int .i64 c.w,.bool c.hh,.int .i64 c.h,.bool c.hd,.float .f64 c.d] Oc
theorem Xv(wv:Z)(c:dk):(bA wv c).toList.length=8:=rfl
section
variable {ops:Array Oper} {rest:List Oper} {o:Oper} {a:Act} {w:H} {Q:Exit->Act->H->Prop}
theorem Jy(e:o.guard=none)(x y:Operand)(g:o.op=.store 101 x y)(w0:H)(b:Nat){f:Z}{d:dk}(i:OB w0 b 101 (bA f d) w)(wv:Z)(c:dk)(Y:wv.oneCell'=true)
  (X:a.eval x=.pointer (some ⟨b,0,none⟩)) (hy:a.eval y=.agg (bA wv c))
  (K:∀w',OB w0 b 101 (bA wv c) w'->Tn b w w'->wpList prog ops Q rest (a.put o.dst undef) w'):wpList prog ops Q (o::rest) a w :=
 rh e _ x y g w0 b 101 (bA f d) i 0 (bA wv c).toList X hy (by rw[Xv,b7L];omega) (by rw[Xv];exact nP) (Ir Y) (bA wv c) (Un f wv d c) K
theorem Au(d:Region.wanted o (yielded ops a.tmps)=true)(x:Operand)(e:o.op=.load 101 x)(b:Nat)(wv:Z)(c:dk)(i:CB w b 101 (bA wv c))(X:a.eval x=.pointer (some ⟨b,0,none⟩))
  (K:wpList prog ops Q rest (a.put o.dst (.agg (bA wv c))) w):wpList prog ops Q (o::rest) a w :=
 vR d _ x e b (bA wv c) _ underlying101 rfl nP X i K
end
theorem Fk.BM{B g:Nat}{w:H}(h:Fk (λj=>j=g) w w')(hB:B<=g)(hw:B<=w.heap.size):Below B w w' :=
 ⟨h.os,h.tape,h.output,h.s,λj c=>h.k j (aN c hw) (λe=>M0)⟩
def a1Z(w:H):Option dk->Ending->H->Prop
 |none,e,w'=>e=.returned (.tuple #[.agg (bA aI C0),.bool false])/\r7 w w'
 |some c,e,w'=>∃wv,e=.returned (.tuple #[.agg (bA wv c),.bool true])/\w'.ownsRow w.heap.size 9 1 wv c.words.length (Strs c.words)/\r7 w w'
theorem Sg{ws:List O}{k:Nat}(c:dk)(h:k<ws.length):lU c (ws.drop k)=match ni c ws[k]with
  |none=>none
  |some d=>lU d (ws.drop (k+1)):=by
 rw[aC h];rfl
def OF(ws:List O):Option dk->Option dk
 |none=>none
 |some c=>if c.hh=true/\c.hw=false then none else some {c with words:=ws}
theorem Zl(ws:List O):jM ws=OF ws (lU C0 ws):=by
 unfold jM OF;cases lU C0 ws <;>rfl
theorem qJ(ws:List O)(v:Z)(w:H)(h:Sl w.heap.size w v (ws.map S))(hn:ws.length<=1024000000)(X:∀x∈ws,x.length<=1024000000)(hE:Env w) :
  Calls prog 91 #[v] w (a1Z w (jM ws)):=by
 obtain⟨R,hR⟩:=V (lU C0 ws);have hd:jM ws=OF ws R:=by rw[hR];exact Zl ws
 obtain⟨P,hP⟩:=V (jM ws);rw[<-hP]at hd⊢;obtain⟨HR,HD,HS,HX,HE,xl⟩:=ee hR hd h X hE (λW (U:r7 w W)=>fQ ws v W ((h.below U).more U.size) hn);obtain⟨av,cv,hv⟩:=cQ h;subst hv;obtain⟨n,s⟩:=V (ws.length);have xm:=F s;rw[ay,<-s];rw[ay,<-s]at HS xl;rw[<-s]at hn;clear hR hd X hE h hP s;go_enter func91,ntmps91
 go_upto_region 1 with(refine aM rfl 101 rfl _ _ (Kh _) ?_)
 have l:=F<|CB.new w 101 (bA aI C0);have L:=F<|(gT w.heap.size w).alloc (ag _) (.cells (bA aI C0) 101);generalize w.alloc (.cells (bA aI C0) 101)=w1 at l L⊢
 go_upto_region 2 with(refine aM rfl 101 rfl _ _ (Kh _) ?_)
 have q:=F<|CB.new w1 101 (bA aI C0);have B1:=F<|(gT w1.heap.size w1).alloc (ag _) (.cells (bA aI C0) 101);obtain⟨g,hg⟩:=V (w1.heap.size);rw[<-hg]at q⊢;generalize w1.alloc (.cells (bA aI C0) 101)=w2 at q B1⊢;obtain⟨g0,hg0⟩:=V (w.heap.size);rw[<-hg0]at l⊢;have M:=F<|l.o.keep B1.o
 have r:=fo (g0≠g/\w.heap.size<=g0/\w.heap.size<=g/\w.heap.size=g0) (by
  have:=l.o.lt;have:=L.o.size;omega)
 have B2:=F<|L.o.trans (B1.o.m (by have:=L.o.size;exact this));clear hg hg0 l L B1;go_wp2_with fail
 go_loopw [9] (λiv wr=>∃(k:Nat) (c:dk),k<=n/\iv=.int .i64 k/\Hid (lU c (ws.drop k)=R)/\Hid (CB wr g 101 (bA aI c))/\Hid (CB wr g0 101 (bA aI C0))/\Hid (r7 w wr)) (λi _=>n-(intOf i).toNat)
 exact⟨0,C0,M0,Oc,HR.o.symm,q.o,M.o,B2.o⟩
 clear q M B2;obtain⟨k,c,hk,rfl,HT,q,l,HB⟩:=hrel;by_cases hlt:k<n
 ·have D:k<ws.length:=by rw[<-xm.o];exact hlt
  obtain⟨b,o,hva,U,hcell⟩:=gO (HS.o.below HB.o) k D;have d:=Sg c D;rw[HT.o]at d;have hxl:=HX.o ws[k] (be D);have f:=Sh g aI c ws[k] wr hxl q.o (HE.o.below HB.o);subst hva;generalize ws[k]=x at hcell d f;obtain⟨t,ht⟩:=V (E x);have hcell2:wr.cell? ⟨b,o+k,none⟩=some (.string t):=by rw[ht];exact hcell
  rw[<-ht]at f;clear hcell ht hxl;cases hq:ni c x with
  |none =>
   rw[hq]at f d;have uh:=fo (Calls prog 138 #[.pointer (some ⟨g,0,none⟩),.string t] wr λe w'=>e=.returned (.bool false)/\CB w' g 101 (bA aI c)/\Fk (λj=>j=g) wr w') f;have K:=F (show P=none by rw[HD.o,d];rfl);clear f d hq
   go_wp2_with(first|(go_at_call 138;refine uh.o.m ?_;rintro e w5⟨rfl,_,C⟩;have I0:=F<|OB.of (w0:=w) (C.cb l.o r.o.1) r.o.2.1 (HB.o.trans (C.BM r.o.2.2.1 HB.o.size));clear C)|(refine Jy rfl 2 16 rfl w g0 I0.o aI C0 rfl rfl rfl ?_;intro w6 p _;have y:=F p;clear p))
   rw[K.o];exact zS results91 rfl rfl ⟨y.o.a⟩ ⟨rfl,y.o.bL⟩
  |some c' =>
   rw[hq]at f d;have uh:=fo (Calls prog 138 #[.pointer (some ⟨g,0,none⟩),.string t] wr λe w'=>e=.returned (.bool true)/\CB w' g 101 (bA aI c')/\Fk (λj=>j=g) wr w') f;have HT2:=fo (lU c' (ws.drop (k+1))=R) d.symm;clear f d hq
   go_wp2_with(go_at_call 138;refine uh.o.m ?_;rintro e w5⟨rfl,hc,C⟩;obtain⟨N,I0,gD⟩:=cZ hc (C.cb l.o r.o.1) (HB.o.trans (C.BM r.o.2.2.1 HB.o.size));clear C hc)
   go_roundw
   exact⟨k+1,c',M0,Oc,HT2.o,N.o,I0.o,gD.o⟩
   exact aa
 obtain rfl:k=n:=M0
 have z:R=some c:=by
  have:=HT.o;rw[bE (by rw[xm.o];exact ag _)]at this;exact this.symm
 have c4:=q.o.aE (j:=4) (v:=.bool c.hh) rfl;have c2:=q.o.aE (j:=2) (v:=.bool c.hw) rfl;by_cases J:c.hh=true/\c.hw=false
 ·have K:=F (show P=none by rw[HD.o,z];exact ge J)
  rw[J.1]at c4;rw[J.2]at c2;have I0:=F<|OB.of (w0:=w) l.o r.o.2.1 HB.o;clear z J
  go_wp2_with(refine Jy rfl 2 25 rfl w g0 I0.o aI C0 rfl rfl rfl ?_;intro w6 p _;have y:=F p;clear p)
  rw[K.o];exact zS results91 rfl rfl ⟨y.o.a⟩ ⟨rfl,y.o.bL⟩
 have K:=F (show P=some {c with words:=ws} by rw[HD.o,z];exact gc J)
 have hcs:c.hh=false\/(c.hh=true/\c.hw=true):=by
  cases Y:c.hh with
  |false=>exact .inl rfl
  |true =>
   cases I:c.hw with
   |true=>exact .inr ⟨rfl,rfl⟩
   |false=>exact absurd ⟨Y,I⟩ J
 have Ei:=F<|xl.o wr HB.o;clear z J xl;rcases hcs with Y|⟨Y,I⟩
 ·rw[Y]at c4
  clear Y c2
  go_wp2_with(first|(go_at_call 54;refine Ei.o.m ?_;rintro e w5⟨wv,rfl,u,U⟩;have B:=F u;have gD:=F<|dw HB.o U;obtain⟨N,I0,LT⟩:=cZ (OB.of (w0:=w) (q.o.keep U) r.o.2.2.1 gD.o) (l.o.keep U) HB.o.size;clear U u)|(refine dX rfl 22 28 27 rfl w g 101 (bA aI c) N.o 1 wv rfl rfl (by exact aN M0 (ag 8)) Rz (bm B.o) (bA wv {c with words:=ws}) rfl ?_;intro w6 p t6;obtain⟨y,J0,O6⟩:=cZ p (OB.of (w0:=w) (t6.cb I0.o r.o.1) r.o.2.1 p.bL) t6;clear p t6)|(refine Au r5 4 rfl g wv {c with words:=ws} ⟨y.o.a⟩ rfl ?_)|(refine Jy rfl 2 29 rfl w g0 J0.o wv {c with words:=ws} (bm B.o) rfl rfl ?_;intro w7 i7 t7;have T:=F i7;have T7:=F t7;clear i7 t7))
  rw[K.o];have u:=B.o;rw[ay]at u;exact zS results91 rfl rfl ⟨T.o.a⟩ ⟨wv,rfl,ea (T7.o.row (O6.o.row u q.o.lt) l.o.lt) HB.o.size,T.o.bL⟩
 rw[Y]at c4;rw[I]at c2;clear Y I
 go_wp2_with(first|(go_at_call 54;refine Ei.o.m ?_;rintro e w5⟨wv,rfl,u,U⟩;have B:=F u;have gD:=F<|dw HB.o U;obtain⟨N,I0,LT⟩:=cZ (OB.of (w0:=w) (q.o.keep U) r.o.2.2.1 gD.o) (l.o.keep U) HB.o.size;clear U u)|(refine dX rfl 22 28 27 rfl w g 101 (bA aI c) N.o 1 wv rfl rfl (by exact aN M0 (ag 8)) Rz (bm B.o) (bA wv {c with words:=ws}) rfl ?_;intro w6 p t6;obtain⟨y,J0,O6⟩:=cZ p (OB.of (w0:=w) (t6.cb I0.o r.o.1) r.o.2.1 p.bL) t6;clear p t6)|(refine Au r5 4 rfl g wv {c with words:=ws} ⟨y.o.a⟩ rfl ?_)|(refine Jy rfl 2 29 rfl w g0 J0.o wv {c with words:=ws} (bm B.o) rfl rfl ?_;intro w7 i7 t7;have T:=F i7;have T7:=F t7;clear i7 t7))
 rw[K.o];have u:=B.o;rw[ay]at u;exact zS results91 rfl rfl ⟨T.o.a⟩ ⟨wv,rfl,ea (T7.o.row (O6.o.row u q.o.lt) l.o.lt) HB.o.size,T.o.bL⟩

theorem BR(q:UInt8->Bool):∀(l:O) (s:Bool),nL (λ_ c=>q c) (λs _=>s) s l=(l.takeWhile q).length
 | [],_=>rfl
 |c::r,s=>by
  rw[nL];cases h:q c with
  |true=>rw[ge rfl,BR q r s,bJ h,cz]
  |false=>rw[gc Oc,bI (by rw[h];simp)];rfl
def Ni(s:Bool)(c:UInt8):Bool:=s||(decide (c=40) || !(fS c))
def MN(s:Bool)(c:UInt8):Bool:=if s=true then decide (c≠41)else decide (c=40)
theorem oJ:∀(l:O) (s:Bool),nL Ni MN s l=gN s l
 | [],s=>by cases s <;>rfl
 |c::r,true=>by
  rw[nL,gN,ge (by simp[Ni]),oJ r];simp[MN]
 |c::r,false=>by
  rw[nL,gN];by_cases h:c=40
  ·rw[ge h,ge (by simp[Ni,h]),oJ r]
   simp[MN,h]
  rw[gc h];cases d:fS c with
  |true=>rw[gc (by simp[Ni,h,d]),ge rfl]
  |false=>rw[ge (by simp[Ni,h,d]),gc Oc,oJ r];simp[MN,h]
theorem Il(c:UInt8)(k:Nat)(h:k<256):(G c==(k:Int))=decide (c=UInt8.ofNat k):=by
 by_cases e:c=UInt8.ofNat k
 ·rw[gr e,(BH c k h).mpr e];simp
 rw[gh e,beq_eq_false_iff_ne];exact λI=>e ((BH c k h).mp I)
theorem Kn:Bn 34 #[] none (λ_ c=>mw c) (λs _=>s) :=
 ⟨λ_ _=>rfl,λ_ c W hi=>(fh (G c) W).m λ_ _ h=>⟨h.1,h.2▸hi,h.2▸Fk.refl _ _⟩⟩
theorem a0L(c:UInt8)(w:H):bP prog 87 #[.int .u8 (G c)] w (.bool (fS c)):=by
 have U:=λW=>fh (G c) W;have Ad:(G c==44)=decide (c=44):=Il c 44 M0;have d:fS c=(decide (c=44)||iW (G c)):=rfl;rw[d];have HB:=F U;generalize G c=f at *;generalize decide (c=44)=q at *;generalize iW f=r at *;clear U d;cases q <;>
 ·go_enter func87,ntmps87
  go_wp2_with(go_at_call 34;refine(HB.o _).e ?_)
  go_ret;exact⟨Oc,rfl⟩
theorem a0M(c:UInt8)(w:H):bP prog 88 #[.int .u8 (G c)] w (.bool (fU c)):=by
 have U:=λW=>fh (G c) W;have d:fU c=!(iW (G c)):=rfl;rw[d];have HB:=F U;generalize G c=f at *;generalize iW f=r at *;clear U d;go_enter func88,ntmps88
 go_wp2_with(go_at_call 34;refine(HB.o _).e ?_)
 go_ret;exact⟨rfl,rfl⟩
theorem Y7:Bn 87 #[] none (λ_ c=>fS c) (λs _=>s) :=
 ⟨λ_ _=>rfl,λ_ c W hi=>(a0L c W).m λ_ _ h=>⟨h.1,h.2▸hi,h.2▸Fk.refl _ _⟩⟩
theorem Y8:Bn 88 #[] none (λ_ c=>fU c) (λs _=>s) :=
 ⟨λ_ _=>rfl,λ_ c W hi=>(a0M c W).m λ_ _ h=>⟨h.1,h.2▸hi,h.2▸Fk.refl _ _⟩⟩
theorem Zk(f:Nat)(s:Bool)(c:UInt8)(w:H)(i:CB w f 4 #[.bool s]):Calls prog 137 #[.int .u8 (G c),.pointer (some ⟨f,0,none⟩)] w λe w' =>
  e=.returned (.bool (Ni s c))/\CB w' f 4 #[.bool (MN s c)]/\Fk (λj=>j=f) w w':=by
 have HB:=F<|λW=>fh (G c) W;have u:(G c==44)=decide (c=44):=Il c 44 M0;have k:(G c==41)=decide (c=41):=Il c 41 M0;have l:(G c==40)=decide (c=40):=Il c 40 M0;have p:fS c=(decide (c=44)||iW (G c)):=rfl;have n:=F i;have c1:=i.aE (j:=0) (v:=.bool s) rfl;have f1:=i.vz 0;clear i;cases s with
 |true =>
  have y:(G c != 41)=MN true c:=by
   unfold bne;rw[k];simp[MN]
  generalize MN true c=q at y⊢;clear u k l p HB;have g:Ni true c=true:=rfl;rw[g];generalize G c=t at *;clear g;go_enter func137,ntmps137;go_wp2_with fail;go_ret;exact⟨rfl,n.o.set 0 (.bool q),Fk.set (J:=λj=>j=f) n.o 0 _ rfl⟩
 |false =>
  by_cases d:c=40
  ·rw[gr d]at l
   have g:Ni false c=true:=by unfold Ni;rw[gr d];rfl
   have h:MN false c=true:=by unfold MN;rw[gc Oc,gr d]
   rw[g,h];generalize G c=t at *;clear u k p g h d HB;go_enter func137,ntmps137;go_wp2_with fail;go_ret;exact⟨rfl,n.o.set 0 (.bool true),Fk.set (J:=λj=>j=f) n.o 0 _ rfl⟩
  rw[gh d]at l;have g:Ni false c=!(fS c):=by unfold Ni;rw[gh d];rfl
  have h:MN false c=false:=by unfold MN;rw[gc Oc,gh d]
  rw[g,h,p];generalize G c=t at *;generalize decide (c=44)=q at *;generalize iW t=r at *;clear k p g h d;cases q with
  |true =>
   go_enter func137,ntmps137
   go_wp2_with(go_at_call 34;refine(HB.o _).e ?_)
   go_ret;exact⟨rfl,n.o,Fk.refl _ _⟩
  |false =>
   cases r <;>
   ·go_enter func137,ntmps137
    go_wp2_with(go_at_call 34;refine(HB.o _).e ?_)
    go_ret;exact⟨rfl,n.o,Fk.refl _ _⟩
theorem Y6(f:Nat):Bn 137 #[.pointer (some ⟨f,0,none⟩)] (some f) Ni MN :=
 ⟨λ_ _=>rfl,λs c W hi=>(Zk f s c W (hi f rfl)).m λ_ _ h=>⟨h.1,λb U=>by obtain rfl:f=b:=bj U;exact h.2.1,h.2.2.more λj d=>by subst d;rfl⟩⟩
theorem Fk.row{J:Nat->Prop}{w:H}(h:Fk J w w'){base e n:Nat}{v:Z}{xs:List Z}(i:w.ownsRow base e 1 v n xs)(l:∀g,base<=g->g<w.heap.size->v.ownBlock=some g->¬J g):w'.ownsRow base e 1 v n xs:=by
 refine⟨i.1,?_⟩;rcases i.2 with j|⟨g,cap,cur,d,f,hh,m⟩
 ·exact .inl j
 have c:=(bw.1 hh).1;exact .inr ⟨g,cap,cur,d,f,(h.k g c (l g f c (by rw[d];rfl))).trans hh,m⟩

theorem Fk.step{J K:Nat->Prop}{w e:H}(h:Fk J w e)(k:Fk K e w2)(f:∀j,j<w.heap.size->K j->J j):Fk J w w2 :=
 ⟨k.os.trans h.os,k.tape.trans h.tape,k.output.trans h.output,am h.s k.s,λj c d=>(k.k j (aN c h.s) λhK=>d (f j c hK)).trans (h.k j c d)⟩
theorem Fk.LR{B:Nat}{w:H}(h:Below B w w'):Fk (λj=>B<=j) w w':=⟨h.os,h.tape,h.output,h.size,λj _ c=>h.block j (Nat.lt_of_not_le c)⟩
theorem uF(p:UInt8->Bool):∀l:O,l.drop (l.takeWhile p).length=l.dropWhile p
 | []=>rfl
 |c::r=>by
  cases h:p c with
  |true=>rw[bJ h,aQ h,cz,Ej,uF p r]
  |false=>rw[bI (by rw[h];simp),aX (by rw[h];simp)];rfl
theorem sO(p:UInt8->Bool)(l:O):(l.takeWhile p).length<=l.length:=(xS _).length_le
def a63(l:O)(k A' B:Nat)(w:H)(R:List O×O):Ending->H->Prop:=λe w'=>∃(wv:Z) (k':Nat),e=.returned wv/\k<=k'/\k'<=l.length/\l.drop k'=R.2 /\
 w'.ownsRow w.heap.size 9 1 wv R.1.length (Strs R.1)/\CB w' A' 3 #[.int .i64 (k':Int)]/\CB w' B 9 #[.string (E l)]/\Fk (λj=>j=A') w w'
theorem a09(l:O)(k r B:Nat)(w:H)(hl:l.length<=1024000000)(hkl:k<=l.length)(cA:CB w r 3 #[.int .i64 k])(cB:CB w B 9 #[.string (E l)])(IL:B≠r) :
  Calls prog 90 #[.func (.func 86) #[] #[.pointer (some ⟨r,0,none⟩),.pointer (some ⟨B,0,none⟩)]] w (a63 l k r B w (j7 (l.drop k))):=by
 obtain⟨i1,hi1,hz1,hz2,hz3⟩:=info_parts lT;obtain⟨R,HR⟩:=ey (j7 (l.drop k));rw[<-HR.o];obtain⟨K,HA,HB,xt⟩:=dT (show r<w.heap.size/\B<w.heap.size from⟨cA.lt,cB.lt⟩) cA cB IL;obtain⟨N,hN⟩:=V (l.length);have HN:=F hN;rw[<-hN]at hl hkl;clear cA cB IL hN;go_enter func90,ntmps90;go_wp2_with fail
 go_loopg [3] (N+1) (λgf wv wr=>∃(j:Nat) (acc:List O),k<=j/\j<=N/\N-j<gf/\acc.length<=j/\Hid (R=(acc++(j7 (l.drop j)).1,(j7 (l.drop j)).2))/\Hid (wr.ownsRow w.heap.size 9 1 wv acc.length (Strs acc))/\Hid (CB wr r 3 #[.int .i64 (j:Int)])/\Hid (CB wr B 9 #[.string (E l)])/\Hid (Fk (λj=>j=r) w wr))
 exact⟨k,[],ag _,hkl,M0,Oc,by rw[HR.o];rfl,iZ _ _ _ _,HA.o,HB.o,Fk.refl _ _⟩
 obtain⟨j,acc,hkj,hjN,hf,hal,HW,HO,HA1,HB1,HF⟩:=hrel;obtain⟨g',rfl⟩:∃g',gk=g'+1:=⟨gk-1,M0⟩;have hjl:j<=l.length:=by rw[<-HN.o];exact hjN
 have hs1:=rp Kn l j r B false wr (by rw[<-HN.o];exact hl) hjl HA1.o HB1.o (λb h=>by cases h) Oc Oc xt.o;rw[BR]at hs1;obtain⟨q,hj1⟩:=V (j+((l.drop j).takeWhile mw).length)
 have U6:q<=l.length:=by
  have:=sO mw (l.drop j);rw[aj]at this;omega
 have hd1:l.drop q=(l.drop j).dropWhile mw:=by rw[hj1,<-List.drop_drop,uF]
 rw[<-hj1]at hs1;have hw:=a1b (l.drop j);rw[<-hd1]at hw;obtain⟨J,hn2⟩:=V (gN false (l.drop q));rw[<-hn2]at hw
 have a9O:J<=l.length-q:=by
  have:=lY (l.drop q) false;rw[aj]at this;omega
 have HS1:=F hs1;have v:=F<|λ(f:Nat) (W:H) (a:CB W r 3 #[.int .i64 (q:Int)]) (b:CB W B 9 #[.string (E l)]) (c:CB W f 4 #[.bool false]) (d:f≠r) (e:f≠B)=>rp (Y6 f) l q r B false W (by rw[<-HN.o];exact hl) U6 a b (λb h=>by obtain rfl:f=b:=bj h;exact c) (by simpa using d) (by simpa using e) xt.o;rw[oJ,<-hn2]at v;obtain⟨x,X⟩:=V ((l.drop q).take J);rw[<-X]at v hw;have hxl:x.length=J:=by rw[X,aD,aj];omega
 have hjj:j<=q:=M0;have SY:=F (show q+J<=N by have:=HN.o;omega);obtain⟨t,ht⟩:=V (E x);rw[show S x=Value.string t by rw[ht]]at v;clear hs1 hj1 hd1 hn2 a9O U6 hjl;by_cases h0:J=0
 ·rw[ge h0]at hw
  have hx0:x=[]:=az M0;have he:t.toList=[]:=by rw[ht,hx0,aB]
  have he1:t.toList.isEmpty=true:=by rw[he];rfl
  have uI:=F (show R=(acc,l.drop q) by rw[HW.o,hw];simp);have HT:=F ht;clear ht X hw hx0 hxl HW;go_wp2_with fail;refine HS1.o.m ?_;rintro e u⟨rfl,hA,z,p⟩;obtain⟨Nt,L,Tw,jx⟩:=dT hA z (HF.o.step p (λi _ h=>h.elim id (λh=>by cases h))) (p.row HO.o (λg Y _ _ I=>I.elim (λe=>by have:=K.o.1;omega) (λe=>by cases e)));clear hA z p
  go_upto_region 4 with fail
  have JY:=F<|CB.new u 4 #[.bool false];have n:=(gT u.heap.size u).alloc (ag _) (.cells #[.bool false] 4);obtain⟨w4,C⟩:=V (u.alloc (.cells #[.bool false] 4));rw[<-C]at JY n⊢;obtain⟨M2,eI,T,y,M,qp,P⟩:=ep (Nt.o.keep n) (L.o.keep n) Tw.o.s (show u.heap.size≠r/\u.heap.size≠B from by have:=K.o;have:=Tw.o.s;omega) (Tw.o.trans (Fk.of_below n)) (own_below' jx.o n) (λg hg=>(jx.o.lt g hg).2);clear C n;go_wp2_with fail;refine(v.o _ _ M2.o eI.o JY.o y.o.1 y.o.2).m ?_;rintro e w5⟨rfl,hA,z,p⟩;obtain⟨Tm,gD,D,xn⟩:=dT hA z (M.o.step p (λi Y h=>h.elim id (λh=>by have:=T.o;have:=bj h;omega))) (p.row qp.o (λg Y _ h3 I=>I.elim (λe=>by have:=K.o.1;omega) (λe=>by have:=P.o g h3;have:=bj e;omega)));clear hA z p;go_wp2_with fail;go_ret;exact⟨_,q,rfl,M0,by have:=SY.o;have:=HN.o;omega,by rw[uI.o],by rw[uI.o];exact xn.o,by have:=Tm.o;rw[h0]at this;exact this,gD.o,D.o⟩
 rw[gc h0]at hw
 have he:¬t.toList=[]:=by
  rw[ht,aB];rintro rfl;exact h0 (by simpa using hxl.symm)
 have he1:t.toList.isEmpty=false:=by simpa using he
 have Bx:=F (show R=((acc++[x])++(j7 (l.drop (q+J))).1,(j7 (l.drop (q+J))).2) by
  rw[HW.o,hw,qg];simp)
 have HT:=F (show Value.string t=.string (E x) by rw[ht]);have hpos:0<J:=b3A h0;clear ht X hw hxl HW h0;go_wp2_with fail;refine HS1.o.m ?_;rintro e u⟨rfl,hA,z,p⟩;obtain⟨Nt,L,Tw,jx⟩:=dT hA z (HF.o.step p (λi _ h=>h.elim id (λh=>by cases h))) (p.row HO.o (λg Y _ _ I=>I.elim (λe=>by have:=K.o.1;omega) (λe=>by cases e)));clear hA z p
 go_upto_region 4 with fail
 have JY:=F<|CB.new u 4 #[.bool false];have n:=(gT u.heap.size u).alloc (ag _) (.cells #[.bool false] 4);obtain⟨w4,C⟩:=V (u.alloc (.cells #[.bool false] 4));rw[<-C]at JY n⊢;obtain⟨M2,eI,T,y,M,qp,P⟩:=ep (Nt.o.keep n) (L.o.keep n) Tw.o.s (show u.heap.size≠r/\u.heap.size≠B from by have:=K.o;have:=Tw.o.s;omega) (Tw.o.trans (Fk.of_below n)) (own_below' jx.o n) (λg hg=>(jx.o.lt g hg).2);clear C n;go_wp2_with fail;refine(v.o _ _ M2.o eI.o JY.o y.o.1 y.o.2).m ?_;rintro e w5⟨rfl,hA,z,p⟩;obtain⟨Tm,gD,D,xn⟩:=dT hA z (M.o.step p (λi Y h=>h.elim id (λh=>by have:=T.o;have:=bj h;omega))) (p.row qp.o (λg Y _ h3 I=>I.elim (λe=>by have:=K.o.1;omega) (λe=>by have:=P.o g h3;have:=bj e;omega)));clear hA z p;have hbs:w.heap.size<=w5.heap.size:=D.o.s;have hj2:=SY.o
 go_wp2_with(at_builtin;(refine et rfl 14 16 _ rfl w.heap.size 9 i1 (.string ⟨#[]⟩) 16 underlying22 hi1 hz1 hz2 hz3 P8 _ _ acc.length (Strs acc) rfl xn.o (.string t) rfl rfl M0 P8 M0 ?_);intro v9 w9 ig Qa tr;have Ka:=F ig;clear ig;have jo:=F tr;clear tr)
 go_roundg g'
 ·refine⟨q+J,acc++[x],M0,M0,M0,by simp;omega,Bx.o,?_,?_,?_,D.o.step (Fk.LR jo.o) (λi Y I=>absurd Y (Nat.not_lt_of_le I))⟩
  ·have h9:=Ka.o
   rw[HT.o]at h9;rw[ae,dq,jg];exact h9
  ·exact⟨(jo.o.block r K.o.1).trans Tm.o.a⟩
  exact⟨(jo.o.block B K.o.2).trans gD.o.a⟩
 ·omega

theorem Kx:(prog.info? 101).map (λi=>(i.zero,i.size,i.bytes))=some (some (.agg (bA aI C0)),8,88):=Rz
theorem RN{W:H}{i e s1 j G f s2 l:Nat}{v1 v2:Z}{m n:List Z}(Y:W.ownsRow i e s1 v1 j m)(I:W.ownsRow G f s2 v2 l n)(he:e≠f):∀k,v1.ownBlock=some k->v2.ownBlock≠some k:=by
 intro k h d;rcases Y.2 with⟨rfl,_⟩|⟨g,cap,cur,rfl,_,hh,_⟩
 ·cases h
 rcases I.2 with⟨rfl,_⟩|⟨g2,cap2,b38,rfl,_,c,_⟩
 ·cases d
 obtain rfl:g=k:=bj h;obtain rfl:g2=g:=bj d;rw[hh]at c;injection c with c
 injection c with _ c
 exact he c
def km(W:H)(base:Nat)(v:Z)(l:List dk):Prop:=∃ps:List (Z×dk),ps.map (·.2)=l/\W.ownsRow base 101 8 v ps.length (ps.flatMap λp=>(bA p.1 p.2).toList) /\
 ∀p∈ps,W.ownsRow base 9 1 p.1 p.2.words.length (Strs p.2.words)
theorem km.nil(W:H)(base:Nat):km W base (.slice none 0 0) []:=⟨[],rfl,iZ _ _ _ _,λp hp=>by cases hp⟩
theorem Fk.AO{J:Nat->Prop}{w:H}(h:Fk J w w'){base e s n:Nat}{v:Z}{xs:List Z}(i:w.ownsRow base e s v n xs)(l:∀g,base<=g->g<w.heap.size->¬J g):w'.ownsRow base e s v n xs:=by
 refine⟨i.1,?_⟩;rcases i.2 with j|⟨g,cap,cur,f,d,hh,m⟩
 ·exact .inl j
 have c:=(bw.1 hh).1;exact .inr ⟨g,cap,cur,f,d,(h.k g c (l g d c)).trans hh,m⟩
theorem km.fk{W:H}{base:Nat}{v:Z}{l:List dk}{J:Nat->Prop}(c:km W base v l)(h:Fk J W W')(d:∀g,base<=g->g<W.heap.size->¬J g):km W' base v l:=by
 obtain⟨f,Y,I,e⟩:=c;exact⟨f,Y,h.AO I d,λp hp=>h.AO (e p hp) d⟩
theorem km.below{W:H}{base:Nat}{v:Z}{l:List dk}(c:km W base v l)(h:r7 W W'):km W' base v l:=c.fk (J:=λ_=>False) ⟨h.os,h.tape,h.output,h.size,λj d _=>h.block j d⟩ λ_ _ _ h=>h
theorem km.base{W:H}{base base':Nat}{v:Z}{l:List dk}(c:km W base v l)(U:base'<=base):km W base' v l:=by
 have key:∀{e s n:Nat} {v:Z} {xs:List Z},W.ownsRow base e s v n xs->W.ownsRow base' e s v n xs:=by
  intro e s n v xs i;refine⟨i.1,?_⟩;rcases i.2 with f|⟨g,cap,cur,d,j,k⟩
  ·exact .inl f
  exact .inr ⟨g,cap,cur,d,am U j,k⟩
 obtain⟨m,Y,I,h⟩:=c;exact⟨m,Y,key I,λp hp=>key (h p hp)⟩
theorem km.len{W:H}{base:Nat}{v:Z}{l:List dk}(c:km W base v l):∃a d,v=.slice a l.length d:=by
 obtain⟨ps,rfl,I,_⟩:=c;rw[ay];rcases I.2 with⟨rfl,e⟩|⟨g,cap,cur,rfl,_⟩
 ·exact⟨none,0,by rw[e]⟩
 exact⟨_,_,rfl⟩
def WI(B:Nat)(W:H)(v:Z)(l:List dk):Prop :=
 ∃c,l.length<=c/\((l=[]/\∃a,v=.slice a 0 c)\/∃b o,b<B/\v=.slice (some ⟨b,o,none⟩) l.length c/\∀k (hk:k<l.length),∃wv,W.rangeAt b (o+k*8) (bA wv l[k]).toList/\Sl B W wv (l[k].words.map S))
theorem z8{α:Type}(f:α->List Z)(n:Nat):∀(c:List α) (_:∀p∈c,(f p).length=n) (k j:Nat) (d:k<c.length) (_:j<n),(c.flatMap f)[k*n+j]?= (f c[k])[j]?
 | [],_,k,j,d,_=>absurd d (cL _)
 |p::c,h,0,j,d,e=>by
  rw[cM,c4q,bM,cX (by rw[h p Oc];exact e)];rfl
 |p::c,h,k+1,j,d,e=>by
  have i:=z8 f n c (λq g=>h q (by simp[g])) k j (by simpa using d) e;rw[cM,dB (by rw[h p Oc,Nat.succ_mul];omega),h p Oc];rw[show(k+1)*n+j-n=k*n+j by rw[Nat.succ_mul];omega];exact i
theorem km.a3r{W:H}{base:Nat}{v:Z}{l:List dk}(c:km W base v l)(hl:l.length<=maxLen):WI W.heap.size W v l:=by
 obtain⟨e,rfl,I,n⟩:=c;rcases I.2 with⟨rfl,m⟩|⟨g,cap,cur,rfl,hg,hh,i,hcm,hsz,htk⟩
 ·have:e=[]:=az m
  subst this;exact⟨0,ag _,.inl ⟨rfl,none,rfl⟩⟩
 refine⟨cap,by rw[ay];exact i,.inr ⟨g,0,(bw.1 hh).1,by rw[ay],λk r=>?_⟩⟩;have d:k<e.length:=by simpa using r
 refine⟨e[k].1,λj x f=>?_,?_⟩
 ·rw[cU]at f
  have h:j<8:=(bh.1 f).1;have q:=z8 (λp:Z×dk=>(bA p.1 p.2).toList) 8 e (λp _=>rfl) k j d h;have:=I.cells (g:=g) rfl (k*8+j) x (q.trans f);rw[addr_add,<-Nat.add_assoc]at this;exact this
 rw[cU];exact Sl.g9 (sB (n e[k] (be d)))
theorem hs1(u:O):Lib.hasSuffix u [44]=nQ u:=by
 cases hu:u.reverse with
 |nil =>
  have:u=[]:=by simpa using hu
  subst this;decide
 |cons x r =>
  have:u=r.reverse++[x]:=by
   have:=congrArg List.reverse hu
   simpa using this
  rw[this,b0p];unfold nQ;rw[Bi,decide_eq_decide,a3a];simp
theorem ZX(u:O)(w:H)(hu:u.length<=1024000000):bP prog 84 #[.string (E u),.string (E [44])] w (.bool (nQ u)):=by
 have h:=Any.strings_HasSuffix laysHS (E u) (E [44]) w (by rw[aF];omega);rw[show(E u).data.toList=u from cW u,show(E [44]).data.toList=[44]from cW _,hs1]at h;exact h
theorem a00(u:O)(w:H)(hu:u.length<=1024000000):bF prog 89 #[.string (E u),.string (E [44])] w (S (gM u)):=by
 have h116:(prog.info? (laysTR_ren.t 116)).map (λi=>(i.zero,i.size))=some (some (.agg (Array.replicate 256 (.bool false))),256):=Rz;have h:=Any.strings_TrimRight_laid laysTR h116 (E u) (E [44]) w (by rw[aF];omega) P8 (ascii_of_all P8);rw[show(E u).data.toList=u from cW u,show(E [44]).data.toList=[44]from cW _]at h;refine h.m ?_;rintro e w'⟨rfl,U⟩;refine⟨?_,U⟩
 have c:Lib.trimRightS u [44]=gM u:=by
  unfold Lib.trimRightS gM
  congr 2
  funext x
  by_cases X:x=44 <;>simp[X]
 rw[c];rfl
section
variable {ops:Array Oper} {rest:List Oper} {o:Oper} {a:Act} {w:H} {Q:Exit->Act->H->Prop}
theorem a3f(wv:Z)(c:dk)(w:H):(Instr.buildSlice 97 1 #[(0,.agg (bA wv c))]).run prog w=.ok (.slice (some ⟨w.heap.size,0,none⟩) 1 1) (w.alloc (.cells (bA wv c) 101)):=Rz
theorem Iq(d:o.guard=none)(y:Operand)(f:o.op=.buildSlice 97 1 #[(0,y)])(wv:Z)(c:dk)(hy:a.eval y=.agg (bA wv c))
  (h:wpList prog ops Q rest (a.put o.dst (.slice (some ⟨w.heap.size,0,none⟩) 1 1)) (w.alloc (.cells (bA wv c) 101))):wpList prog ops Q (o::rest) a w:=by
 refine wpList_plain d λK hK=>?_;unfold Oper.wp execOp;have e:(#[(0,y)]:Array (Nat×Operand)).map (λ(i,x)=>(i,a.eval x))=#[(0,.agg (bA wv c))]:=by simp[hy]
 simp only[f,h2,io,h1,e,a3f];exact hK _ _ h
theorem b88(t:o.guard=none)(s x:Operand)(R:o.op=.call {callee:=.builtin .append,args:=#[s,x],argTypes:=#[97,97]})
  (base:Nat) {v wv:Z} {l:List dk} {c:dk} (W:a.eval s=v) (hown:km w base v l) (hw:w.ownsRow base 9 1 wv c.words.length (Strs c.words)) (X:a.eval x=.slice (some ⟨w.heap.size,0,none⟩) 1 1)
  (q:l.length+1<=1099511627776) (hbase:base<=w.heap.size)
  (h:∀n w',km w' base n (l++[c])->Below base w w'->wpList prog ops Q rest (a.put o.dst n) w') :
  wpList prog ops Q (o::rest) a (w.alloc (.cells (bA wv c) 101)):=by
 obtain⟨i,hi,hz,B,C⟩:=info_parts Kx;obtain⟨K,rfl,I,M⟩:=hown;rw[ay]at q;have d:Below w.heap.size w (w.alloc (.cells (bA wv c) 101)):=(gT _ _).alloc (ag _) _;refine wpList_append_own_at _ t s x _ R base 101 i _ 8 88 underlying97 hi hz B C r5 P8 v K.length _ W (I.alloc _) ⟨w.heap.size,0,none⟩ 1 1 (bA wv c).toList X rfl ?_ (Ir (bm hw)) (by unfold maxLen;omega) M0 (am hbase d.size) ?_
 ·intro j u N
  rw[addr_add,bM];have y:(bA wv c)[j]?= some u:=by rw[<-Array.getElem?_toList];exact N
  rw[hx];exact y
 intro n w' z J _ _
 have hkeep:∀{u:Z} {ws:List O},w.ownsRow base 9 1 u ws.length (Strs ws)->w'.ownsRow base 9 1 u ws.length (Strs ws):=by
  intro u ws hu;have f:=own_below' hu d;refine⟨f.1,?_⟩;rcases f.2 with L|⟨g,cap,cur,D,r,hh,T⟩
  ·exact .inl L
  refine .inr ⟨g,cap,cur,D,r,(J.block g (bw.1 hh).1 λe=>?_).trans hh,T⟩;exact RN f (I.alloc (.cells (bA wv c) 101)) P8 g (by rw[D];rfl) e.symm
 refine h n w' ⟨K++[(wv,c)],Oc,?_,?_⟩ ?_
 ·rw[ae,dL]
  simpa using z
 ·intro p hp
  rcases bO.mp hp with hp|hp
  ·exact hkeep (M p hp)
  obtain rfl:p=(wv,c):=by simpa using hp
  exact hkeep hw
 exact((d.m hbase)).grown J (am hbase d.size) (λk P=>(I.lt k P).1)
end
