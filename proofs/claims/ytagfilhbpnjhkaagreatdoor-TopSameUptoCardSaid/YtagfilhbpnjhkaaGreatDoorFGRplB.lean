import Derived.Deep.CutBlock
import Derived.Test.YtagfilhbpnjhkaaGreatDoorFGFloA
set_option maxRecDepth 10000
set_option maxHeartbeats 0
namespace Go.Proofs.Q
open Tryz Go.RowKit
theorem BN{w0 W:H}{h N:Nat}{acc:O}(b:Lib.Buf w0 W h N acc):Lib.Buf w0 W.drew h N acc:=⟨b.below.drew,b.there,b.free,b.holds,b.fits⟩
theorem Oi(w:H)(N:Nat):Lib.Buf w (w.alloc (.cells (madeCells #[.int .u8 0] (N*1)) 5)) w.heap.size N [] where
 below:=(gT _ _).alloc (ag _) _
 there:=λj hj=>by
  rw[hx,cK (by rw[size_madeCells];omega)];rfl
 free:=λj _=>by
  have:=World.frozen?_alloc_mark w (madeCells #[.int .u8 0] (N*1)) 5 0 0 j;rw[this];simp
 holds:=λj x X=>by simp at X
 fits:=aL _
def Eu(w:H)(b o:Nat)(l:O):Prop:=∀(i:Nat) x,l[i]?= some x->w.cell? ⟨b,o+i,none⟩=some (.int .u8 (x.toNat:Int))
theorem Za{w:H}{b o:Nat}{l:O}(h:At w b o (Lib.byteCells l)):Eu w b o l:=by
 intro i x X;have hi:=(bh.1 X).1;have:=h i (by rw[hb];exact hi);rw[this];simp only[Lib.byteCells,cU];rw[(bh.1 X).2]
theorem BI{w:H}{b o:Nat}{l:O}(h:Eu w b o l)(a:Addr)(d:∀i,a.add i=⟨b,o+i,none⟩)(c:Nat):Lib.HoldsBytes w (.slice (some a) l.length c) l :=
 ⟨some a,c,rfl,λh=>(by cases h),λa' e i x X=>(by
  obtain rfl:=bj e;rw[d];exact h i x X)⟩
theorem uS{w:H}{b o:Nat}{l:O}(h:Eu w b o l)(k:Nat):Eu w b (o+k) (l.drop k):=by
 intro i x X;rw[fz]at X;rw[EK];exact h (k+i) x X
theorem NZ{w:H}{b o:Nat}{l:O}(h:Eu w b o l)(k:Nat):Eu w b o (l.take k):=by
 intro i x X;refine h i x ?_;rw[kO]at X
 split at X
 ·exact X
 cases X
theorem pe:prog.elem 25=5:=Rz
theorem zo(w:H):(Go.sizeOf 5).run prog w=.ok 1 w:=Rz
theorem Hf:(prog.info? 5).map (·.size)=some 1:=Rz
theorem Ya(b o L c k:Nat)(hk:k<L)(hc:L<=c)(W:H):(Instr.slice 25 (.slice (some ⟨b,o,none⟩) L c) (some (.int .i64 (k:Int))) none none).run prog W=.ok (.slice (some ⟨b,o+k,none⟩) (L-k) (c-k)) W:=by
 have d:prog.underlying 25=some (.slice (prog.elem 25)):=by rw[pe];exact underlying25
 rw[run_slice_l W 25 _ _ _ d .i64 _ M0 M0,pe,zo];have a:¬c=k:=M0;simp[Result.andThen,sliced,a,addr_add]
theorem X9(b o L c k j:Nat)(hk:k<c)(hkj:k<=j)(hj:j<=c)(W:H):(Instr.slice 25 (.slice (some ⟨b,o,none⟩) L c) (some (.int .i64 (k:Int))) (some (.int .i64 (j:Int))) none).run prog W=.ok (.slice (some ⟨b,o+k,none⟩) (j-k) (c-k)) W:=by
 have d:prog.underlying 25=some (.slice (prog.elem 25)):=by rw[pe];exact underlying25
 rw[run_slice_lh W 25 _ _ _ d .i64 .i64 _ _ M0 M0 M0,pe,zo];have a:¬c=k:=M0;simp[Result.andThen,sliced,a,addr_add]
theorem a0K{w:H}{b o L c k:Nat}{l:O}(h:Eu w b o l)(f:l.length=L)(hk:k<=L)(g:L<=c):∃e,Lib.HoldsBytes w e (l.drop k)/\∀W,(Instr.slice 25 (.slice (some ⟨b,o,none⟩) L c) (some (.int .i64 (k:Int))) none none).run prog W=.ok e W:=by
 rcases cI k L with d|hge
 ·have hh:=BI (uS h k) ⟨b,o+k,none⟩ (λi=>addr_add _ _ _) (c-k)
  rw[aj,f]at hh;exact⟨_,hh,Ya b o L c k d g⟩
 obtain rfl:k=L:=M0;have j:prog.underlying 25=some (.slice (prog.elem 25)):=by rw[pe];exact underlying25
 have hd:l.drop k=[]:=by rw[<-f,dF]
 rw[hd];refine⟨.slice (some (if c=k then⟨b,o,none⟩else(⟨b,o,none⟩:Addr).add (k*1))) 0 (c-k),⟨_,c-k,rfl,λ_=>rfl,λa _ i x X=>(by simp at X)⟩,λW=>?_⟩;rw[run_slice_l W 25 _ _ _ j .i64 _ M0 M0,pe,zo];simp only[Result.andThen,sliced]
 split <;>simp_all
def nums(l:O):List Int:=l.map λx=>(x.toNat:Int)
theorem yX(l:O):(nums l).length=l.length:=ay _
theorem tH(l:O):Lib.bytesOf (nums l)=l:=by
 unfold Lib.bytesOf nums;rw[lu]
 conv=>rhs;rw[<-List.map_id l]
 exact jJ λx _=>Oc
theorem b7B{w:H}{b o:Nat}{l:O}(h:Eu w b o l)(a:Addr)(c:∀i,a.add i=⟨b,o+i,none⟩):∀i,i<l.length->w.cell? (a.add i)=some (.int .u8 ((nums l).getD i 0)):=by
 intro i hi;rw[c,h i l[i] (aG hi)];simp[nums,List.getD,hi]
theorem OA{w:H}{b o G:Nat}{l:O}(h:Eu w b o l)(c d:Nat)(e:w.cell? ⟨G,0,none⟩=some (.int .u8 0)) :
  bP prog 143 #[.slice (some ⟨b,o,none⟩) l.length c,.slice (some ⟨G,0,none⟩) 1 d] w (.int .i64 (l.count 0:Nat)):=by
 have a:=Any.bytes_Count_one_at laysBC ⟨b,o,none⟩ l.length c G 0 d (nums l) 0 w (yX l) (b7B h _ (λi=>addr_add _ _ _)) e;rw[tH]at a;exact a
theorem E8{w:H}{b o G:Nat}{l:O}(h:Eu w b o l)(c d:Nat)(e:w.cell? ⟨G,0,none⟩=some (.int .u8 0)) :
  bP prog 144 #[.slice (some ⟨b,o,none⟩) l.length c,.slice (some ⟨G,0,none⟩) 1 d] w (.int .i64 (Lib.indexByte l 0)):=by
 have a:=Any.bytes_Index_one_at laysBI ⟨b,o,none⟩ l.length c G 0 d (nums l) 0 w (yX l) (b7B h _ (λi=>addr_add _ _ _)) e;rw[tH]at a;exact a

theorem E0(c:Nat)(G d:Nat)(w:H)(hz:w.cell? ⟨G,0,none⟩=some (.int .u8 0)) :
  bP prog 143 #[.slice none 0 c,.slice (some ⟨G,0,none⟩) 1 d] w (.int .i64 0):=by
 go_enter func143,ntmps143
 go_wp2
 rw[run_callFunc_extern func185 Rz Rz Rz (e:=Extern.BytealgCount.count) Rz,Lib.run_countNil w 0 c 0];simp only[Result.andThen];rw[Oper.upon_value]
 go_wp2
 go_ret;exact⟨rfl,rfl⟩
theorem AU{B:Nat}{w:H}{v:Z}{l:O}(h:Sl B w v (Lib.byteCells l)):(l=[]/\∃a c,v=.slice a 0 c)\/∃b o c,b<B/\l.length<=c/\v=.slice (some ⟨b,o,none⟩) l.length c/\Eu w b o l:=by
 obtain⟨c,d,_,h⟩:=h;rw[hb]at d;rcases h with⟨f,a,rfl⟩|⟨b,o,U,rfl,e⟩
 ·exact .inl ⟨by simpa[Lib.byteCells]using f,a,c,rfl⟩
 exact .inr ⟨b,o,c,U,d,by rw[hb],Za e⟩
theorem Eu.keep{w c:H}{b o:Nat}{l:O}(h:Eu w b o l)(d:c.heap[b]?= w.heap[b]?):Eu c b o l :=
 λi x X=>(World.cell?_of_block (w:=w) (a:=⟨b,o+i,none⟩) d).trans (h i x X)
theorem Kr{w:H}{v:Z}{l:O}{G:Nat}(h:Sl w.heap.size w v (Lib.byteCells l))(d:Nat)(e:w.cell? ⟨G,0,none⟩=some (.int .u8 0)) :
  bP prog 143 #[v,.slice (some ⟨G,0,none⟩) 1 d] w (.int .i64 (l.count 0:Nat)):=by
 rcases AU h with⟨rfl,a,c,rfl⟩|⟨b,o,c,_,_,rfl,U⟩
 ·cases a with
  |none=>exact E0 c G d w e
  |some a=>exact Any.bytes_Count_one_at laysBC a 0 c G 0 d [] 0 w rfl (λi hi=>absurd hi (cL _)) e
 exact OA U c d e
theorem Zf{w W:H}{N:Nat}{acc:O}(b:Lib.Buf w W w.heap.size N acc)(a:acc.length=N)(hm:N<=maxLen):Sl W.heap.size W (.slice (some ⟨w.heap.size,0,none⟩) N N) (Lib.byteCells acc):=by
 refine⟨N,by rw[hb,a];exact ag _,hm,?_⟩;by_cases d:N=0
 ·subst d
  have:acc=[]:=az a;subst this;exact .inl ⟨rfl,_,rfl⟩
 refine .inr ⟨w.heap.size,0,?_,by rw[hb,a],λj c=>?_⟩
 ·have:=b.there 0 (by omega)
  obtain⟨x,X⟩:=a6t.1 this;exact j2 _ _ X
 rw[hb]at c;rw[bM,b.holds j acc[j] (aG c)];simp[Lib.byteCells]
theorem ST{l:O}{st p:Nat}{a B:O}(h:l.drop st=a++0::B)(hA:∀x∈a,x≠0)(hp:a.length=p):(dY (l.take st)).length+p+3<=l.length+2*l.count 0:=by
 have Y:=(zy h hA).1;have I:=qf l
 have h3:(dY l).length=(dY (l.take (st+a.length+1))).length+(dY (l.drop (st+a.length+1))).length:=by
  rw[<-List.length_append,<-rD,cT]
 have h4:(dY (l.take (st+a.length+1))).length=(dY (l.take st)).length+p+3:=by
  rw[Y,ae,ae,hp];rfl
 omega
theorem zQ(l:O)(v nv:Z)(G d:Nat)(w:H)(h:Sl w.heap.size w v (Lib.byteCells l))(hl:l.length<=900000000)(hz:w.cell? ⟨G,0,none⟩=some (.int .u8 0))(hn:Lib.HoldsBytes w nv ny) :
  Calls prog 97 #[v,.slice (some ⟨G,0,none⟩) 1 d,nv,.int .i64 (-1)] w λe w'=>∃v',e=.returned v'/\Sl w'.heap.size w' v' (Lib.byteCells (dY l))/\r7 w w':=by
 obtain⟨i8,tA,Bl,lK,nC⟩:=info_parts jn;have WS:=F<|Kr h d hz;have HNV:=F hn;obtain⟨pn,cn,hnv,_⟩:=hn;rw[show ny.length=3 from rfl]at hnv;subst hnv;obtain⟨R,hR⟩:=V (dY l);rw[<-hR];have HZ:=F hz;have hbz:G<w.heap.size:=j2 _ _ hz;rcases uy l with⟨h0,s⟩|⟨A0,B0,y,Py,a9B,a38⟩
 ·have HR:=F (show R=l by rw[hR,uH s])
  obtain⟨v',w1,hr,ho,hg,_⟩:=rS (P:=prog) w 25 25 5 i8 underlying25 tA Bl lK nC (.slice none 0 0) 0 [] l (iZ _ _ _ _) M0 w.heap.size v h;rw[h0]at WS;rw[bM,f9]at ho;obtain⟨HS,HB,x⟩:=cZ (Sl.g9 ho) (show r7 w w1 from⟨hg.os,hg.tape,hg.output,hg.size,λk hk=>hg.block k hk (by simp[Value.ownBlock])⟩) hr;clear hr ho hg h hR hz s h0;go_enter func97,ntmps97
  go_wp2_with(first|(go_at_call 143;refine(WS.o).e ?_)|(at_builtin;go_must (refine mj rfl (.const (.slice none 0 0)) 24 _ _ rfl _ _ _ _ rfl rfl x.o ?_)))
  go_ret;exact⟨v',rfl,by rw[HR.o];exact HS.o,HB.o⟩
 rcases AU h with⟨rfl,_⟩|⟨b,o,c,U,J,rfl,hat⟩
 ·simp at y
 obtain⟨L,hL,n,hn⟩:=ac (l.length) (l.count 0);have hn1:1<=n:=M0;have hnL:n<=L:=by rw[hn,hL];exact List.count_le_length
 obtain⟨N,hN⟩:=V (L+2*n);rw[<-hL]at hl J WS⊢;rw[<-hn]at WS;obtain⟨m2,hm2⟩:=V (2*n:Nat);have hw1:IntKind.i64.wrap ((n:Int)*2)=(m2:Int):=by rw[gS _ M0];omega
 have hw2:IntKind.i64.wrap ((L:Int)+(m2:Int))=(N:Int):=by rw[gS _ M0];omega
 have hmk:=run_make (P:=prog) w 25 5 i8 (.int .u8 0) underlying25 tA Bl .i64 .i64 (N:Int) (N:Int) M0 (kQ _) (by rw[nC];omega) M0;rw[lK,eV]at hmk;have HBM:=F<|Oi w N;obtain⟨wm,hwm⟩:=V (w.alloc (.cells (madeCells #[.int .u8 0] (N*1)) 5));have a9M:(Instr.makeSlice 25 (.int .i64 (N:Int)) (.int .i64 (N:Int))).run prog w=.ok (.slice (some ⟨w.heap.size,0,none⟩) N N) wm:=by rw[hwm];exact hmk
 rw[<-hwm]at HBM;have hN3:N<=2700000000:=M0;have hN1:0<N:=M0;have hnz:((n:Int)==0)=false:=by simp;omega
 have b4P:¬(n:Int)=0:=M0;obtain⟨z,HL,HN,xm,x⟩:=ec hat hL hn hN hR;clear hmk hwm hm2 hat h hz hL hn hN hR y Py a9B a38;go_enter func97,ntmps97
 go_wp2_with(go_at_call 143;refine(WS.o).e ?_)
 clear a9M WS
 go_loopw [11,12,13,49] (λwv sv _ iv wr=>∃(k st a:Nat) (acc:O),k<=n/\st<=L/\iv=.int .i64 k/\sv=.int .i64 st/\wv=.int .i64 a/\Hid (acc.length=a)/\Hid (acc=dY (l.take st))/\Hid ((l.drop st).count 0+k=n)/\Hid (Lib.Buf w wr w.heap.size N acc)) (λ_ _ _ i _=>n-(intOf i).toNat)
 exact⟨0,0,0,[],aL _,aL _,rfl,rfl,rfl,F rfl,F rfl,F (by rw[dP,<-HN.o];rfl),HBM⟩
 obtain⟨k,st,a,acc,hk,hst,rfl,rfl,rfl,t,Yj,HC,HB⟩:=hrel;by_cases hkn:k<n
 ·rcases uy (l.drop st)with⟨h0,_⟩|⟨f,B,y,Py,T,hcnt⟩
  ·have:=HC.o;omega
  obtain⟨p,hp⟩:=V (f.length);have hfit:=ST y Py hp.symm;have hstep:=zy y Py;have Q:(l.drop st).length=L-st:=by rw[aj,HL.o]
  have hpl:p+1+B.length=L-st:=by rw[<-Q,y,hp];simp;omega
  have a3X:Eu _ b o l:=z.o.keep (HB.o.below.block b U);have hzw:=(HB.o.below.cell (p:=⟨G,0,none⟩) hbz).trans HZ.o;have W3:=E8 (uS a3X st) (c-st) d hzw;rw[Q,T,<-hp]at W3;replace W3:=F W3
  have Kc:=F (show Lib.HoldsBytes w (.slice (some ⟨b,o+st,none⟩) f.length (c-st)) f by
   have e:f=(l.drop st).take f.length:=by rw[y,ko rfl]
   have hh:=BI (NZ (uS z.o st) f.length) ⟨b,o+st,none⟩ (λi=>addr_add _ _ _) (c-st);rw[<-e]at hh;exact hh)
  rw[<-Yj.o,t.o,<-HL.o,<-HN.o,<-xm.o]at hfit;have C:=F (show acc.length+f.length<=N by rw[t.o,<-hp];omega);have HP:=F hp.symm;have hs1:=Ya b o L c st M0 J;have hs2:∀W,(Instr.slice 25 (.slice (some ⟨w.heap.size,0,none⟩) N N) (some (.int .i64 (a:Int))) none none).run prog W=.ok (Lib.tailV w.heap.size N a) W:=λW=>Lib.run_slice_tailV W 25 5 underlying25 zo _ N a M0;obtain⟨j,hj⟩:=V (st+p);have hs3:=X9 b o L c st j M0 M0 M0;rw[show j-st=p by omega]at hs3;obtain⟨D,M⟩:=V (a+p);have hs4:∀W,(Instr.slice 25 (.slice (some ⟨w.heap.size,0,none⟩) N N) (some (.int .i64 (D:Int))) none none).run prog W=.ok (Lib.tailV w.heap.size N D) W:=λW=>Lib.run_slice_tailV W 25 5 underlying25 zo _ N D M0;have hwj:IntKind.i64.wrap ((st:Int)+(p:Int))=(j:Int):=by rw[gS _ M0];omega
  have Qb:IntKind.i64.wrap ((a:Int)+(p:Int))=(D:Int):=by rw[gS _ M0];omega
  obtain⟨a2,ha2⟩:=V (D+3);have b4Y:IntKind.i64.wrap ((D:Int)+3)=(a2:Int):=by rw[gS _ M0];omega
  obtain⟨j1,hj1⟩:=V (j+1);have b40:IntKind.i64.wrap ((j:Int)+1)=(j1:Int):=by rw[gS _ M0];omega
  have c0s:=F (show acc++f++ny=dY (l.take j1) by rw[Yj.o,hj1,hj,hp];exact hstep.1.symm)
  have Ei:=F (show(l.drop j1).count 0+(k+1)=n by
   have I:=HC.o;rw[hcnt]at I;rw[hj1,hj,hp,hstep.2];omega)
  have HLEN:=F (show(acc++f++ny).length=a2 by rw[ae,ae,t.o,<-hp,ha2,M];rfl);have a9C:j1<=L:=M0;have Hs:=F (show(acc++f).length=D by rw[ae,t.o,<-hp,M]);have Tw:=F (show(acc++f).length+ny.length<=N by rw[Hs.o,show ny.length=3 from rfl];omega);clear hfit hstep Q a3X hzw T hcnt y Py hp hj M ha2 hj1 hpl
  go_upto_region 15 with(go_at_call 144;refine(W3.o).e ?_)
  refine wp_region_held_drew (S:=λ_=>True) Rz (by exact trivial) (λhHeld=>?_);refine ek 0 ?_;refine ek 1 ?_;refine ek 2 ?_;refine ek 3 ?_;refine ek 4 ?_;refine ek 5 ?_;refine ek 6 ?_;refine ek 7 ?_;refine rn 8 Rz rfl r5 (λK hK=>?_);obtain⟨w2,g,B2⟩:=Lib.copy_part (P:=prog) w _ w.heap.size N acc f (.slice (some ⟨b,o+st,none⟩) f.length (c-st)) 25 3 5 underlying25 Hf (ag _) (BN HB.o) Kc.o C.o;rw[HP.o,t.o]at g;refine Lib.wp_copy_run _ 61 65 25 25 rfl _ _ rfl rfl g ?_;have u:=F B2;clear B2 g;refine hK.out _ _ ?_ (λhHeld=>?_)
  ·exact trivial
  clear hK K
  try simp only[Act.put,fH,fI,fJ]
  refine ek 9 ?_;refine ek 10 ?_;refine wpAnyH_done Rz ?_ _;obtain⟨w3,hr3,B3⟩:=Lib.copy_part (P:=prog) w _ w.heap.size N (acc++f) ny (.slice pn 3 cn) 25 3 5 underlying25 Hf (ag _) u.o HNV.o Tw.o;rw[Hs.o,show ny.length=3 from rfl]at hr3;have HB3:=F B3;have HR3:=F hr3;clear B3 hr3
  go_wp2_with(refine Lib.wpList_copy_run _ rfl 71 72 25 25 rfl _ _ rfl rfl HR3.o ?_)
  go_roundw
  exact⟨k+1,j1,a2,acc++f++ny,M0,a9C,by go_num,rfl,rfl,HLEN,c0s,Ei,HB3⟩
  exact aa
 obtain rfl:k=n:=M0;rcases uy (l.drop st)with⟨_,s⟩|⟨f,B,y,Py,T,hcnt⟩;rotate_left
 ·have:=HC.o;omega
 have Bw:=F (show R=acc++l.drop st by rw[x.o,Yj.o];exact SS s);have r:R.length=N:=by rw[x.o,qf,<-HN.o,<-HL.o,xm.o]
 obtain⟨fv,hfv,hsf⟩:=a0K z.o HL.o.symm hst J;have hs2:∀W,(Instr.slice 25 (.slice (some ⟨w.heap.size,0,none⟩) N N) (some (.int .i64 (a:Int))) none none).run prog W=.ok (Lib.tailV w.heap.size N a) W:=λW=>Lib.run_slice_tailV W 25 5 underlying25 zo _ N a (by have Y:=Bw.o;rw[Y,ae,t.o]at r;omega);have hs5:∀W,(Instr.slice 25 (.slice (some ⟨w.heap.size,0,none⟩) N N) (some (.int .i64 0)) (some (.int .i64 (N:Int))) none).run prog W=.ok (.slice (some ⟨w.heap.size,0,none⟩) N N) W:=X9 w.heap.size 0 N N 0 N hN1 (aL _) (ag _);obtain⟨q,hq⟩:=V ((l.drop st).length);have haq:a+q=N:=by have Y:=Bw.o;rw[Y,ae,t.o,<-hq]at r;exact r
 have hwq:IntKind.i64.wrap ((a:Int)+(q:Int))=(N:Int):=by rw[gS _ M0];omega
 obtain⟨HFV,HQ,C,EF⟩:=dT hfv hq.symm (show acc.length+(l.drop st).length<=N by rw[t.o,<-hq];omega) (show(acc++l.drop st).length=N by rw[<-Bw.o];exact r);clear hfv hq r s haq
 go_upto_region 28 with fail
 refine wp_region_held_drew (S:=λ_=>True) Rz (by exact trivial) (λhHeld=>?_);refine ek 0 ?_;refine ek 1 ?_;refine ek 2 ?_;refine ek 3 ?_;refine ek 4 ?_;refine ek 5 ?_;refine ek 6 ?_;refine rn 7 Rz rfl r5 (λK hK=>?_);obtain⟨w2,g,B2⟩:=Lib.copy_part (P:=prog) w _ w.heap.size N acc (l.drop st) fv 25 3 5 underlying25 Hf (ag _) (BN HB.o) HFV.o C.o;rw[HQ.o,t.o]at g;refine Lib.wp_copy_run _ 123 126 25 25 rfl _ _ rfl rfl g ?_;have u:=F B2;clear B2 g;refine hK.out _ _ ?_ (λhHeld=>?_)
 ·exact trivial
 clear hK K
 try simp only[Act.put,fH,fI,fJ]
 refine ek 8 ?_;refine ek 9 ?_;refine wpAnyH_done Rz ?_ _;go_wp2_with fail;go_ret;exact⟨_,rfl,by rw[Bw.o];exact Zf u.o EF.o (by unfold maxLen;omega),u.o.below⟩
