import Derived.Shelf.Strconv.AppendUint10
import Derived.Lib.SmallJoins
import Derived.Laws.BitsLemmas
import Derived.Deep.DeepCutAuto
import Derived.Test.YtagfilhbpnjhkaaGreatDoorFGIdnG
set_option maxRecDepth 10000
set_option maxHeartbeats 0
namespace Go.Proofs.Q
open Tryz Go.RowKit
structure NE (w:H):Prop where
 tab:Lib.TabIs prog w "internal/strconv.uint64pow10" .u64 Lib.pow10Tab
 tz:w.cell? ⟨5,15,none⟩=some (.int .u8 4)
theorem NE.below{w d:H}(h:NE w)(U:r7 w d):NE d :=
 ⟨Lib.tabBelow_of_tabIs h.tab d U,by
  have I:=h.tz
  have a:5<w.heap.size:=by
   rcases cI 5 w.heap.size with a|c
   ·exact a
   simp[World.cell?,Array.getElem?_eq_none c]at I
  exact(U.cell (p:=⟨5,15,none⟩) a).trans I⟩
theorem Wy(w:H)(h:NE w):bP prog 225 #[.int .u64 16] w (.int .i64 4):=by
 have htz:=h.tz;clear h;have z1:IntKind.u64.wrap (-16)=18446744073709551600:=by decide +kernel
 have z2:bits BinOp.and IntKind.u64 16 18446744073709551600=16:=by decide +kernel
 have z3:IntKind.u64.wrap (16*285870213051353865)=4573923408821661840:=by decide +kernel
 have z4:(4573923408821661840:Int)/288230376151711744=15:=by decide +kernel
 go_enter func225,ntmps225;go_wp2_with fail;go_ret;exact⟨rfl,rfl⟩
theorem a5L(w:H)(h:NE w):bP prog 199 #[.int .u64 16] w (.int .i64 4):=by
 have a:=Wy w h;have c:=F a;clear a;go_enter func199,ntmps199
 go_wp2_with(go_at_call 225;refine c.o.e ?_)
 go_ret;exact⟨rfl,rfl⟩
theorem VW(w:H):bP prog 198 #[.int .i64 16] w (.bool true):=by
 have z1:bits BinOp.and IntKind.i64 16 15=0:=by decide +kernel
 go_enter func198,ntmps198;go_wp2_with fail;go_ret;exact⟨rfl,rfl⟩
def vE(n:Nat):UInt8:=UInt8.ofNat (if n<10 then 48+n else 87+n)
def gg(u:Nat):O:=if _h:u<16 then [vE u]else gg (u/16)++[vE (u%16)]
termination_by u
decreasing_by omega
theorem b6U{u:Nat}(h:u<16):gg u=[vE u]:=by rw[gg,dif_pos h]
theorem IQ{u:Nat}(h:¬u<16):gg u=gg (u/16)++[vE (u%16)]:=by rw[gg,dif_neg h]
def Z65:Array Z:=Array.replicate 65 (.int .u8 0)
theorem c03(w:H):(Instr.alloc 192 true (Value.tuple #[])).run prog w=.ok (.pointer (some ⟨w.heap.size,0,none⟩)) (w.alloc (.cells Z65 192)):=Rz
structure Nk (w:H) (b:Nat) (l:O) (wr:H):Prop where
 blk:∃c,wr.heap[b]?= some (.cells c 192 (0,0))/\c.size=65/\∀t (h:t<l.length),c[65-l.length+t]?= some (.int .u8 (G l[t]))
 bL:r7 w wr
theorem Nk.fresh(w:H):Nk w w.heap.size [] (w.alloc (.cells Z65 192)) :=
 ⟨⟨_,jp w _,by simp[Z65],λt h=>by simp at h⟩,(gT _ _).alloc (ag _) _⟩
theorem Nk.cell{w wr:H}{b:Nat}{l:O}(h:Nk w b l wr)(i:Nat)(hi:i<65):(∃v,wr.cell? ⟨b,i,none⟩=some v)/\wr.frozen? ⟨b,i,none⟩=false:=by
 obtain⟨⟨c,Y,I,_⟩,_⟩:=h;refine⟨⟨c[i],?_⟩,Go.Joins.unfrozen_of_block Y i⟩;rw[Go.Joins.cell_of_block Y];simp[I,hi]
theorem Nk.put{w wr:H}{b:Nat}{l:O}(h:Nk w b l wr)(U:w.heap.size<=b)(x:UInt8)(hl:l.length<65)(i:Nat)(hi:i=64-l.length):Nk w b (x::l) (wr.setCell ⟨b,i,none⟩ (.int .u8 (G x))):=by
 obtain⟨⟨c,Y,I,a⟩,d⟩:=h;subst hi;refine⟨⟨_,Go.Joins.block_setCell Y _,by simp[I],λt e=>?_⟩,d.setCell U _⟩;rw[Array.getElem?_setIfInBounds];simp only[cz]at e⊢;cases t with
 |zero =>
  rw[ge M0,ge M0];rfl
 |succ t =>
  rw[gc M0];have:=a t M0;rw[show 65-(l.length+1)+(t+1)=65-l.length+t by omega,this];rfl
theorem Nk.at{w wr:H}{b:Nat}{l:O}(h:Nk w b l wr)(_:l.length<=65):At wr b (65-l.length) (Lib.byteCells l):=by
 obtain⟨⟨c,Y,I,d⟩,_⟩:=h;intro j e;have a:j<l.length:=by simpa[Lib.byteCells]using e
 rw[Go.Joins.cell_of_block Y,d j a];simp[Lib.byteCells,G]
theorem a0r(v:Nat)(hv:v<65536):bits BinOp.and IntKind.u64 (v:Int) 15=((v%16:Nat):Int):=by
 have h:=bits_mask .u64 63 P8 (λn h0 Y=>by rw[IntKind.wrap_u64];omega) 4 P8 (v:Int) M0 M0;have e:((2:Int) ^ 4-1)=15:=P8;have a:((2:Int) ^ 4)=16:=P8;rw[e,a]at h;rw[h];omega
theorem Iz:∀k:Fin 16,((⟨#[48,49,50,51,52,53,54,55,56,57,97,98,99,100,101,102,103,104,105,106,107,108,109,110,111,112,113,114,115,116,117,118,119,120,121,122]⟩:ByteArray)[k.val]'(by have:=k.isLt;show k.val<36;omega))=vE k.val:=by decide +kernel
theorem ZW(u:Nat)(hu:u<65536)(sv:Z)(n:Nat)(l:O)(B:Nat)(w:H)(hE:NE w)(hB:B<=w.heap.size)(hown:w.ownsRow B 5 1 sv n (Lib.byteCells l))(hlim:n<=1024000000) :
  Calls prog 155 #[sv,.int .u64 u,.int .i64 16,.bool false,.bool true] w λe w'=>∃v' s,e=.returned (.tuple #[v',s])/\w'.ownsRow B 5 1 v' (n+(gg u).length) (Lib.byteCells (l++gg u))/\Below B w w':=by
 obtain⟨i0,C,hz0,Q,hz2⟩:=info_parts jn;have N:=λW (h:NE W)=>a5L W h;have HTZ:=F N;clear N;have X1:=F<|λW=>VW W;have HE:=F hE;clear hE;have HO:=F hown;clear hown;go_enter func155,ntmps155
 go_wp2_with(first|(refine aM rfl 192 rfl _ _ (c03 _) ?_)|(go_at_call 198;refine(X1.o _).e ?_)|(go_at_call 199;refine(HTZ.o _ (HE.o.below ((gT _ _).alloc (ag _) _))).e ?_))
 obtain⟨b,HB⟩:=ey (w.heap.size);rw[<-HB.o];have i:=Nk.fresh w;rw[<-HB.o]at i;have HD0:=F i;clear i
 go_loopw [1,13] (λuv iv wr=>∃(v:Nat) (t:O),uv=.int .u64 v/\iv=.int .i64 (65-t.length:Nat)/\Hid (gg v++t=gg u)/\Hid (t.length<=3/\v<16 ^ (4-t.length))/\Hid (Nk w b t wr)) (λuv _ _=>(intOf uv).toNat)
 exact⟨u,[],rfl,rfl,aV _,⟨Oc,by simpa using hu⟩,HD0.o⟩
 obtain⟨v,t,rfl,rfl,X,f,hd⟩:=hrel;obtain⟨hl1,d⟩:=f.o;have hv:v<65536:=aN d (Nat.pow_le_pow_right (n:=16) M0 (show 4-t.length<=4 by omega));obtain⟨y,hI,J,hJ⟩:=ac (((65-t.length:Nat):Int):Int) (64-t.length:Nat);have hIJ:y-1=(J:Int):=M0;have hJb:J<65:=M0;have hIb:1<=y/\y<=65:=M0;obtain⟨⟨v0,c1⟩,f1⟩:=hd.o.cell J hJb;rw[<-hI];have HI:=F hI;clear hI;have R:=F hJ;clear hJ hl1 d;by_cases h16:(16:Int)<=v
 ·obtain⟨r,hr⟩:=V (v%16:Nat)
  have hand:bits BinOp.and IntKind.u64 (v:Int) 15=(r:Int):=by rw[a0r v hv,hr]
  have b9D:r<16:=M0;have HR:=F hr;clear hr;go_wp2_with fail;go_roundw
  ·have a:=hd.o.put (by have:=HB.o;omega) (vE r) (by have:=f.o;omega) J R.o;refine⟨v/16,vE r::t,Oc,?_,?_,?_,?_⟩
   ·rw[cz,show 65-(t.length+1)=J by have:=R.o;omega]
   ·show gg (v/16)++vE r::t=gg u
    rw[<-X.o,IQ (show ¬v<16 by omega),HR.o];simp
   ·have d:=f.o.2
    have h3:t.length<=2:=by
     rcases cI t.length 3 with h|h
     ·omega
     rw[show 4-t.length=1 by have:=f.o.1;omega]at d;omega
    refine⟨by rw[cz];omega,?_⟩;rw[cz,show 4-t.length=(4-(t.length+1))+1 by omega,b1o]at *;omega
   have e:=Iz ⟨r,b9D⟩;simp only at e;rw[e];exact a
  ·simp[intOf];omega
 have z:v<16:=M0
 have M:∀W,(Instr.sliceAt 192 (.pointer (some ⟨b,0,none⟩)) (some (.int .i64 (J:Int))) none none).run prog W=.ok (.slice (some ⟨b,J,none⟩) (65-J) (65-J)) W:=λW=>by
  rw[run_sliceAt_array_l W 192 ⟨b,0,none⟩ (by simp[Program.arrayLen,Program.elem,underlying192]) .i64 (J:Int) M0 (by simp[Program.arrayLen,underlying192];omega)];have he:prog.elem 192=5:=by simp[Program.elem,underlying192]
  have hal:prog.arrayLen 192=65:=by simp[Program.arrayLen,underlying192]
  simp[sizeOf,typeInfo,he,hal,C,Q,slicedAt,addr_add];omega
 have a:=hd.o.put (by have:=HB.o;omega) (vE v) (by have:=f.o;omega) J R.o;have T:vE v::t=gg u:=by have:=X.o;rw[b6U z]at this;exact this
 have q:65-J=(gg u).length:=by rw[<-T,cz];have:=R.o;have:=f.o;omega
 have hDm:(gg u).length<=4:=by rw[<-T,cz];have:=f.o;omega
 have c:=a.at (by rw[cz];have:=f.o;omega);rw[T]at a c;rw[show 65-(gg u).length=J by omega]at c;have g:=Iz ⟨v,z⟩;simp only at g;rw[<-g]at a c;rw[q]at M;obtain⟨D,HDD⟩:=ey (gg u);rw[<-HDD.o]at a c M q hDm⊢;clear T g;have hbel:=a.bL;have eJ:=F<|HO.o.kept (row:=none) ⟨hbel.os,hbel.tape,hbel.output,hbel.size,λk hk _=>hbel.block k hk⟩ (by cases hv:sv.ownBlock <;>simp);have lZ:=F hbel;clear hbel;have HAT:=F c;clear c;clear a q;have hn:=HO.o.1;rw[hb]at hn;have HN:=F hn;clear hn
 go_wp2_with(at_builtin;refine wpList_append_own _ rfl _ _ 25 rfl B 5 i0 (.int .u8 0) 1 1 underlying25 C hz0 Q hz2 rfl P8 _ _ _ rfl eJ.o ⟨b,J,none⟩ D.length D.length (Lib.byteCells D) rfl ?c0 ?c1 ?c2 ?c3 ?c4 ?c5 ?_)
 case c0=>rw[hb,b5v]
 case c1 =>
  intro j u' hj;have K:=(bh.1 hj).1;rw[addr_add];rw[aG K]at hj;exact Eq.trans (HAT.o j K) hj
 case c2=>intro u' P;simp only[Lib.byteCells,dt]at P;obtain⟨_,_,rfl⟩:=P;rfl
 case c3=>unfold maxLen;omega
 case c4=>omega
 case c5=>exact am hB lZ.o.size
 intro v' w' L hg' _;go_wp2_with fail
 go_ret2
 have hcc:Lib.byteCells l++Lib.byteCells D=Lib.byteCells (l++D):=by simp[Lib.byteCells]
 rw[hcc]at L;rw[<-HDD.o];exact⟨v',_,rfl,L,(lZ.o.m hB).grown hg' (am hB lZ.o.size) (λk hk=>(eJ.o.lt k hk).1)⟩
theorem BG(u:Nat)(hu:u<65536)(i:Z)(n:Nat)(l:O)(B:Nat)(w:H)(k:NE w)(s:B<=w.heap.size)(hown:w.ownsRow B 5 1 i n (Lib.byteCells l))(hlim:n<=1024000000) :
  Calls prog 104 #[i,.int .u64 u,.int .i64 16] w λe h=>∃g,e=.returned g/\h.ownsRow B 5 1 g (n+(gg u).length) (Lib.byteCells (l++gg u))/\Below B w h:=by
 have p:=ZW u hu i n l B w k s hown hlim
 have f:Calls prog 151 #[i,.int .u64 u,.int .i64 16] w λe h=>∃g,e=.returned g/\h.ownsRow B 5 1 g (n+(gg u).length) (Lib.byteCells (l++gg u))/\Below B w h:=by
  have q:=F p;clear p k hown;go_enter func151,ntmps151
  go_wp2_with(go_at_call 155;refine q.o.m ?_;rintro e t⟨v2,s2,rfl,c,a⟩;have j:=F c;have d:=F a;clear c a)
  go_ret;exact⟨v2,rfl,j.o,d.o⟩
 have r:=F f;clear f p k hown;go_enter func104,ntmps104
 go_wp2_with(go_at_call 151;refine r.o.m ?_;rintro e t⟨v2,rfl,c,a⟩;have j:=F c;have d:=F a;clear c a)
 go_ret;exact⟨v2,rfl,j.o,d.o⟩
theorem NS(u:Nat)(hu:u<18446744073709551616)(i:Z)(n:Nat)(l:O)(B:Nat)(w:H)(r:NE w)(q:B<=w.heap.size)(hown:w.ownsRow B 5 1 i n (Lib.byteCells l))(hlim:n<=1024000000) :
  Calls prog 104 #[i,.int .u64 u,.int .i64 10] w λe c=>∃a,e=.returned a/\c.ownsRow B 5 1 a (n+(Lib.decDigits u).length) (Lib.byteCells (l++Lib.decDigits u))/\Below B w c:=by
 have f:Calls prog 151 #[i,.int .u64 u,.int .i64 10] w λe c=>∃a,e=.returned a/\c.ownsRow B 5 1 a (n+(Lib.decDigits u).length) (Lib.byteCells (l++Lib.decDigits u))/\Below B w c:=by
  have p:Lib.byteCells l++Lib.byteCells (Lib.decDigits u)=Lib.byteCells (l++Lib.decDigits u):=by simp[Lib.byteCells]
  rw[<-p];by_cases h:u<100
  ·exact(Any.internal_strconv_AppendUint_10_small laysAU B n u h i _ w hown q M0).m λe c ⟨a,Y,I,k,_⟩=>⟨a,Y,I,k⟩
  exact(Any.internal_strconv_AppendUint_10_big laysAU B n u M0 hu i _ w hown q M0 r.tab).m λe c ⟨a,Y,I,k,_⟩=>⟨a,Y,I,k⟩
 have s:=F f;clear f r hown;go_enter func104,ntmps104
 go_wp2_with(go_at_call 151;refine s.o.m ?_;rintro e w2⟨v2,rfl,g,d⟩;have t:=F g;have j:=F d;clear g d)
 go_ret;exact⟨v2,rfl,t.o,j.o⟩

theorem uB(v:Nat)(hv:v<4294967296):bits BinOp.and IntKind.u32 (v:Int) 255=((v%256:Nat):Int):=by
 have h:=bits_mask .u32 32 P8 (λn h0 Y=>by rw[IntKind.wrap_u32];omega) 8 P8 (v:Int) M0 M0;have e:((2:Int) ^ 8-1)=255:=P8;have a:((2:Int) ^ 8)=256:=P8;rw[e,a]at h;rw[h];omega
def tj(n:Nat):O:=Lib.decDigits (n/16777216)++[46]++Lib.decDigits (n/65536%256)++[46]++Lib.decDigits (n/256%256)++[46]++Lib.decDigits (n%256)
theorem BZ{u:Nat}(h:u<256):(Lib.decDigits u).length<=3:=my 2 u M0
def lI(n:Nat):Nat->O
 |0=>[]
 |1=>Lib.decDigits (n/16777216)++[46]
 |2=>Lib.decDigits (n/16777216)++[46]++Lib.decDigits (n/65536%256)++[46]
 |3=>Lib.decDigits (n/16777216)++[46]++Lib.decDigits (n/65536%256)++[46]++Lib.decDigits (n/256%256)++[46]
 |_=>tj n
theorem yu(n:Nat)(hn:n<4294967296)(k:Nat):(lI n k).length<=15:=by
 have Y:=BZ (u:=n/16777216) M0;have I:=BZ (u:=n/65536%256) M0;have h3:=BZ (u:=n/256%256) M0;have h4:=BZ (u:=n%256) M0;unfold lI tj
 split <;>simp only[ae,cz,aO] <;>omega
theorem Lb(n:Nat)(a:n<4294967296):(tj n).length<=15:=yu n a 4
theorem FM(n:Nat)(hn:n<4294967296)(w:H)(hE:NE w) :
  bF prog 61 #[.int .u32 n] w (S (tj n)):=by
 obtain⟨i0,y,z,B,C⟩:=info_parts jn
 have IM:=λ(u:Nat) (hu:u<256) (p:Z) (l:O) (W:H) (U:r7 w W) (R:W.ownsRow w.heap.size 5 1 p l.length (Lib.byteCells l)) (j:l.length<=15) =>
  NS u M0 p l.length l w.heap.size W (hE.below U) U.size R M0
 have N:=F IM;clear IM hE;have x:=yu n hn;have Q:n/16777216<256:=M0;have r:n/65536%256<256:=M0;have t:n/256%256<256:=M0;have v:n%256<256:=M0
 have m0:bits BinOp.and IntKind.u32 ((n:Int)/16777216) 255=((n/16777216:Nat):Int):=by
  have h:=uB (n/16777216) M0;rw[S9 Q]at h;exact h
 have m1:bits BinOp.and IntKind.u32 ((n:Int)/65536) 255=((n/65536%256:Nat):Int):=uB (n/65536) M0;have m2:bits BinOp.and IntKind.u32 ((n:Int)/256) 255=((n/256%256:Nat):Int):=uB (n/256) M0;have m3:bits BinOp.and IntKind.u32 (n:Int) 255=((n%256:Nat):Int):=uB n M0;have T:lI n 1=lI n 0++Lib.decDigits (n/16777216)++[46]:=rfl;have x1:lI n 2=lI n 1++Lib.decDigits (n/65536%256)++[46]:=rfl;have x2:lI n 3=lI n 2++Lib.decDigits (n/256%256)++[46]:=rfl;have x3:lI n 4=lI n 3++Lib.decDigits (n%256):=rfl;have x4:tj n=lI n 4:=rfl;have x5:lI n 0=[]:=rfl;rw[x4];generalize n/16777216=a0 at Q m0 T;generalize n/65536%256=a1 at r m1 x1;generalize n/256%256=a2 at t m2 x2;generalize n%256=a3 at v m3 x3;have e0:=BZ Q;have e1:=BZ r;have e2:=BZ t;have e3:=BZ v;have hni:(n:Int)<4294967296:=M0;generalize lI n=K at x T x1 x2 x3 x5⊢;clear x4;have HX0:=F T;clear T;have TM:=F x1;clear x1;have TO:=F x2;clear x2;have HX3:=F x3;clear x3;have HX5:=F x5;clear x5;have M:=F x;clear x;have HE0:=F e0;clear e0;have HE1:=F e1;clear e1;have HE2:=F e2;clear e2;have HE3:=F e3;clear e3;go_enter func61,ntmps61;go_wp2_with fail
 go_loopw [3,4] (λov p wr=>∃k:Nat,Hid (((k=0/\p=.int .i64 24)\/(k=1/\p=.int .i64 16)\/(k=2/\p=.int .i64 8)\/(k=3/\p=.int .i64 0)\/(k=4/\p=.int .i64 (-8)))/\wr.ownsRow w.heap.size 5 1 ov (K k).length (Lib.byteCells (K k))/\r7 w wr)) (λ_ s _=>(intOf s+8).toNat)
 case atStart =>
  refine⟨0,.inl ⟨rfl,rfl⟩,?_,gT _ _⟩;rw[HX5.o];exact⟨by simp[Lib.byteCells],.inl ⟨rfl,rfl⟩⟩
 case round =>
  obtain⟨k,hk⟩:=hrel;obtain⟨hk,R,U⟩:=hk.o;have D:=F R;clear R;have HB:=F U;clear U;rcases hk with⟨rfl,rfl⟩|⟨rfl,rfl⟩|⟨rfl,rfl⟩|⟨rfl,rfl⟩|⟨rfl,rfl⟩
  ·have j:=M.o 0
   go_wp2_with(first|(go_at_call 104;refine(N.o a0 Q _ _ _ HB.o D.o j).m ?_;rintro e w2⟨v2,rfl,d,c⟩;have q:=F d;clear d;have a:=F<|HB.o.trans c;clear c;have g:=a.o.size)|(at_builtin;(refine et rfl 18 19 _ rfl w.heap.size 5 i0 (.int .u8 0) 1 underlying25 y z B C P8 _ _ _ _ rfl q.o (.int .u8 46) rfl rfl (by have:=HE0.o;omega) P8 g ?_);intro v3 w3 hown3 J f;have L:=F hown3;clear hown3;have i:=F f;clear f))
   go_roundw
   ·refine⟨1,.inr <| .inl ⟨rfl,rfl⟩,?_,a.o.trans i.o⟩;rw[HX0.o,show([46]:O)=[(46:UInt8)]from rfl,dR,ae,ae];exact L.o
   ·simp[intOf]
  ·have j:=M.o 1
   go_wp2_with(first|(go_at_call 104;refine(N.o a1 r _ _ _ HB.o D.o j).m ?_;rintro e w2⟨v2,rfl,d,c⟩;have q:=F d;clear d;have a:=F<|HB.o.trans c;clear c;have g:=a.o.size)|(at_builtin;(refine et rfl 18 19 _ rfl w.heap.size 5 i0 (.int .u8 0) 1 underlying25 y z B C P8 _ _ _ _ rfl q.o (.int .u8 46) rfl rfl (by have:=HE1.o;omega) P8 g ?_);intro v3 w3 hown3 J f;have L:=F hown3;clear hown3;have i:=F f;clear f))
   go_roundw
   ·refine⟨2,.inr <| .inr <| .inl ⟨rfl,rfl⟩,?_,a.o.trans i.o⟩;rw[TM.o,show([46]:O)=[(46:UInt8)]from rfl,dR,ae,ae];exact L.o
   ·simp[intOf]
  ·have j:=M.o 2
   go_wp2_with(first|(go_at_call 104;refine(N.o a2 t _ _ _ HB.o D.o j).m ?_;rintro e w2⟨v2,rfl,d,c⟩;have q:=F d;clear d;have a:=F<|HB.o.trans c;clear c;have g:=a.o.size)|(at_builtin;(refine et rfl 18 19 _ rfl w.heap.size 5 i0 (.int .u8 0) 1 underlying25 y z B C P8 _ _ _ _ rfl q.o (.int .u8 46) rfl rfl (by have:=HE2.o;omega) P8 g ?_);intro v3 w3 hown3 J f;have L:=F hown3;clear hown3;have i:=F f;clear f))
   go_roundw
   ·refine⟨3,.inr <| .inr <| .inr <| .inl ⟨rfl,rfl⟩,?_,a.o.trans i.o⟩;rw[TO.o,show([46]:O)=[(46:UInt8)]from rfl,dR,ae,ae];exact L.o
   ·simp[intOf]
  ·have j:=M.o 3
   go_wp2_with(go_at_call 104;refine(N.o a3 v _ _ _ HB.o D.o j).m ?_;rintro e w2⟨v2,rfl,d,c⟩;have q:=F d;clear d;have a:=F<|HB.o.trans c;clear c;have g:=a.o.size)
   go_roundw
   ·refine⟨4,.inr <| .inr <| .inr <| .inr ⟨rfl,rfl⟩,?_,a.o⟩;rw[HX3.o,ae];exact q.o
   ·simp[intOf]
  have hcv:=jq (P:=prog) (src:=25) (dst:=9) underlying25 underlying5 underlying9 D.o;go_wp2_with fail;go_ret;exact⟨rfl,HB.o⟩
theorem b7F(n:Nat)(hn:n<4294967296)(w:H) :
  bF prog 64 #[.int .u32 n] w (S (tj n)):=by
 have i:=λ(u:Nat) (hu:u<256) (q:Int) (hq:q=(u:Int)) W=>(hq▸b1k u W M0:bF prog 107 #[.int .i64 q] W (S (Lib.decDigits u)));have r:n/16777216<256:=M0;have a:n/65536%256<256:=M0;have c:n/256%256<256:=M0;have d:n%256<256:=M0;have s:(n:Int)/16777216=((n/16777216:Nat):Int):=M0;have t:(n:Int)/65536%256=((n/65536%256:Nat):Int):=M0;have v:(n:Int)/256%256=((n/256%256:Nat):Int):=M0;have y:(n:Int)%256=((n%256:Nat):Int):=M0;have x:tj n=Lib.decDigits (n/16777216)++[46]++Lib.decDigits (n/65536%256)++[46]++Lib.decDigits (n/256%256)++[46]++Lib.decDigits (n%256):=rfl;generalize n/16777216=a0 at r s x;generalize n/65536%256=J at a t x;generalize n/256%256=a2 at c v x;generalize n%256=a3 at d y x;have e0:=BZ r;have P:=BZ a;have Q:=BZ c;have R:=BZ d;have hni:(n:Int)<4294967296:=M0;have z:=i a0 r _ s;have B:=i J a _ t;have C:=i a2 c _ v;have D:=i a3 d _ y;generalize Lib.decDigits a0=d0 at e0 x z;generalize Lib.decDigits J=d1 at P x B;generalize Lib.decDigits a2=d2 at Q x C;generalize Lib.decDigits a3=d3 at R x D;have K:=F x;clear x;have R0:=F z;clear z;have L:=F B;clear B;have M:=F C;clear C;have N:=F D;clear D;clear i s t v y r a c d;go_enter func64,ntmps64;go_wp2_with fail;refine(R0.o _).k λw1 f=>?_;go_wp2_with fail;refine(L.o _).k λw2 k=>?_;have g:=F<|f.o.trans (k.o.m f.o.size);clear k;go_wp2_with fail;refine(M.o _).k λw3 l=>?_;have h:=F<|g.o.trans (l.o.m g.o.size);clear l;go_wp2_with fail;refine(N.o _).k λw4 p=>?_;have T:=F<|h.o.trans (p.o.m h.o.size);clear p;go_wp2_with fail;go_ret;refine⟨AK ?_,T.o⟩;rw[K.o];simp[Gs,Jl]

def pq(z:List Bool)(j:Nat):Nat:=j+((z.drop j).takeWhile id).length
theorem Mj{z:List Bool}{j:Nat}(a:j<z.length)(h:z[j]=true):pq z j=pq z (j+1):=by
 unfold pq;rw[aC a,List.takeWhile_cons,h];simp;omega
theorem Ml{z:List Bool}{j:Nat}(a:j<z.length)(h:z[j]=false):pq z j=j:=by
 unfold pq;rw[aC a,List.takeWhile_cons,h];simp
theorem RP{z:List Bool}{j:Nat}(a:z.length<=j):pq z j=j:=by
 unfold pq;rw[bE a];simp
def nG(z:List Bool):Nat->Nat->Nat->Nat->Nat×Nat
 |0,_,b,e=>(b,e)
 |f+1,i,b,e=>if i<8 then(if 2<=pq z i-i/\e-b<pq z i-i then nG z f (pq z i+1) i (pq z i)else nG z f (pq z i+1) b e)else(b,e)
def sA(z:List Bool):Nat×Nat:=nG z 9 0 0 0
def a0q(z:List Bool):Nat->Nat->Nat->Nat->Nat×Nat
 |0,_,b,m=>(b,m)
 |f+1,i,b,m=>if i<8 then(if m<pq z i-i then a0q z f (i+1) i (pq z i-i)else a0q z f (i+1) b m)else(b,m)
def XV(z:List Bool):Nat×Nat:=a0q z 9 0 8 1
def iR(b e:Nat):Nat->Nat->List Nat
 |0,_=>[]
 |f+1,i=>if i<8 then(if i=b/\b<e then 101::iR b e f e else(if 0<i/\(i≠e\/e=b)then [100]else [])++i::iR b e f (i+1))else []
def a0X(b m:Nat):Nat->Nat->Bool->List Nat
 |0,_,_=>[]
 |f+1,i,c=>if i<8 then(if i=b then 101::a0X b m f (i+m) false else(if c then [100]else [])++i::a0X b m f (i+1) true)else []
def rj(a:List Int)(t:Nat):O:=if t=100 then [58]else if t=101 then [58,58]else gg (a.getD t 0).toNat
def iU(a:List Int)(l:List Nat):O:=l.flatMap (rj a)
def rJ(a:List Int):List Bool:=a.map λn=>decide (n=0)
def uc(a:List Int):O:=iU a (iR (sA (rJ a)).1 (sA (rJ a)).2 9 0)
def b7b(a:List Int):O:=iU a (a0X (XV (rJ a)).1 (XV (rJ a)).2 9 0 false)
def a25:List (List Bool):=(List.range 256).map λk=>(List.range 8).map λi=>decide (k/2 ^ i%2=1)
theorem vU(z:List Bool)(h:z.length=8):z∈a25:=by
 match z,h with
 | [a,b,c,d,e,f,g,i],_ =>
  cases a <;>cases b <;>cases c <;>cases d <;>cases e <;>cases f <;>cases g <;>cases i <;>decide +kernel
theorem xa:∀z∈a25,iR (sA z).1 (sA z).2 9 0=a0X (XV z).1 (XV z).2 9 0 false/\(sA z).1<=(sA z).2/\(sA z).2<=8/\1<=(XV z).2/\(XV z).2<=8/\(XV z).1<=8/\((XV z).1<8->(XV z).1+(XV z).2<=8):=by decide +kernel
theorem uG(a:List Int):(rJ a).length=a.length:=by simp[rJ]
theorem b1s(a:List Int)(h:a.length=8):b7b a=uc a:=by
 unfold b7b uc;rw[(xa (rJ a) (vU _ (by rw[uG];exact h))).1]
theorem qT:∀(k u:Nat),u<16 ^ (k+1)->(gg u).length<=k+1
 |0,u,h=>by rw[b6U (by simpa using h)];simp
 |k+1,u,h=>by
  by_cases a:u<16
  ·rw[b6U a];simp
  rw[IQ a];have:=qT k (u/16) (by rw[b1o]at h;omega);simp;exact this
theorem a8S(u:Nat):gg u ≠ []:=by
 by_cases h:u<16
 ·rw[b6U h];simp
 rw[IQ h];simp
theorem Mc(a:List Int)(d:∀n∈a,0<=n/\n<65536)(t:Nat):(rj a t).length<=4:=by
 unfold rj
 split
 ·simp
 split
 ·simp
 apply qT 3
 by_cases c:t<a.length
 ·have:=d a[t] (be _)
  simp[List.getD,c];omega
 simp[List.getD,List.getElem?_eq_none (Nat.le_of_not_lt c)]
theorem yW(a:List Int)(c:∀n∈a,0<=n/\n<65536):∀l:List Nat,(iU a l).length<=4*l.length
 | []=>by simp[iU]
 |t::l=>by
  have Y:=Mc a c t;have I:=yW a c l;simp only[iU,cM,ae,cz]at I⊢;omega
theorem wX(b e:Nat):∀f i,(iR b e f i).length<=2*f
 |0,_=>by simp[iR]
 |f+1,i=>by
  unfold iR;have Y:=wX b e f e;have I:=wX b e f (i+1)
  split
  ·split
   ·simp;omega
   split <;>simp <;>omega
  simp
theorem ro(a:List Int)(c:∀n∈a,0<=n/\n<65536):(uc a).length<=72:=by
 have Y:=yW a c (iR (sA (rJ a)).1 (sA (rJ a)).2 9 0);have I:=wX (sA (rJ a)).1 (sA (rJ a)).2 9 0;unfold uc;omega

structure Six (cs:Array Z) (a:List Int):Prop where
 sz:cs.size=8
 len:a.length=8
 at_:∀k (h:k<a.length),cs[k]?= some (.int .u16 a[k])
 rng:∀n∈a,0<=n/\n<65536
theorem oC{w:H}{b:Nat}{cs:Array Z}(o:Nat)(h:∀i,w.cell? ⟨b,o+i,none⟩=cs[i]?):w.rangeAt b o cs.toList:=by
 intro j v a;rw[h j];rw[iL]at a;exact a
theorem tB(a:List Int)(cs:Array Z)(w:H)(h:Six cs a) :
  bF prog 105 #[.agg cs] w (.tuple #[.int .i64 (sA (rJ a)).1,.int .i64 (sA (rJ a)).2]):=by
 have hlen:=h.len;have v:=h.at_;obtain⟨z,L⟩:=V (rJ a);have K:z.length=8:=by rw[L,uG];exact hlen
 have J:∀k (hk:k<a.length) (hk2:k<z.length),z[k]=decide (a[k]=0):=by intro k hk hk2;subst L;simp[rJ]
 rw[<-L];clear h L;have M:=F v;clear v;have u:=F K;clear K;have N:=F J;clear J;have HLEN:=F hlen;clear hlen;obtain⟨R,HR⟩:=ey (sA z);rw[<-HR.o];go_enter func105,ntmps105
 go_wp2_with(refine boxed rfl _ _ rfl cs rfl ?_;intro bx w1 T W hb3 y B;have HC:=F y;have HB:=F B;clear T W hb3 y B)
 go_loopw [4,5,6] (λbv ev iv wr=>∃b e i f:Nat,bv=.int .i64 b/\ev=.int .i64 e/\iv=.int .i64 i/\Hid (nG z f i b e=R)/\8<=i+f/\b<=e/\e<=8/\i<=9/\w1=wr) (λ_ _ i _=>9-(intOf i).toNat)
 exact⟨0,0,0,9,rfl,rfl,rfl,HR.o.symm,M0,M0,M0,M0,by trivial⟩
 obtain⟨b,e,i,f,rfl,rfl,rfl,C,hif,hbe,he8,hi9,rfl⟩:=hrel;by_cases g:i<8
 ·obtain⟨c,rfl⟩:∃c,f=c+1:=⟨f-1,M0⟩
  go_wp2_with fail
  go_loopw [7] (λjv wr=>∃j:Nat,jv=.int .i64 j/\i<=j/\j<=8/\Hid (pq z j=pq z i)/\w1=wr) (λj _=>8-(intOf j).toNat)
  exact⟨i,rfl,M0,M0,rfl,rfl⟩
  obtain⟨j,rfl,hij,hj8,hrun,rfl⟩:=hrel;by_cases hj:j<8
  ·have D:j<a.length:=by have:=HLEN.o;omega
   have t:j<z.length:=by have:=u.o;omega
   have cj:=(HC.o j).trans (M.o j D);have n:=N.o j D t;by_cases X:a[j]=0
   ·rw[X]at cj
    have p:=Mj t (by rw[n];simpa using X);have q:=F<|p.symm.trans hrun.o;clear p n X;go_wp2_with fail;go_roundw
    ·rw[gr (show(i:Int)<8 by omega)]
     (repeat apply Exists.intro)
     exact⟨⟨j+1,Oc,M0,M0,q.o,by trivial⟩,rfl⟩
    exact aa
   have p:=Ml t (by rw[n];simpa using X);have q:=F<|p.symm.trans hrun.o;clear p n hrun;generalize a[j]=x at cj X;by_cases m:2<=j-i/\e-b<j-i
   ·have l:=F<|(show nG z c (j+1) i j=nG z (c+1) i b e by rw[nG,ge g,<-q.o,ge m]).trans C.o
    have d:(2:Int)<=(j:Int)-i:=M0;have r:(e:Int)-b<(j:Int)-i:=M0;clear m;go_wp2_with fail;go_roundw
    exact⟨i,j,j+1,c,rfl,rfl,Oc,l.o,M0,M0,M0,M0,by trivial⟩
    exact aa
   have l:=F<|(show nG z c (j+1) b e=nG z (c+1) i b e by rw[nG,ge g,<-q.o,gc m]).trans C.o;have s:¬(2:Int)<=(j:Int)-i\/((2:Int)<=(j:Int)-i/\¬(e:Int)-b<(j:Int)-i):=M0;clear m;rcases s with d|⟨d,r⟩
   all_goals
    go_wp2_with fail;go_roundw
    exact⟨b,e,j+1,c,rfl,rfl,Oc,l.o,M0,M0,M0,M0,by trivial⟩
    exact aa
  have P:j=8:=M0;have p:=RP (z:=z) (j:=j) (by have:=u.o;omega);have q:=F<|p.symm.trans hrun.o;clear p hrun;have b4C:¬(j:Int)<8:=M0;clear P;by_cases m:2<=j-i/\e-b<j-i
  ·have l:=F<|(show nG z c (j+1) i j=nG z (c+1) i b e by rw[nG,ge g,<-q.o,ge m]).trans C.o
   have d:(2:Int)<=(j:Int)-i:=M0;have r:(e:Int)-b<(j:Int)-i:=M0;clear m;go_wp2_with fail;go_roundw
   exact⟨i,j,j+1,c,rfl,rfl,Oc,l.o,M0,M0,M0,M0,by trivial⟩
   exact aa
  have l:=F<|(show nG z c (j+1) b e=nG z (c+1) i b e by rw[nG,ge g,<-q.o,gc m]).trans C.o;have s:¬(2:Int)<=(j:Int)-i\/((2:Int)<=(j:Int)-i/\¬(e:Int)-b<(j:Int)-i):=M0;clear m;rcases s with d|⟨d,r⟩
  all_goals
   go_wp2_with fail;go_roundw
   exact⟨b,e,j+1,c,rfl,rfl,Oc,l.o,M0,M0,M0,M0,by trivial⟩
   exact aa
 have Lf:¬(i:Int)<8:=M0;have l:=F<|(show nG z f i b e=(b,e) by cases f with|zero=>rfl|succ f=>rw[nG,gc g]).symm.trans C.o;go_wp2_with fail
 go_ret2
 refine⟨?_,HB.o⟩;rw[<-l.o];rfl
theorem gY(a:List Int)(t:Nat)(l:List Nat):iU a (t::l)=rj a t++iU a l:=by simp[iU]
theorem Sk{b e f i:Nat}(hi:i<8)(h:i=b/\b<e):iR b e (f+1) i=101::iR b e f e:=by rw[iR,ge hi,ge h]
theorem wW{b e f i:Nat}(hi:i<8)(h:¬(i=b/\b<e))(a:0<i/\(i≠e\/e=b)):iR b e (f+1) i=100::i::iR b e f (i+1):=by rw[iR,ge hi,gc h,ge a];rfl
theorem wY{b e f i:Nat}(hi:i<8)(h:¬(i=b/\b<e))(a:¬(0<i/\(i≠e\/e=b))):iR b e (f+1) i=i::iR b e f (i+1):=by rw[iR,ge hi,gc h,gc a];rfl
theorem DX{b e f i:Nat}(hi:¬i<8):iR b e f i=[]:=by cases f with|zero=>rfl|succ f=>rw[iR,gc hi]
theorem tF(a:List Int)(ha:a.length=8)(i:Nat)(hi:i<a.length):rj a i=gg (a[i]).toNat:=by
 unfold rj;rw[gc M0,gc M0];simp[List.getD,hi]
theorem Mw(a:List Int)(cs:Array Z)(w:H)(h:Six cs a)(hE:NE w)(s:(sA (rJ a)).2=(sA (rJ a)).1) :
  bF prog 62 #[.agg cs] w (S (uc a)):=by
 obtain⟨i0,hi0,hz0,hz1,hz2⟩:=info_parts jn;have XJ:=λW=>tB a cs W h;have hlen:=h.len;have hat:=h.at_;have vH:=h.rng;have hsz:=h.sz;have hall:=xa (rJ a) (vU _ (by rw[uG];exact hlen));have v:uc a=iU a (iR (sA (rJ a)).1 (sA (rJ a)).2 9 0):=rfl;have Q:=ro a vH;rw[s]at XJ hall v;clear s;obtain⟨b,U⟩:=V ((sA (rJ a)).1);rw[<-U]at XJ hall v;obtain⟨_,s,he8,_⟩:=hall;obtain⟨R,hR⟩:=V (uc a);rw[<-hR]at v Q⊢
 have IM:=λ(u:Nat) (hu:u<65536) (sv:Z) (n:Nat) (l:O) (B:Nat) (W:H) (U:r7 w W) (hB:B<=W.heap.size) (N:W.ownsRow B 5 1 sv n (Lib.byteCells l)) (hl:n<=100) =>
  BG u hu sv n l B W (hE.below U) hB N M0
 obtain⟨JW,HAT,HLEN,YB,eM,HLG,EG,HSL⟩:=er IM hat hlen vH hsz XJ v Q;have Eh:=F s;have HE8:=F he8;clear IM hat hlen vH hsz XJ v Q s he8 hE h hR U;go_enter func62,ntmps62
 go_wp2_with(first|(refine boxed rfl _ _ rfl cs rfl ?_;intro bx w1 hb1 r d c hb5;obtain⟨HC,HB,pw⟩:=cZ c hb5 r;clear hb1 r d c hb5)|(refine wpList_load_mid rfl 30 _ rfl bx 0 rfl cs.toList _ (oC 0 (by simpa using HC.o)) underlying30 rfl (by rw[fb,eM.o];kernel_rfl) ?_)|(go_at_call 105;rw[jh];refine(HLG.o _).m ?_;rintro e1 D⟨rfl,r⟩;have g:=F r;clear r))
 go_loopw [5,6] (λov iv wr=>∃(i f:Nat) (l:O),iv=.int .i64 i/\Hid (l++iU a (iR b b f i)=R)/\8<=i+f/\i<=8/\Hid (wr.ownsRow D.heap.size 5 1 ov l.length (Lib.byteCells l))/\Hid (r7 D wr)) (λ_ i _=>9-(intOf i).toNat)
 exact⟨0,9,[],rfl,EG.o.symm,M0,M0,⟨by simp[Lib.byteCells],.inl ⟨rfl,rfl⟩⟩,gT _ _⟩
 obtain⟨i,f,l,rfl,X,hif,tA,N,U⟩:=hrel;have hBB:r7 w _:=HB.o.trans ((g.o.m HB.o.size).trans (U.o.m (am HB.o.size g.o.size)));have kM:=F hBB;clear hBB
 have hll:l.length<=72:=by
  have Y:=congrArg List.length X.o;rw[ae]at Y;have:=HSL.o;omega
 have xM:=F hll;clear hll;by_cases M:i<8
 ·obtain⟨C,rfl⟩:∃C,f=C+1:=⟨f-1,M0⟩
  have Lf:(i:Int)<8:=M0;have e:=X.o;have hA:¬(i=b/\b<b):=M0;have L:i<a.length:=by have:=HLEN.o;omega
  have ci:=((g.o.trans (U.o.m g.o.size)).cell (p:=⟨bx,i,none⟩) pw.o).trans ((HC.o i).trans (HAT.o i L));have hri:=YB.o _ (be L);have k:=tF a HLEN.o i L;obtain⟨x,hx0⟩:=V (a[i]);rw[<-hx0]at ci hri k;obtain⟨n,rfl⟩:∃n:Nat,x=n:=⟨x.toNat,M0⟩;simp only[eV]at k;have hn:n<65536:=M0;have z:=qT 3 n M0;clear hx0 hri;by_cases Ae:0<i/\(i≠b\/b=b)
  ·rw[wW M hA Ae,gY,gY,k]at e
   have j:(l++[58]++gg n)++iU a (iR b b C (i+1))=R:=by rw[<-e];simp[rj]
   have HX:=F j;clear j e X k;have Xa:=F z;clear z;have h0:(0:Int)<i:=M0;clear Ae hA;by_cases t:i=b
   ·subst t
    have T:=U.o.size
    go_wp2_with(first|(at_builtin;(refine et rfl 40 41 _ rfl D.heap.size 5 i0 (.int .u8 0) 1 underlying25 hi0 hz0 hz1 hz2 P8 _ _ _ _ rfl N.o (.int .u8 58) rfl rfl (by have:=xM.o;omega) P8 T ?_);intro v3 w3 hown3 hw3 d;have jx:=F hown3;clear hown3;have q:=F<|U.o.trans d;have J:=F<|kM.o.trans (d.m (am HB.o.size g.o.size));have ci3:=(d.cell (p:=⟨bx,i,none⟩) (aN pw.o g.o.size)).trans ci;clear d)|(go_at_call 104;refine(JW.o n hn _ _ (l++[58]) D.heap.size _ J.o q.o.size (by rw[dR];exact jx.o) (by have:=xM.o;simp;omega)).m ?_;rintro e4 w4⟨v4,rfl,y,c⟩;have qp:=F y;clear y;have K:=F<|q.o.trans c;clear c))
    go_roundw
    ·refine⟨i+1,C,l++[58]++gg n,by simp_all,HX.o,M0,M0,?_,K.o⟩;have:=qp.o;rw[ae,ae];exact this
    ·simp_all[intOf] <;>omega
   have a9y:¬(i:Int)=b:=M0;clear t;have T:=U.o.size
   go_wp2_with(first|(at_builtin;(refine et rfl 40 41 _ rfl D.heap.size 5 i0 (.int .u8 0) 1 underlying25 hi0 hz0 hz1 hz2 P8 _ _ _ _ rfl N.o (.int .u8 58) rfl rfl (by have:=xM.o;omega) P8 T ?_);intro v3 w3 hown3 hw3 d;have jx:=F hown3;clear hown3;have q:=F<|U.o.trans d;have J:=F<|kM.o.trans (d.m (am HB.o.size g.o.size));have ci3:=(d.cell (p:=⟨bx,i,none⟩) (aN pw.o g.o.size)).trans ci;clear d)|(go_at_call 104;refine(JW.o n hn _ _ (l++[58]) D.heap.size _ J.o q.o.size (by rw[dR];exact jx.o) (by have:=xM.o;simp;omega)).m ?_;rintro e4 w4⟨v4,rfl,y,c⟩;have qp:=F y;clear y;have K:=F<|q.o.trans c;clear c))
   go_roundw
   ·refine⟨i+1,C,l++[58]++gg n,by simp_all,HX.o,M0,M0,?_,K.o⟩;have:=qp.o;rw[ae,ae];exact this
   ·simp_all[intOf] <;>omega
  rw[wY M hA Ae,gY,k]at e;have j:(l++gg n)++iU a (iR b b C (i+1))=R:=by rw[<-e];simp
  have HX:=F j;clear j e X k;have Xa:=F z;clear z;have h0:¬(0:Int)<i:=M0;clear Ae hA;by_cases t:i=b
  ·subst t
   go_wp2_with(go_at_call 104;refine(JW.o n hn _ _ l D.heap.size _ kM.o U.o.size N.o (by have:=xM.o;simp;omega)).m ?_;rintro e4 w4⟨v4,rfl,y,c⟩;have qp:=F y;clear y;have K:=F<|U.o.trans c;clear c)
   go_roundw
   ·refine⟨i+1,C,l++gg n,by simp_all,HX.o,M0,M0,?_,K.o⟩;have:=qp.o;rw[ae];exact this
   ·simp_all[intOf] <;>omega
  have a9y:¬(i:Int)=b:=M0;clear t
  go_wp2_with(go_at_call 104;refine(JW.o n hn _ _ l D.heap.size _ kM.o U.o.size N.o (by have:=xM.o;simp;omega)).m ?_;rintro e4 w4⟨v4,rfl,y,c⟩;have qp:=F y;clear y;have K:=F<|U.o.trans c;clear c)
  go_roundw
  ·refine⟨i+1,C,l++gg n,by simp_all,HX.o,M0,M0,?_,K.o⟩;have:=qp.o;rw[ae];exact this
  ·simp_all[intOf] <;>omega
 have Lf:¬(i:Int)<8:=M0;have e:=X.o;rw[DX M]at e;have j:l=R:=by rw[<-e];simp[iU]
 have hcv:=jq (P:=prog) (src:=25) (dst:=9) underlying25 underlying5 underlying9 N.o;rw[j]at hcv;clear j e;go_wp2_with fail;go_ret;exact⟨rfl,kM.o⟩
theorem Mx(a:List Int)(cs:Array Z)(w:H)(h:Six cs a)(hE:NE w)(J:(sA (rJ a)).1<(sA (rJ a)).2) :
  bF prog 62 #[.agg cs] w (S (uc a)):=by
 obtain⟨i0,hi0,hz0,hz1,hz2⟩:=info_parts jn;have XJ:=λW=>tB a cs W h;have hlen:=h.len;have hat:=h.at_;have vH:=h.rng;have hsz:=h.sz;have hall:=xa (rJ a) (vU _ (by rw[uG];exact hlen));have y:uc a=iU a (iR (sA (rJ a)).1 (sA (rJ a)).2 9 0):=rfl;have M:=ro a vH;obtain⟨b,U,e,he⟩:=ac ((sA (rJ a)).1) ((sA (rJ a)).2);rw[<-U,<-he]at XJ hall y J;clear he;have b4o:(b:Int)<e:=M0;obtain⟨_,_,he8,_⟩:=hall;obtain⟨R,hR⟩:=V (uc a);rw[<-hR]at y M⊢
 have IM:=λ(u:Nat) (hu:u<65536) (sv:Z) (n:Nat) (l:O) (B:Nat) (W:H) (U:r7 w W) (hB:B<=W.heap.size) (L:W.ownsRow B 5 1 sv n (Lib.byteCells l)) (hl:n<=100) =>
  BG u hu sv n l B W (hE.below U) hB L M0
 obtain⟨JW,HAT,HLEN,YB,eM,HLG,EG,HSL⟩:=er IM hat hlen vH hsz XJ y M;have T:=F J;have D:=F he8;clear IM hat hlen vH hsz XJ y M J he8 hE h hR U;go_enter func62,ntmps62
 go_wp2_with(first|(refine boxed rfl _ _ rfl cs rfl ?_;intro bx w1 hb1 r j d hb5;obtain⟨HC,HB,pw⟩:=cZ d hb5 r;clear hb1 r j d hb5)|(refine wpList_load_mid rfl 30 _ rfl bx 0 rfl cs.toList _ (oC 0 (by simpa using HC.o)) underlying30 rfl (by rw[fb,eM.o];kernel_rfl) ?_)|(go_at_call 105;rw[jh];refine(HLG.o _).m ?_;rintro e1 Q⟨rfl,r⟩;have k:=F r;clear r))
 go_loopw [5,6] (λov iv wr=>∃(i f:Nat) (l:O),iv=.int .i64 i/\Hid (l++iU a (iR b e f i)=R)/\8<=i+f/\i<=8/\Hid (wr.ownsRow Q.heap.size 5 1 ov l.length (Lib.byteCells l))/\Hid (r7 Q wr)) (λ_ i _=>9-(intOf i).toNat)
 exact⟨0,9,[],rfl,EG.o.symm,M0,M0,⟨by simp[Lib.byteCells],.inl ⟨rfl,rfl⟩⟩,gT _ _⟩
 obtain⟨i,f,l,rfl,X,hif,tA,L,U⟩:=hrel;have hBB:r7 w _:=HB.o.trans ((k.o.m HB.o.size).trans (U.o.m (am HB.o.size k.o.size)));have kM:=F hBB;clear hBB
 have hll:l.length<=72:=by
  have Y:=congrArg List.length X.o;rw[ae]at Y;have:=HSL.o;omega
 have xM:=F hll;clear hll;by_cases v:i<8
 ·obtain⟨t,rfl⟩:∃t,f=t+1:=⟨f-1,M0⟩
  have Lf:(i:Int)<8:=M0;have c:=X.o;by_cases hA:i=b/\b<e
  ·rw[Sk v hA,gY]at c
   have g:(l++[58,58])++iU a (iR b e t e)=R:=by rw[<-c];simp[rj]
   have HX:=F g;clear g c X;obtain⟨hA1,_⟩:=hA;have hA3:(i:Int)=b:=M0;have b4v:(e:Int)<=8:=by have:=D.o;omega
   have hei:(1:Int)<=e:=M0;clear hA1;have N:=U.o.size
   go_wp2_with(at_builtin;(refine a49 rfl 24 (.const (.string ⟨#[58,58]⟩)) _ _ rfl Q.heap.size 5 i0 underlying25 underlying9 hi0 hz0 hz1 hz2 _ _ _ l rfl L.o [58,58] rfl (by have:=xM.o;simp;omega) N ?_);intro v3 w3 hown3 hw3 j;have jx:=F hown3;clear hown3;have s:=F j;clear j)
   go_roundw
   ·refine⟨e,t,l++[58,58],Oc,HX.o,by have:=T.o;omega,D.o,?_,U.o.trans s.o⟩;rw[ae];exact jx.o
   ·simp_all[intOf];have:=D.o;omega
  have K:i<a.length:=by have:=HLEN.o;omega
  have ci:=((k.o.trans (U.o.m k.o.size)).cell (p:=⟨bx,i,none⟩) pw.o).trans ((HC.o i).trans (HAT.o i K));have hri:=YB.o _ (be K);have q:=tF a HLEN.o i K;obtain⟨x,hx0⟩:=V (a[i]);rw[<-hx0]at ci hri q;obtain⟨n,rfl⟩:∃n:Nat,x=n:=⟨x.toNat,M0⟩;simp only[eV]at q;have hn:n<65536:=M0;have z:=qT 3 n M0;clear hx0 hri;by_cases Ae:0<i/\(i≠e\/e=b)
  ·rw[wW v hA Ae,gY,gY,q]at c
   have g:(l++[58]++gg n)++iU a (iR b e t (i+1))=R:=by rw[<-c];simp[rj]
   have HX:=F g;clear g c X q;have Xa:=F z;clear z;have h0:(0:Int)<i:=M0;have Y:¬(i:Int)=b:=by have:=T.o;omega
   have I:¬(i:Int)=e:=by have:=T.o;omega
   clear Ae hA;have N:=U.o.size
   go_wp2_with(first|(at_builtin;(refine et rfl 40 41 _ rfl Q.heap.size 5 i0 (.int .u8 0) 1 underlying25 hi0 hz0 hz1 hz2 P8 _ _ _ _ rfl L.o (.int .u8 58) rfl rfl (by have:=xM.o;omega) P8 N ?_);intro v3 w3 hown3 hw3 j;have jx:=F hown3;clear hown3;have s:=F<|U.o.trans j;have HZ3:=F<|kM.o.trans (j.m (am HB.o.size k.o.size));have ci3:=(j.cell (p:=⟨bx,i,none⟩) (aN pw.o k.o.size)).trans ci;clear j)|(go_at_call 104;refine(JW.o n hn _ _ (l++[58]) Q.heap.size _ HZ3.o s.o.size (by rw[dR];exact jx.o) (by have:=xM.o;simp;omega)).m ?_;rintro e4 w4⟨v4,rfl,C,d⟩;have qp:=F C;clear C;have eI:=F<|s.o.trans d;clear d))
   all_goals
    go_roundw
    ·refine⟨i+1,t,l++[58]++gg n,by simp_all,HX.o,M0,M0,?_,eI.o⟩;have:=qp.o;rw[ae,ae];exact this
    ·simp_all[intOf] <;>omega
  rw[wY v hA Ae,gY,q]at c;have g:(l++gg n)++iU a (iR b e t (i+1))=R:=by rw[<-c];simp
  have HX:=F g;clear g c X q;have Xa:=F z;clear z;have Y:¬(i:Int)=b:=by have:=T.o;omega
  have h3:¬(e:Int)=b:=by have:=T.o;omega
  have I:(¬(0:Int)<i)\/((0:Int)<i/\(i:Int)=e):=by have:=T.o;omega
  clear Ae hA;rcases I with I|⟨I,h4⟩
  ·go_wp2_with(go_at_call 104;refine(JW.o n hn _ _ l Q.heap.size _ kM.o U.o.size L.o (by have:=xM.o;simp;omega)).m ?_;rintro e4 w4⟨v4,rfl,C,d⟩;have qp:=F C;clear C;have eI:=F<|U.o.trans d;clear d)
   go_roundw
   ·refine⟨i+1,t,l++gg n,by simp_all,HX.o,M0,M0,?_,eI.o⟩;have:=qp.o;rw[ae];exact this
   ·simp_all[intOf] <;>omega
  obtain rfl:i=e:=M0;clear h4
  go_wp2_with(go_at_call 104;refine(JW.o n hn _ _ l Q.heap.size _ kM.o U.o.size L.o (by have:=xM.o;simp;omega)).m ?_;rintro e4 w4⟨v4,rfl,C,d⟩;have qp:=F C;clear C;have eI:=F<|U.o.trans d;clear d)
  go_roundw
  ·refine⟨i+1,t,l++gg n,by simp_all,HX.o,M0,M0,?_,eI.o⟩;have:=qp.o;rw[ae];exact this
  ·simp_all[intOf] <;>omega
 have Lf:¬(i:Int)<8:=M0;have c:=X.o;rw[DX v]at c;have g:l=R:=by rw[<-c];simp[iU]
 have hcv:=jq (P:=prog) (src:=25) (dst:=9) underlying25 underlying5 underlying9 L.o;rw[g]at hcv;clear g c;go_wp2_with fail;go_ret;exact⟨rfl,kM.o⟩
theorem G7(a:List Int)(cs:Array Z)(w:H)(h:Six cs a)(c:NE w) :
  bF prog 62 #[.agg cs] w (S (uc a)):=by
 have hall:=xa (rJ a) (vU _ (by rw[uG];exact h.len));by_cases U:(sA (rJ a)).1<(sA (rJ a)).2
 ·exact Mx a cs w h c U
 exact Mw a cs w h c M0

theorem b6F:∀k:Fin 16,(⟨#[48,49,50,51,52,53,54,55,56,57,97,98,99,100,101,102]⟩:ByteArray).extract k.val (k.val+1)=E [vE k.val]:=by decide +kernel
theorem b1l:∀(u:Nat) (w:H),u<65536->bF prog 108 #[.int .i64 u] w (S (gg u)):=by
 intro u
 induction u using Nat.strongRecOn with
 |ind u i =>
  intro w hu;by_cases a:u<16
  ·have d:=b6F ⟨u,a⟩
   simp only at d;have X:=b6U a;have hi:(u:Int)<16:=M0;go_enter func108,ntmps108;go_wp2_with fail;go_ret;refine⟨?_,gT _ _⟩;rw[X]
   first|rfl|(simp_all)
  ·have hi:¬(u:Int)<16:=by omega
   have hi2:(u:Int)<65536:=M0;have w1:IntKind.i64.wrap ((u:Int)/16)=(u:Int)/16:=gS _ M0;have k:(u:Int).tmod 16=(u:Int)%16:=ei M0;have w3:IntKind.i64.wrap ((u:Int)%16+1)=(u:Int)%16+1:=gS _ M0;have c1:(0:Int)<=(u:Int)%16+1:=M0;have c2:(u:Int)%16+1<=16:=M0;have c3:(0:Int)<=(u:Int)%16:=M0;have c4:(u:Int)%16<=(u:Int)%16+1:=M0;have t1:((u:Int)%16).toNat=u%16:=M0;have t2:((u:Int)%16+1).toNat=u%16+1:=M0;have d:=b6F ⟨u%16,M0⟩;simp only at d;have X:=IQ a;have h:=qT 3 (u/16) M0;have hrec:∀(q:Int),q=((u/16:Nat):Int)->∀W,bF prog 108 #[.int .i64 q] W (S (gg (u/16))):=λq j W=>j▸i (u/16) M0 W M0;have t4:=mm (gg (u/16)) [vE (u%16)];rw[<-X]at t4;generalize gg u=D at t4⊢;generalize gg (u/16)=T at t4 hrec h;generalize vE (u%16)=dg at d t4;have hlt:¬ 9223372036854775807<T.length+1:=M0;have g:=F hrec;clear hrec i X;go_enter func108,ntmps108;go_wp2_with fail;refine wp_region_held_drew (S:=λ_=>True) Rz (by exact trivial) (λhHeld=>?_);refine ek 0 ?_;refine ek 1 ?_;refine ek 3 ?_;refine ek 4 ?_;refine ek 5 ?_;refine ek 6 ?_;refine ek 7 ?_;refine ek 8 ?_;refine ek 9 ?_
   refine rn 2 Rz rfl r5 (λK hK=>?_)
   go_simp
   refine(g.o _ M0 _).k λk f=>?_;dsimp only;refine hK.out _ _ ?_ (λhHeld=>?_)
   ·exact trivial
   clear hK K
   try simp only[Act.put,fH,fI,fJ]
   refine ek 10 ?_;refine ek 11 ?_
   refine wpAnyH_done Rz ?_ _;go_wp2_with fail;go_ret;exact⟨rfl,(gT w.heap.size w).drew.trans f.o⟩
structure b67 (l:O) (c:Bool):Prop where
 yes:c=true->∃p x,l=p++[x]/\x≠58
 no:c=false->l=[]\/∃p,l=p++[58]
theorem b4c(n:Nat)(h:n<16):vE n≠58:=by
 have:∀k:Fin 16,vE k.val≠58:=by decide +kernel
 exact this ⟨n,h⟩
theorem b6G(u:Nat):∃p x,gg u=p++[x]/\x≠58:=by
 by_cases h:u<16
 ·exact⟨[],vE u,by rw[b6U h];rfl,b4c u h⟩
 exact⟨gg (u/16),vE (u%16),IQ h,b4c _ M0⟩
theorem b67.hex(l:O)(u:Nat):b67 (l++gg u) true:=by
 obtain⟨p,x,Y,I⟩:=b6G u;refine⟨λ_=>⟨l++p,x,by rw[Y,bB],I⟩,λh=>by cases h⟩
theorem b67.two(l:O):b67 (l++[58,58]) false:=⟨λh=>(by cases h),λ_=>.inr ⟨l++[58],Oc⟩⟩
theorem b2e{b m f i:Nat}{c:Bool}(hi:i<8)(h:i=b):a0X b m (f+1) i c=101::a0X b m f (i+m) false:=by rw[a0X,ge hi,ge h]
theorem a2N{b m f i:Nat}(hi:i<8)(h:¬i=b):a0X b m (f+1) i true=100::i::a0X b m f (i+1) true:=by rw[a0X,ge hi,gc h];rfl
theorem b8f{b m f i:Nat}(hi:i<8)(h:¬i=b):a0X b m (f+1) i false=i::a0X b m f (i+1) true:=by rw[a0X,ge hi,gc h];rfl
theorem b2d{b m f i:Nat}{c:Bool}(hi:¬i<8):a0X b m f i c=[]:=by cases f with|zero=>rfl|succ f=>rw[a0X,gc hi]
theorem b7G(a:List Int)(cs:Array Z)(w:H)(h:Six cs a) :
  bF prog 65 #[.agg cs] w (S (uc a)):=by
 have hlen:=h.len;have hat:=h.at_;have vH:=h.rng;obtain⟨z,hz⟩:=V (rJ a);have hzl:z.length=8:=by rw[hz,uG];exact hlen
 have hza:∀k (hk:k<a.length) (hk2:k<z.length),z[k]=decide (a[k]=0):=by intro k hk hk2;subst hz;simp[rJ]
 have hall:=xa (rJ a) (vU _ (by rw[uG];exact hlen));have M:uc a=iU a (a0X (XV (rJ a)).1 (XV (rJ a)).2 9 0 false):=(b1s a hlen).symm;have hsl:=ro a vH;rw[<-hz]at hall M;obtain⟨_,_,_,hm1,L,T,u⟩:=hall;obtain⟨D,hD⟩:=V (uc a);rw[<-hD]at M hsl⊢;obtain⟨R,HR⟩:=ey (XV z);rw[<-HR.o]at M hm1 L T u;have HM:=F<|And.intro hm1 (And.intro L (And.intro T u));clear h hz hD hm1 L T u;have HAT:=F hat;clear hat;have HZL:=F hzl;clear hzl;have HZA:=F hza;clear hza;have HLEN:=F hlen;clear hlen;have YB:=F vH;clear vH;have EG:=F M;clear M;have HSL:=F hsl;clear hsl;go_enter func65,ntmps65
 go_wp2_with(refine boxed rfl _ _ rfl cs rfl ?_;intro bx w1 hb1 hb2 hb3 g hb5;obtain⟨HC,HB,pw⟩:=cZ g hb5 hb2;clear hb1 hb2 hb3 g hb5)
 go_loopw [3,4,5] (λbv ev iv wr=>∃b m i f:Nat,bv=.int .i64 b/\ev=.int .i64 m/\iv=.int .i64 i/\Hid (a0q z f i b m=R)/\8<=i+f/\m<=8/\i<=8/\w1=wr) (λ_ _ i _=>9-(intOf i).toNat)
 exact⟨8,1,0,9,rfl,rfl,rfl,HR.o.symm,M0,M0,M0,rfl⟩
 obtain⟨b,m,i,f,rfl,rfl,rfl,hg,hif,L,tA,rfl⟩:=hrel;by_cases r:i<8
 ·obtain⟨e,rfl⟩:∃e,f=e+1:=⟨f-1,M0⟩
  have Lf:(i:Int)<8:=M0;go_wp2_with fail
  go_loopw [6] (λnv wr=>∃n:Nat,nv=.int .i64 n/\i+n<=8/\Hid (pq z (i+n)=pq z i)/\w1=wr) (λn _=>8-(intOf n).toNat)
  exact⟨0,rfl,M0,rfl,rfl⟩
  obtain⟨n,rfl,hn8,hrun,rfl⟩:=hrel;by_cases hj:i+n<8
  ·have hja:i+n<a.length:=by have:=HLEN.o;omega
   have hjz:i+n<z.length:=by have:=HZL.o;omega
   have cj:=(HC.o (i+n)).trans (HAT.o (i+n) hja);have hzj:=HZA.o (i+n) hja hjz;have hji:(i:Int)+n<8:=M0;have hin:((i:Int)+n).toNat=i+n:=M0;by_cases X:a[i+n]=0
   ·rw[X]at cj
    have q:=Mj hjz (by rw[hzj];simpa using X);have HS:=F<|q.symm.trans hrun.o;clear q hzj X;go_wp2_with fail;go_roundw
    ·exact⟨n+1,Oc,M0,HS.o,by trivial⟩
    exact aa
   have q:=Ml hjz (by rw[hzj];simpa using X);have HS:=F<|q.symm.trans hrun.o;clear q hzj hrun;generalize a[i+n]=x at cj X;by_cases B:m<n
   ·have N:=F<|(show a0q z e (i+1) i n=a0q z (e+1) i b m by rw[a0q,ge r,<-HS.o,show i+n-i=n by omega,ge B]).trans hg.o
    have hc1:(m:Int)<n:=M0;clear B;go_wp2_with fail;go_roundw
    exact⟨i,n,i+1,e,rfl,rfl,Oc,N.o,M0,M0,M0,by trivial⟩
    exact aa
   have N:=F<|(show a0q z e (i+1) b m=a0q z (e+1) i b m by rw[a0q,ge r,<-HS.o,show i+n-i=n by omega,gc B]).trans hg.o;have hc1:¬(m:Int)<n:=M0;clear B;go_wp2_with fail;go_roundw
   exact⟨b,m,i+1,e,rfl,rfl,Oc,N.o,M0,M0,M0,by trivial⟩
   exact aa
  have q:=RP (z:=z) (j:=i+n) (by have:=HZL.o;omega);have HS:=F<|q.symm.trans hrun.o;clear q hrun;have b4C:¬(i:Int)+n<8:=M0;by_cases B:m<n
  ·have N:=F<|(show a0q z e (i+1) i n=a0q z (e+1) i b m by rw[a0q,ge r,<-HS.o,show i+n-i=n by omega,ge B]).trans hg.o
   have hc1:(m:Int)<n:=M0;clear B;go_wp2_with fail;go_roundw
   exact⟨i,n,i+1,e,rfl,rfl,Oc,N.o,M0,M0,M0,by trivial⟩
   exact aa
  have N:=F<|(show a0q z e (i+1) b m=a0q z (e+1) i b m by rw[a0q,ge r,<-HS.o,show i+n-i=n by omega,gc B]).trans hg.o;have hc1:¬(m:Int)<n:=M0;clear B;go_wp2_with fail;go_roundw
  exact⟨b,m,i+1,e,rfl,rfl,Oc,N.o,M0,M0,M0,by trivial⟩
  exact aa
 have Lf:¬(i:Int)<8:=M0;have N:=F<|(show a0q z f i b m=(b,m) by cases f with|zero=>rfl|succ f=>rw[a0q,gc r]).symm.trans hg.o;have Q:=EG.o;have hM:=HM.o;rw[<-N.o]at Q hM;simp only at Q hM;obtain⟨hm1,L,T,u⟩:=hM;have b8H:=F Q;clear Q;have HFM:=F u;clear u;have c3a:(m:Int)<=8:=M0;have c27:(1:Int)<=m:=M0;clear hg N EG hif tA;go_wp2_with fail
 go_loopw [7,8] (λsv iv wr=>∃(i f:Nat) (l:O) (c:Bool),sv=.string (E l)/\iv=.int .i64 i/\Hid (l++iU a (a0X b m f i c)=D)/\Hid (b67 l c)/\8<=i+f/\i<=8/\Hid (r7 w1 wr)) (λ_ i _=>9-(intOf i).toNat)
 exact⟨0,9,[],false,rfl,rfl,b8H.o.symm,⟨λh=>(by cases h),λ_=>.inl rfl⟩,M0,M0,gT _ _⟩
 obtain⟨i,f,l,c,rfl,rfl,X,B,hif,tA,U⟩:=hrel
 have hll:l.length<=72:=by
  have Y:=congrArg List.length X.o;rw[ae]at Y;have:=HSL.o;omega
 by_cases r:i<8
 ·obtain⟨e,rfl⟩:∃e,f=e+1:=⟨f-1,M0⟩
  have Lf:(i:Int)<8:=M0;have d:=X.o;by_cases hA:i=b
  ·rw[b2e r hA,gY]at d
   have t:(l++[58,58])++iU a (a0X b m e (i+m) false)=D:=by rw[<-d];simp[rj]
   have HX:=F t;clear t d X;have t4:=mm l [58,58];have C:E [58,58]=⟨#[58,58]⟩:=rfl;rw[C]at t4;have P:=F t4;clear t4 C;have c25:(i:Int)+m<=8:=by have:=HFM.o;omega
   subst hA;go_wp2_with fail;go_roundw
   exact⟨i+m,e,l++[58,58],false,by rw[P.o],Oc,HX.o,b67.two l,M0,M0,U.o⟩
   exact aa
  have hia:i<a.length:=by have:=HLEN.o;omega
  have ci:=(U.o.cell (p:=⟨bx,i,none⟩) pw.o).trans ((HC.o i).trans (HAT.o i hia));have hri:=YB.o _ (be hia);have v:=tF a HLEN.o i hia;obtain⟨x,hx0⟩:=V (a[i]);rw[<-hx0]at ci hri v;obtain⟨n,rfl⟩:∃n:Nat,x=n:=⟨x.toNat,M0⟩;simp only[eV]at v;have hn:n<65536:=M0;have hxl:=qT 3 n M0;have hAi:¬(i:Int)=b:=M0;have hhx:=λW=>b1l n W hn;have HHX:=F hhx;clear hhx;clear hx0 hri hA;cases c
  ·have hcn:=B.o.no rfl
   rw[b8f r M0,gY,v]at d;have t:(l++gg n)++iU a (a0X b m e (i+1) true)=D:=by rw[<-d];simp
   have HX:=F t;clear t d X v;have t4:=mm l (gg n);have P:=F t4;clear t4;rcases hcn with rfl|⟨p,rfl⟩
   ·have e1:(E []).toList.isEmpty=true:=by rw[aB];rfl
    have e2:(E []).toList=[]:=aB _
    go_wp2_with(go_at_call 108;refine(HHX.o _).m ?_;rintro e4 w4⟨rfl,g⟩;have eI:=F<|U.o.trans (g.m U.o.size);clear g)
    go_roundw
    exact⟨i+1,e,[]++gg n,true,by rw[P.o],Oc,HX.o,b67.hex _ n,M0,M0,eI.o⟩
    exact aa
   obtain⟨s,q⟩:=V (E (p++[58]));have hsz:s.size=p.length+1:=by rw[q,aF];simp
   obtain⟨K,hK⟩:=V (p.length);rw[<-hK]at hsz;have J:K<s.size:=M0
   have b77:((s[K]'J).toNat:Int)=G 58:=by
    rw[cy q J (by simp[hK])];subst hK;simp
   have e1:s.toList.isEmpty=false:=by rw[q,aB];simp
   have e2:¬s.toList=[]:=by rw[q,aB];simp
   have hKm:K<=72:=by have h9:=hll;rw[ae]at h9;omega
   have hct:=P.o;rw[<-q]at hct⊢;clear P;have P:=F hct;clear hct;clear q hK;have hyi:G 58=58:=rfl;rw[hyi]at b77
   go_wp2_with(go_at_call 108;refine(HHX.o _).m ?_;rintro e4 w4⟨rfl,g⟩;have eI:=F<|U.o.trans (g.m U.o.size);clear g)
   go_roundw
   exact⟨i+1,e,p++[58]++gg n,true,by rw[P.o],Oc,HX.o,b67.hex _ n,M0,M0,eI.o⟩
   exact aa
  obtain⟨p,y,rfl,hy⟩:=B.o.yes rfl;rw[a2N r M0,gY,gY,v]at d;have t:(p++[y]++[58]++gg n)++iU a (a0X b m e (i+1) true)=D:=by rw[<-d];simp[rj]
  have HX:=F t;clear t d X v;have t4:=mm (p++[y]++[58]) (gg n);rw[<-mm (p++[y]) [58]]at t4;have C:E [58]=⟨#[58]⟩:=rfl;rw[C]at t4;clear C;obtain⟨s,q⟩:=V (E (p++[y]));have hsz:s.size=p.length+1:=by rw[q,aF];simp
  obtain⟨K,hK⟩:=V (p.length);rw[<-hK]at hsz;have J:K<s.size:=M0
  have b77:((s[K]'J).toNat:Int)=G y:=by
   rw[cy q J (by simp[hK])];subst hK;simp
  have e1:s.toList.isEmpty=false:=by rw[q,aB];simp
  have e2:¬s.toList=[]:=by rw[q,aB];simp
  have hKm:K<=72:=by have h9:=hll;rw[ae]at h9;omega
  rw[<-q]at t4⊢;clear q hK;have P:=F t4;clear t4;have hyi:¬G y=58:=λh=>hy (by apply eZ.mp;have:(y.toNat:Int)=58:=h;have I:(58:UInt8).toNat=58:=rfl;omega);generalize G y=Y' at b77 hyi;clear hy
  go_wp2_with(go_at_call 108;refine(HHX.o _).m ?_;rintro e4 w4⟨rfl,g⟩;have eI:=F<|U.o.trans (g.m U.o.size);clear g)
  go_roundw
  exact⟨i+1,e,p++[y]++[58]++gg n,true,by rw[P.o],Oc,HX.o,b67.hex _ n,M0,M0,eI.o⟩
  exact aa
 have Lf:¬(i:Int)<8:=M0;have d:=X.o;rw[b2d r]at d;have t:l=D:=by rw[<-d];simp[iU]
 subst t;go_wp2_with fail;go_ret;exact⟨rfl,HB.o.trans (U.o.m HB.o.size)⟩

def lJ(h:gF):O:=if h.kind=2\/h.kind=5 then h.name else if h.kind=3 then tj h.four.toNat else if h.kind=4 then [91]++uc h.six++[93]else []
theorem oQ(h:gF)(ok:sV h)(n:Nat)(hn:h.name.length<=n):(lJ h).length<=n+74:=by
 have Y:=ro h.six ok.s;have I:=Lb h.four.toNat (by have:=ok.f;omega);unfold lJ
 split
 ·omega
 split
 ·omega
 split
 ·simp only[ae,cz,aO];omega
 simp
theorem By.a0S{cs:Array Z}{h:gF}(a:By cs h):Six (cs.toList.drop 3).toArray h.six:=by
 refine⟨?_,a.ok.l,λk c=>?_,a.ok.s⟩
 ·simp[a.sz]
 rw[cf,fz,iL];exact a.six k c
theorem vJ(h:gF)(cs:Array Z)(w:H)(n:By cs h)(M:h.name.length<=102400000)(T:NE w) :
  bF prog 30 #[.agg cs] w (S (lJ h)):=by
 have x:=n.kind;have Y:=n.name;have I:=n.four;have hf:=n.ok.f;have hs:=n.a0S;have B:=λW (L:r7 w W)=>G7 h.six _ W hs (T.below L);have u:=λW (L:r7 w W)=>FM h.four.toNat M0 W (T.below L);have g:lJ h=if h.kind=2\/h.kind=5 then h.name else if h.kind=3 then tj h.four.toNat else if h.kind=4 then [91]++uc h.six++[93]else []:=rfl;have N:=ro h.six n.ok.s;have r:∀i,cs[3+i]?= (cs.toList.drop 3)[i]?:=λi=>by rw[fz,iL]
 have J:(cs.toList.drop 3).length=8:=by rw[aj,fb,n.sz]
 generalize lJ h=R at g⊢;clear n hs;generalize h.kind=K at x g;generalize h.name=nm at Y g M;obtain⟨q,hq⟩:∃q:Nat,h.four=q:=⟨h.four.toNat,M0⟩;rw[hq]at I hf u g;simp only[eV]at u g;generalize tj q=F' at u g;generalize uc h.six=X' at B g N;clear hq;generalize cs.toList.drop 3=c6 at r J B;have a72:=F B;clear B;have C:=F u;clear u;have Yt:=F r;clear r;have H8:=F J;clear J;by_cases t:K=2\/K=5
 ·rw[ge t]at g
  subst g;rcases t with rfl|rfl
  all_goals
   go_enter func30,ntmps30
   go_wp2_with(refine boxed rfl _ _ rfl cs rfl ?_;intro y Q k c l a d;have D:=(a 0).trans x;have c1:=(a 1).trans Y;have HB:=F d;clear k c l a d)
   go_ret;exact⟨rfl,HB.o⟩
 rw[gc t]at g;have n2:¬K=2:=λh=>t (.inl h);have n5:¬K=5:=λh=>t (.inr h);clear t;by_cases z:K=3
 ·rw[ge z]at g
  subst g;subst z;go_enter func30,ntmps30
  go_wp2_with(first|(refine boxed rfl _ _ rfl cs rfl ?_;intro y Q k c l a d;have D:=(a 0).trans x;have c2:=(a 2).trans I;have HB:=F d;clear k c l a d)|(go_at_call 61;refine(C.o _ HB.o).k λw2 c=>?_;have p:=F<|HB.o.trans (c.o.m HB.o.size);clear c))
  go_ret;exact⟨rfl,p.o⟩
 rw[gc z]at g;by_cases P:K=4
 ·rw[ge P]at g
  subst P;have HR:=F g;clear g n2 n5 z;go_enter func30,ntmps30
  go_wp2_with(first|(refine boxed rfl _ _ rfl cs rfl ?_;intro y Q k c l a d;have D:=(a 0).trans x;have HC:=F a;have HB:=F d;clear k c l a d)|(refine wpList_load_mid rfl 30 _ rfl y 3 rfl c6 _ (λj v hv=>by rw[HC.o (3+j),Yt.o j];exact hv) underlying30 rfl (by rw[H8.o];kernel_rfl) ?_)|(go_at_call 62;refine(a72.o _ HB.o).k λw2 c=>?_;have p:=F<|HB.o.trans (c.o.m HB.o.size);clear c))
  go_ret;refine⟨AK ?_,p.o⟩;rw[HR.o];simp[Gs,Jl]
 rw[gc P]at g;subst g;go_enter func30,ntmps30
 go_wp2_with(refine boxed rfl _ _ rfl cs rfl ?_;intro y Q k c l a d;have D:=(a 0).trans x;have HB:=F d;clear k c l a d)
 go_ret;exact⟨rfl,HB.o⟩
theorem b7i(h:gF)(cs:Array Z)(w:H)(n:By cs h)(L:h.name.length<=102400000) :
  bF prog 36 #[.agg cs] w (S (lJ h)):=by
 have x:=n.kind;have Y:=n.name;have I:=n.four;have hf:=n.ok.f;have hs:=n.a0S;have B:=λW (hW:r7 w W)=>b7G h.six _ W hs;have u:=λW (hW:r7 w W)=>b7F h.four.toNat M0 W;have g:lJ h=if h.kind=2\/h.kind=5 then h.name else if h.kind=3 then tj h.four.toNat else if h.kind=4 then [91]++uc h.six++[93]else []:=rfl;have M:=ro h.six n.ok.s;have r:∀i,cs[3+i]?= (cs.toList.drop 3)[i]?:=λi=>by rw[fz,iL]
 have J:(cs.toList.drop 3).length=8:=by rw[aj,fb,n.sz]
 generalize lJ h=R at g⊢;clear n hs;generalize h.kind=K at x g;generalize h.name=nm at Y g L;obtain⟨q,T⟩:∃q:Nat,h.four=q:=⟨h.four.toNat,M0⟩;rw[T]at I hf u g;simp only[eV]at u g;generalize tj q=F' at u g;generalize uc h.six=X' at B g M;clear T;generalize cs.toList.drop 3=c6 at r J B;have a72:=F B;clear B;have C:=F u;clear u;have Yt:=F r;clear r;have H8:=F J;clear J;by_cases t:K=2\/K=5
 ·rw[ge t]at g
  subst g;rcases t with rfl|rfl
  all_goals
   go_enter func36,ntmps36
   go_wp2_with(refine boxed rfl _ _ rfl cs rfl ?_;intro y P k c l a d;have D:=(a 0).trans x;have c1:=(a 1).trans Y;have HB:=F d;clear k c l a d)
   go_ret;exact⟨rfl,HB.o⟩
 rw[gc t]at g;have n2:¬K=2:=λh=>t (.inl h);have n5:¬K=5:=λh=>t (.inr h);clear t;by_cases z:K=3
 ·rw[ge z]at g
  subst g;subst z;go_enter func36,ntmps36
  go_wp2_with(first|(refine boxed rfl _ _ rfl cs rfl ?_;intro y P k c l a d;have D:=(a 0).trans x;have c2:=(a 2).trans I;have HB:=F d;clear k c l a d)|(go_at_call 64;refine(C.o _ HB.o).k λw2 c=>?_;have p:=F<|HB.o.trans (c.o.m HB.o.size);clear c))
  go_ret;exact⟨rfl,p.o⟩
 rw[gc z]at g;by_cases N:K=4
 ·rw[ge N]at g
  subst N;have HR:=F g;clear g n2 n5 z;go_enter func36,ntmps36
  go_wp2_with(first|(refine boxed rfl _ _ rfl cs rfl ?_;intro y P k c l a d;have D:=(a 0).trans x;have HC:=F a;have HB:=F d;clear k c l a d)|(refine wpList_load_mid rfl 30 _ rfl y 3 rfl c6 _ (λj v hv=>by rw[HC.o (3+j),Yt.o j];exact hv) underlying30 rfl (by rw[H8.o];kernel_rfl) ?_)|(go_at_call 65;refine(a72.o _ HB.o).k λw2 c=>?_;have p:=F<|HB.o.trans (c.o.m HB.o.size);clear c))
  go_ret;refine⟨AK ?_,p.o⟩;rw[HR.o];simp[Gs,Jl]
 rw[gc N]at g;subst g;go_enter func36,ntmps36
 go_wp2_with(refine boxed rfl _ _ rfl cs rfl ?_;intro y P k c l a d;have D:=(a 0).trans x;have HB:=F d;clear k c l a d)
 go_ret;exact⟨rfl,HB.o⟩
