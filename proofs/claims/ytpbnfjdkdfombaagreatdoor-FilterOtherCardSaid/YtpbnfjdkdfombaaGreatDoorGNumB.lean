/- Joined texts. -/
import Derived.Shelf.Strconv.AppendUint10
import Derived.Lib.SmallJoins
import Derived.Laws.BitsLemmas
import Derived.Deep.DeepCutAuto
import Derived.Test.YtpbnfjdkdfombaaGreatDoorGEntC
set_option maxHeartbeats 40000000
namespace Go.Proofs.YtpbnfjdkdfombaaGreatDoor
open Tryz
open Go.RowKit
set_option maxRecDepth 10000
structure NE (w:H):Prop where
 tab:Lib.TabIs prog w "internal/strconv.uint64pow10" .u64 Lib.pow10Tab
 tz:w.cell? ⟨5,15,none⟩=some (.int .u8 4)
theorem NE.below{w w':H}(h:NE w)(U:r7 w w'):NE w' :=
 ⟨Lib.tabBelow_of_tabIs h.tab w' U,by
  have I:=h.tz
  have hlt:5<w.heap.size:=by
   rcases cI 5 w.heap.size with hlt|hge
   ·exact hlt
   simp[World.cell?,Array.getElem?_eq_none hge]at I
  exact(U.cell (p:=⟨5,15,none⟩) hlt).trans I⟩
theorem Wy(w:H)(h:NE w):bP prog 219 #[.int .u64 16] w (.int .i64 4):=by
 have htz:=h.tz;clear h;have z1:IntKind.u64.wrap (-16)=18446744073709551600:=by decide +kernel
 have z2:bits BinOp.and IntKind.u64 16 18446744073709551600=16:=by decide +kernel
 have z3:IntKind.u64.wrap (16*285870213051353865)=4573923408821661840:=by decide +kernel
 have z4:(4573923408821661840:Int)/288230376151711744=15:=by decide +kernel
 go_enter func219,ntmps219;go_wp2_with fail;go_ret;exact⟨rfl,rfl⟩
theorem a5L(w:H)(h:NE w):bP prog 208 #[.int .u64 16] w (.int .i64 4):=by
 have htz:=Wy w h;have HT:=F htz;clear htz;go_enter func208,ntmps208
 go_wp2_with (first|(go_at_call 219;refine HT.o.m ?_;rintro e w2 ⟨rfl,rfl⟩))
 go_ret;exact⟨rfl,rfl⟩
theorem VW(w:H):bP prog 207 #[.int .i64 16] w (.bool true):=by
 have z1:bits BinOp.and IntKind.i64 16 15=0:=by decide +kernel
 go_enter func207,ntmps207;go_wp2_with fail;go_ret;exact⟨rfl,rfl⟩
def vE(n:Nat):UInt8:=UInt8.ofNat (if n<10 then 48+n else 87+n)
def gg(u:Nat):O:=if _h:u<16 then [vE u]else gg (u/16)++[vE (u%16)]
termination_by u
decreasing_by omega
theorem sk{u:Nat}(h:u<16):gg u=[vE u]:=by rw[gg,dif_pos h]
theorem IQ{u:Nat}(h:¬ u<16):gg u=gg (u/16)++[vE (u%16)]:=by rw[gg,dif_neg h]
def Z65:Array Z:=Array.replicate 65 (.int .u8 0)
theorem a24(w:H):(Instr.alloc 206 true (Value.tuple #[])).run prog w=.ok (.pointer (some ⟨w.heap.size,0,none⟩)) (w.alloc (.cells Z65 206)):=Rz
structure Nk (w:H) (b:Nat) (l:O) (wr:H):Prop where
 blk:∃ c,wr.heap[b]? = some (.cells c 206 (0,0))/\c.size=65/\∀ t (h:t<l.length),c[65-l.length+t]? = some (.int .u8 (G l[t]))
 bL:r7 w wr
theorem Nk.fresh(w:H):Nk w w.heap.size [] (w.alloc (.cells Z65 206)) :=
 ⟨⟨_,heap_alloc_new w _,by simp[Z65],λt h=>by simp at h⟩,(Below.refl _ _).alloc (ag _) _⟩
theorem Nk.cell{w wr:H}{b:Nat}{l:O}(h:Nk w b l wr)(i:Nat)(hi:i<65):(∃v,wr.cell? ⟨b,i,none⟩=some v)/\wr.frozen? ⟨b,i,none⟩=false:=by
 obtain⟨⟨c,Y,I,_⟩,_⟩:=h;refine⟨⟨c[i],?_⟩,Go.Joins.unfrozen_of_block Y i⟩;rw[Go.Joins.cell_of_block Y];simp[I,hi]
theorem Nk.put{w wr:H}{b:Nat}{l:O}(h:Nk w b l wr)(U:w.heap.size<=b)(x:UInt8)(hl:l.length<65)(i:Nat)(hi:i=64-l.length):Nk w b (x::l) (wr.setCell ⟨b,i,none⟩ (.int .u8 (G x))):=by
 obtain⟨⟨c,Y,I,h3⟩,h4⟩:=h;subst hi;refine⟨⟨_,Go.Joins.block_setCell Y _,by simp[I],λt ht=>?_⟩,h4.setCell U _⟩;rw[Array.getElem?_setIfInBounds];simp only[ah]at ht ⊢;cases t with
 |zero =>
  rw[if_pos M0,if_pos M0];rfl
 |succ t =>
  rw[if_neg M0];have:=h3 t M0;rw[show 65-(l.length+1)+(t+1)=65-l.length+t by omega,this];rfl
theorem Nk.at{w wr:H}{b:Nat}{l:O}(h:Nk w b l wr)(_:l.length<=65):At wr b (65-l.length) (Lib.byteCells l):=by
 obtain⟨⟨c,Y,I,h3⟩,_⟩:=h;intro j hj;have hj':j<l.length:=by simpa[Lib.byteCells]using hj
 rw[Go.Joins.cell_of_block Y,h3 j hj'];simp[Lib.byteCells,G]
theorem a0r(v:Nat)(hv:v<65536):bits BinOp.and IntKind.u64 (v:Int) 15=((v%16:Nat):Int):=by
 have h:=bits_mask .u64 63 P8 (λn h0 Y=>by rw[IntKind.wrap_u64];omega) 4 P8 (v:Int) M0 M0;have e:((2:Int) ^ 4-1)=15:=P8;have e2:((2:Int) ^ 4)=16:=P8;rw[e,e2]at h;rw[h];omega
theorem Iz:∀ k:Fin 16,((⟨#[48,49,50,51,52,53,54,55,56,57,97,98,99,100,101,102,103,104,105,106,107,108,109,110,111,112,113,114,115,116,117,118,119,120,121,122]⟩:ByteArray)[k.val]'(by have:=k.isLt;show k.val<36;omega))=vE k.val:=by decide +kernel
theorem KT(u:Nat)(hu:u<65536)(sv:Z)(n:Nat)(l:O)(B:Nat)(w:H)(hE:NE w)(hB:B<=w.heap.size)(hown:w.ownsRow B 5 1 sv n (Lib.byteCells l))(hlim:n<=1024000000) :
  Calls prog 181 #[sv,.int .u64 u,.int .i64 16,.bool false,.bool true] w λe w'=>∃ v' s,e=.returned (.tuple #[v',s])/\w'.ownsRow B 5 1 v' (n+(gg u).length) (Lib.byteCells (l++gg u))/\Below B w w':=by
 obtain⟨i0,hi0,hz0,hz1,hz2⟩:=info_parts jn;have htz:=λW (h:NE W)=>a5L W h;have HTZ:=F htz;clear htz;have X1:=F<|λW=>VW W;have HE:=F hE;clear hE;have HO:=F hown;clear hown;go_enter func181,ntmps181
 go_wp2_with (first
  |(refine aM rfl 206 rfl _ _ (a24 _) ?_)
  |(go_at_call 207;refine(X1.o _).m ?_;rintro e w2 ⟨rfl,hw2⟩;subst hw2)
  |(go_at_call 208;refine(HTZ.o _ (HE.o.below ((Below.refl _ _).alloc (ag _) _))).m ?_;rintro e w2 ⟨rfl,hw2⟩;subst hw2))
 obtain⟨b,U⟩:=V (w.heap.size);rw[<-U];have hD0:=Nk.fresh w;rw[<-U]at hD0;have HB:=F U;clear U;have HD0:=F hD0;clear hD0
 go_loopw [1,13] (λuv iv wr=>∃ (v:Nat) (t:O),uv=.int .u64 v/\iv=.int .i64 (65-t.length:Nat)/\Hid (gg v++t=gg u)/\Hid (t.length<=3/\v<16 ^ (4-t.length))/\Hid (Nk w b t wr)) (λuv _ _=>(intOf uv).toNat)
 case atStart=>exact⟨u,[],rfl,rfl,aV _,⟨Oc,by simpa using hu⟩,HD0.o⟩
 case round =>
  obtain⟨v,t,rfl,rfl,X,hl,hd⟩:=hrel;obtain⟨hl1,hl2⟩:=hl.o;have hv:v<65536:=aN hl2 (Nat.pow_le_pow_right (n:=16) M0 (show 4-t.length<=4 by omega));obtain⟨I',hI⟩:∃ I':Int,I'=((65-t.length:Nat):Int):=⟨_,rfl⟩;obtain⟨J,hJ⟩:∃ J:Nat,J=64-t.length:=⟨_,rfl⟩;have hIJ:I'-1=(J:Int):=M0;have hJb:J<65:=M0;have hIb:1<=I'/\I'<=65:=M0;obtain⟨⟨v0,c1⟩,f1⟩:=hd.o.cell J hJb;rw[<-hI];have HI:=F hI;clear hI;have HJ:=F hJ;clear hJ hl1 hl2;by_cases h16:(16:Int)<=v
  ·obtain⟨r,hr⟩:∃ r:Nat,r=v%16:=⟨_,rfl⟩
   have hand:bits BinOp.and IntKind.u64 (v:Int) 15=(r:Int):=by rw[a0r v hv,hr]
   have ZW:r<16:=M0;have HR:=F hr;clear hr;go_wp2_with fail;go_roundw
   case rel =>
    have hd2:=hd.o.put (by have:=HB.o;omega) (vE r) (by have:=hl.o;omega) J HJ.o;refine⟨v/16,vE r::t,Oc,?_,?_,?_,?_⟩
    ·rw[ah,show 65-(t.length+1)=J by have:=HJ.o;omega]
    ·show gg (v/16)++vE r::t=gg u
     rw[<-X.o,IQ (show ¬v<16 by omega),HR.o];simp
    ·have hl2:=hl.o.2
     have h3:t.length<=2:=by
      rcases cI t.length 3 with h|h
      ·omega
      rw[show 4-t.length=1 by have:=hl.o.1;omega]at hl2;omega
     refine⟨by rw[ah];omega,?_⟩;rw[ah,show 4-t.length=(4-(t.length+1))+1 by omega,b1o]at *;omega
    have e:=Iz ⟨r,ZW⟩;simp only at e;rw[e];exact hd2
   case measure=>simp[intOf];omega
  have a4K:v<16:=M0
  have hsl:∀ W,(Instr.sliceAt 206 (.pointer (some ⟨b,0,none⟩)) (some (.int .i64 (J:Int))) none none).run prog W=.ok (.slice (some ⟨b,J,none⟩) (65-J) (65-J)) W:=λW=>by
   rw[run_sliceAt_array_l W 206 ⟨b,0,none⟩ (by simp[Program.arrayLen,Program.elem,underlying206]) .i64 (J:Int) M0 (by simp[Program.arrayLen,underlying206];omega)];have he:prog.elem 206=5:=by simp[Program.elem,underlying206]
   have hal:prog.arrayLen 206=65:=by simp[Program.arrayLen,underlying206]
   simp[sizeOf,typeInfo,he,hal,hi0,hz1,slicedAt,addr_add];omega
  have hd2:=hd.o.put (by have:=HB.o;omega) (vE v) (by have:=hl.o;omega) J HJ.o;have hD:vE v::t=gg u:=by have:=X.o;rw[sk a4K]at this;exact this
  have hDl:65-J=(gg u).length:=by rw[<-hD,ah];have:=HJ.o;have:=hl.o;omega
  have hDm:(gg u).length<=4:=by rw[<-hD,ah];have:=hl.o;omega
  have hat:=hd2.at (by rw[ah];have:=hl.o;omega);rw[hD]at hd2 hat;rw[show 65-(gg u).length=J by omega]at hat;have e36:=Iz ⟨v,a4K⟩;simp only at e36;rw[<-e36]at hd2 hat;rw[hDl]at hsl;obtain⟨D,hDD⟩:=V (gg u);rw[<-hDD]at hd2 hat hsl hDl hDm ⊢;have HDD:=F hDD;clear hDD hD e36;have hbel:=hd2.bL;have eJ:=F<|HO.o.kept (row:=none) ⟨hbel.os,hbel.tape,hbel.output,hbel.size,λk hk _=>hbel.block k hk⟩ (by cases hv:sv.ownBlock <;>simp);have lZ:=F hbel;clear hbel;have HAT:=F hat;clear hat;clear hd2 hDl;have hn:=HO.o.1;rw[Lib.byteCells_length]at hn;have HN:=F hn;clear hn
  go_wp2_with (first
   |(at_builtin;refine wpList_append_own _ rfl _ _ 25 rfl B 5 i0 (.int .u8 0) 1 1 underlying25 hi0 hz0 hz1 hz2 rfl P8 _ _ _ rfl eJ.o ⟨b,J,none⟩ D.length D.length (Lib.byteCells D) rfl ?c0 ?c1 ?c2 ?c3 ?c4 ?c5 ?_))
  case c0=>rw[Lib.byteCells_length,b5v]
  case c1 =>
   intro j u' hj;have hjl:=(bh.1 hj).1;rw[addr_add];rw[aG hjl]at hj;exact Eq.trans (HAT.o j hjl) hj
  case c2=>intro u' hu';simp only[Lib.byteCells,dt]at hu';obtain⟨_,_,rfl⟩:=hu';rfl
  case c3=>unfold maxLen;omega
  case c4=>omega
  case c5=>exact am hB lZ.o.size
  intro v' w' ho' hg' _;go_wp2_with fail
  go_ret2
  have hcc:Lib.byteCells l++Lib.byteCells D=Lib.byteCells (l++D):=by simp[Lib.byteCells]
  rw[hcc]at ho';rw[<-HDD.o];exact⟨v',_,rfl,ho',(lZ.o.m hB).grown hg' (am hB lZ.o.size) (λk hk=>(eJ.o.lt k hk).1)⟩
theorem BG(u:Nat)(hu:u<65536)(sv:Z)(n:Nat)(l:O)(B:Nat)(w:H)(hE:NE w)(hB:B<=w.heap.size)(hown:w.ownsRow B 5 1 sv n (Lib.byteCells l))(hlim:n<=1024000000) :
  Calls prog 139 #[sv,.int .u64 u,.int .i64 16] w λe w'=>∃ v',e=.returned v'/\w'.ownsRow B 5 1 v' (n+(gg u).length) (Lib.byteCells (l++gg u))/\Below B w w':=by
 have hf:=KT u hu sv n l B w hE hB hown hlim
 have hin:Calls prog 175 #[sv,.int .u64 u,.int .i64 16] w λe w'=>∃ v',e=.returned v'/\w'.ownsRow B 5 1 v' (n+(gg u).length) (Lib.byteCells (l++gg u))/\Below B w w':=by
  have HF:=F hf;clear hf hE hown;go_enter func175,ntmps175
  go_wp2_with (first|(go_at_call 181;refine HF.o.m ?_;rintro e w2 ⟨v2,s2,rfl,ho2,hb2⟩;have eJ:=F ho2;have HB2:=F hb2;clear ho2 hb2))
  go_ret;exact⟨v2,rfl,eJ.o,HB2.o⟩
 have HI:=F hin;clear hin hf hE hown;go_enter func139,ntmps139
 go_wp2_with (first|(go_at_call 175;refine HI.o.m ?_;rintro e w2 ⟨v2,rfl,ho2,hb2⟩;have eJ:=F ho2;have HB2:=F hb2;clear ho2 hb2))
 go_ret;exact⟨v2,rfl,eJ.o,HB2.o⟩
theorem NS(u:Nat)(hu:u<18446744073709551616)(sv:Z)(n:Nat)(l:O)(B:Nat)(w:H)(hE:NE w)(hB:B<=w.heap.size)(hown:w.ownsRow B 5 1 sv n (Lib.byteCells l))(hlim:n<=1024000000) :
  Calls prog 139 #[sv,.int .u64 u,.int .i64 10] w λe w'=>∃ v',e=.returned v'/\w'.ownsRow B 5 1 v' (n+(Lib.decDigits u).length) (Lib.byteCells (l++Lib.decDigits u))/\Below B w w':=by
 have hin:Calls prog 175 #[sv,.int .u64 u,.int .i64 10] w λe w'=>∃ v',e=.returned v'/\w'.ownsRow B 5 1 v' (n+(Lib.decDigits u).length) (Lib.byteCells (l++Lib.decDigits u))/\Below B w w':=by
  have hcc:Lib.byteCells l++Lib.byteCells (Lib.decDigits u)=Lib.byteCells (l++Lib.decDigits u):=by simp[Lib.byteCells]
  rw[<-hcc];by_cases h:u<100
  ·exact(Any.internal_strconv_AppendUint_10_small laysAU B n u h sv _ w hown hB M0).m λe w' ⟨v',Y,I,h3,_⟩=>⟨v',Y,I,h3⟩
  exact(Any.internal_strconv_AppendUint_10_big laysAU B n u M0 hu sv _ w hown hB M0 hE.tab).m λe w' ⟨v',Y,I,h3,_⟩=>⟨v',Y,I,h3⟩
 have HI:=F hin;clear hin hE hown;go_enter func139,ntmps139
 go_wp2_with (first|(go_at_call 175;refine HI.o.m ?_;rintro e w2 ⟨v2,rfl,ho2,hb2⟩;have eJ:=F ho2;have HB2:=F hb2;clear ho2 hb2))
 go_ret;exact⟨v2,rfl,eJ.o,HB2.o⟩

theorem uB(v:Nat)(hv:v<4294967296):bits BinOp.and IntKind.u32 (v:Int) 255=((v%256:Nat):Int):=by
 have h:=bits_mask .u32 32 P8 (λn h0 Y=>by rw[IntKind.wrap_u32];omega) 8 P8 (v:Int) M0 M0;have e:((2:Int) ^ 8-1)=255:=P8;have e2:((2:Int) ^ 8)=256:=P8;rw[e,e2]at h;rw[h];omega
def tj(n:Nat):O:=Lib.decDigits (n/16777216)++[46]++Lib.decDigits (n/65536%256)++[46]++Lib.decDigits (n/256%256)++[46]++Lib.decDigits (n%256)
theorem BZ{u:Nat}(h:u<256):(Lib.decDigits u).length<=3:=my 2 u M0
def lI(n:Nat):Nat->O
 |0=>[]
 |1=>Lib.decDigits (n/16777216)++[46]
 |2=>Lib.decDigits (n/16777216)++[46]++Lib.decDigits (n/65536%256)++[46]
 |3=>Lib.decDigits (n/16777216)++[46]++Lib.decDigits (n/65536%256)++[46]++Lib.decDigits (n/256%256)++[46]
 |_=>tj n
theorem yu(n:Nat)(hn:n<4294967296)(k:Nat):(lI n k).length<=15:=by
 have Y:=BZ (u:=n/16777216) M0;have I:=BZ (u:=n/65536%256) M0;have h3:=BZ (u:=n/256%256) M0;have h4:=BZ (u:=n%256) M0;unfold lI tj
 split <;>simp only[ae,ah,aO] <;>omega
theorem Lb(n:Nat)(hn:n<4294967296):(tj n).length<=15:=yu n hn 4
theorem FM(n:Nat)(hn:n<4294967296)(w:H)(hE:NE w) :
  bF prog 99 #[.int .u32 n] w (S (tj n)):=by
 obtain⟨i0,hi0,hz0,hz1,hz2⟩:=info_parts jn
 have IM:=λ(u:Nat) (hu:u<256) (sv:Z) (l:O) (W:H) (U:r7 w W) (ho:W.ownsRow w.heap.size 5 1 sv l.length (Lib.byteCells l)) (hl:l.length<=15) =>
  NS u M0 sv l.length l w.heap.size W (hE.below U) U.size ho M0
 have JW:=F IM;clear IM hE;have hfk:=yu n hn;have Py:n/16777216<256:=M0;have hA1:n/65536%256<256:=M0;have hA2:n/256%256<256:=M0;have hA3:n%256<256:=M0
 have m0:bits BinOp.and IntKind.u32 ((n:Int)/16777216) 255=((n/16777216:Nat):Int):=by
  have h:=uB (n/16777216) M0;rw[S9 Py]at h;exact h
 have m1:bits BinOp.and IntKind.u32 ((n:Int)/65536) 255=((n/65536%256:Nat):Int):=uB (n/65536) M0;have m2:bits BinOp.and IntKind.u32 ((n:Int)/256) 255=((n/256%256:Nat):Int):=uB (n/256) M0;have m3:bits BinOp.and IntKind.u32 (n:Int) 255=((n%256:Nat):Int):=uB n M0;have x0:lI n 1=lI n 0++Lib.decDigits (n/16777216)++[46]:=rfl;have x1:lI n 2=lI n 1++Lib.decDigits (n/65536%256)++[46]:=rfl;have x2:lI n 3=lI n 2++Lib.decDigits (n/256%256)++[46]:=rfl;have x3:lI n 4=lI n 3++Lib.decDigits (n%256):=rfl;have x4:tj n=lI n 4:=rfl;have x5:lI n 0=[]:=rfl;rw[x4];generalize n/16777216=a0 at Py m0 x0;generalize n/65536%256=a1 at hA1 m1 x1;generalize n/256%256=a2 at hA2 m2 x2;generalize n%256=a3 at hA3 m3 x3;have e0:=BZ Py;have e1:=BZ hA1;have e2:=BZ hA2;have e3:=BZ hA3;have hni:(n:Int)<4294967296:=M0;generalize lI n=K at hfk x0 x1 x2 x3 x5 ⊢;clear x4;have HX0:=F x0;clear x0;have TM:=F x1;clear x1;have TO:=F x2;clear x2;have HX3:=F x3;clear x3;have HX5:=F x5;clear x5;have HK:=F hfk;clear hfk;have HE0:=F e0;clear e0;have HE1:=F e1;clear e1;have HE2:=F e2;clear e2;have HE3:=F e3;clear e3;go_enter func99,ntmps99;go_wp2_with fail
 go_loopw [3,4] (λov sv wr=>∃ k:Nat,Hid (((k=0/\sv=.int .i64 24)\/(k=1/\sv=.int .i64 16)\/(k=2/\sv=.int .i64 8)\/(k=3/\sv=.int .i64 0)\/(k=4/\sv=.int .i64 (-8)))/\wr.ownsRow w.heap.size 5 1 ov (K k).length (Lib.byteCells (K k))/\r7 w wr)) (λ_ s _=>(intOf s+8).toNat)
 case atStart =>
  refine⟨0,.inl ⟨rfl,rfl⟩,?_,Below.refl _ _⟩;rw[HX5.o];exact⟨by simp[Lib.byteCells],.inl ⟨rfl,rfl⟩⟩
 case round =>
  obtain⟨k,hk⟩:=hrel;obtain⟨hk,ho,U⟩:=hk.o;have HO:=F ho;clear ho;have HB:=F U;clear U;rcases hk with⟨rfl,rfl⟩|⟨rfl,rfl⟩|⟨rfl,rfl⟩|⟨rfl,rfl⟩|⟨rfl,rfl⟩
  ·have hl:=HK.o 0
   go_wp2_with (first
    |(go_at_call 139;refine(JW.o a0 Py _ _ _ HB.o HO.o hl).m ?_;rintro e w2 ⟨v2,rfl,ho2,hb2⟩;have eJ:=F ho2;clear ho2;have HB2:=F<|HB.o.trans hb2;clear hb2;have hwz:=HB2.o.size)
    |(at_builtin;(refine et rfl (.tmp 18) (.tmp 19) _ rfl w.heap.size 5 i0 (.int .u8 0) 1 underlying25 hi0 hz0 hz1 hz2 P8 _ _ _ _ rfl eJ.o (.int .u8 46) rfl rfl (by have:=HE0.o;omega) P8 hwz ?_);intro v3 w3 hown3 hw3 hb3;have jx:=F hown3;clear hown3;have HB3:=F hb3;clear hb3))
   go_roundw
   case rel =>
    refine⟨1,.inr <| .inl ⟨rfl,rfl⟩,?_,HB2.o.trans HB3.o⟩;rw[HX0.o,show([46]:O)=[(46:UInt8)]from rfl,dR,ae,ae];exact jx.o
   case measure=>simp[intOf]
  ·have hl:=HK.o 1
   go_wp2_with (first
    |(go_at_call 139;refine(JW.o a1 hA1 _ _ _ HB.o HO.o hl).m ?_;rintro e w2 ⟨v2,rfl,ho2,hb2⟩;have eJ:=F ho2;clear ho2;have HB2:=F<|HB.o.trans hb2;clear hb2;have hwz:=HB2.o.size)
    |(at_builtin;(refine et rfl (.tmp 18) (.tmp 19) _ rfl w.heap.size 5 i0 (.int .u8 0) 1 underlying25 hi0 hz0 hz1 hz2 P8 _ _ _ _ rfl eJ.o (.int .u8 46) rfl rfl (by have:=HE1.o;omega) P8 hwz ?_);intro v3 w3 hown3 hw3 hb3;have jx:=F hown3;clear hown3;have HB3:=F hb3;clear hb3))
   go_roundw
   case rel =>
    refine⟨2,.inr <| .inr <| .inl ⟨rfl,rfl⟩,?_,HB2.o.trans HB3.o⟩;rw[TM.o,show([46]:O)=[(46:UInt8)]from rfl,dR,ae,ae];exact jx.o
   case measure=>simp[intOf]
  ·have hl:=HK.o 2
   go_wp2_with (first
    |(go_at_call 139;refine(JW.o a2 hA2 _ _ _ HB.o HO.o hl).m ?_;rintro e w2 ⟨v2,rfl,ho2,hb2⟩;have eJ:=F ho2;clear ho2;have HB2:=F<|HB.o.trans hb2;clear hb2;have hwz:=HB2.o.size)
    |(at_builtin;(refine et rfl (.tmp 18) (.tmp 19) _ rfl w.heap.size 5 i0 (.int .u8 0) 1 underlying25 hi0 hz0 hz1 hz2 P8 _ _ _ _ rfl eJ.o (.int .u8 46) rfl rfl (by have:=HE2.o;omega) P8 hwz ?_);intro v3 w3 hown3 hw3 hb3;have jx:=F hown3;clear hown3;have HB3:=F hb3;clear hb3))
   go_roundw
   case rel =>
    refine⟨3,.inr <| .inr <| .inr <| .inl ⟨rfl,rfl⟩,?_,HB2.o.trans HB3.o⟩;rw[TO.o,show([46]:O)=[(46:UInt8)]from rfl,dR,ae,ae];exact jx.o
   case measure=>simp[intOf]
  ·have hl:=HK.o 3
   go_wp2_with (first
    |(go_at_call 139;refine(JW.o a3 hA3 _ _ _ HB.o HO.o hl).m ?_;rintro e w2 ⟨v2,rfl,ho2,hb2⟩;have eJ:=F ho2;clear ho2;have HB2:=F<|HB.o.trans hb2;clear hb2;have hwz:=HB2.o.size))
   go_roundw
   case rel =>
    refine⟨4,.inr <| .inr <| .inr <| .inr ⟨rfl,rfl⟩,?_,HB2.o⟩;rw[HX3.o,ae];exact eJ.o
   case measure=>simp[intOf]
  have hcv:=jq (P:=prog) (src:=25) (dst:=9) underlying25 underlying5 underlying9 HO.o;go_wp2_with fail;go_ret;exact⟨rfl,HB.o⟩

def pq(z:List Bool)(j:Nat):Nat:=j+((z.drop j).takeWhile id).length
theorem Mj{z:List Bool}{j:Nat}(hj:j<z.length)(h:z[j]=true):pq z j=pq z (j+1):=by
 unfold pq;rw[aC hj,List.takeWhile_cons,h];simp;omega
theorem Ml{z:List Bool}{j:Nat}(hj:j<z.length)(h:z[j]=false):pq z j=j:=by
 unfold pq;rw[aC hj,List.takeWhile_cons,h];simp
theorem RP{z:List Bool}{j:Nat}(hj:z.length<=j):pq z j=j:=by
 unfold pq;rw[bE hj];simp
def nG(z:List Bool):Nat->Nat->Nat->Nat->Nat×Nat
 |0,_,b,e=>(b,e)
 |f+1,i,b,e=>if i<8 then(if 2<=pq z i-i/\e-b<pq z i-i then nG z f (pq z i+1) i (pq z i)else nG z f (pq z i+1) b e)else(b,e)
def sA(z:List Bool):Nat×Nat:=nG z 9 0 0 0
def a0q(z:List Bool):Nat->Nat->Nat->Nat->Nat×Nat
 |0,_,b,m=>(b,m)
 |f+1,i,b,m=>if i<8 then(if m<pq z i-i then a0q z f (i+1) i (pq z i-i)else a0q z f (i+1) b m)else(b,m)
def XV(z:List Bool):Nat×Nat:=a0q z 9 0 8 1
def iR(b e:Nat):Nat->Nat->List Nat
 |0,_=>[]
 |f+1,i=>if i<8 then(if i=b/\b<e then 101::iR b e f e else(if 0<i/\(i≠e\/e=b)then [100]else [])++i::iR b e f (i+1))else []
def a0X(b m:Nat):Nat->Nat->Bool->List Nat
 |0,_,_=>[]
 |f+1,i,c=>if i<8 then(if i=b then 101::a0X b m f (i+m) false else(if c then [100]else [])++i::a0X b m f (i+1) true)else []
def rj(a:List Int)(t:Nat):O:=if t=100 then [58]else if t=101 then [58,58]else gg (a.getD t 0).toNat
def iU(a:List Int)(l:List Nat):O:=l.flatMap (rj a)
def rJ(a:List Int):List Bool:=a.map λn=>decide (n=0)
def uc(a:List Int):O:=iU a (iR (sA (rJ a)).1 (sA (rJ a)).2 9 0)
def a25:List (List Bool):=(List.range 256).map λk=>(List.range 8).map λi=>decide (k/2 ^ i%2=1)
theorem vU(z:List Bool)(h:z.length=8):z∈a25:=by
 match z,h with
 | [a,b,c,d,e,f,g,i],_ =>
  cases a <;>cases b <;>cases c <;>cases d <;>cases e <;>cases f <;>cases g <;>cases i <;>decide +kernel
theorem xa:∀ z∈a25,iR (sA z).1 (sA z).2 9 0=a0X (XV z).1 (XV z).2 9 0 false/\(sA z).1<=(sA z).2/\(sA z).2<=8/\1<=(XV z).2/\(XV z).2<=8/\(XV z).1<=8/\((XV z).1<8->(XV z).1+(XV z).2<=8):=by decide +kernel
theorem uG(a:List Int):(rJ a).length=a.length:=by simp[rJ]
theorem qT:∀ (k u:Nat),u<16 ^ (k+1)->(gg u).length<=k+1
 |0,u,h=>by rw[sk (by simpa using h)];simp
 |k+1,u,h=>by
  by_cases h16:u<16
  ·rw[sk h16];simp
  rw[IQ h16];have:=qT k (u/16) (by rw[b1o]at h;omega);simp;exact this
theorem Mc(a:List Int)(ha:∀ n∈a,0<=n/\n<65536)(t:Nat):(rj a t).length<=4:=by
 unfold rj
 split
 ·simp
 split
 ·simp
 apply qT 3
 by_cases ht:t<a.length
 ·have:=ha a[t] (be _)
  simp[List.getD,ht];omega
 simp[List.getD,List.getElem?_eq_none (Nat.le_of_not_lt ht)]
theorem yW(a:List Int)(ha:∀ n∈a,0<=n/\n<65536):∀ l:List Nat,(iU a l).length<=4*l.length
 | []=>by simp[iU]
 |t::l=>by
  have Y:=Mc a ha t;have I:=yW a ha l;simp only[iU,cM,ae,ah]at I ⊢;omega
theorem wX(b e:Nat):∀ f i,(iR b e f i).length<=2*f
 |0,_=>by simp[iR]
 |f+1,i=>by
  unfold iR;have Y:=wX b e f e;have I:=wX b e f (i+1)
  split
  ·split
   ·simp;omega
   split <;>simp <;>omega
  simp
theorem ro(a:List Int)(ha:∀ n∈a,0<=n/\n<65536):(uc a).length<=72:=by
 have Y:=yW a ha (iR (sA (rJ a)).1 (sA (rJ a)).2 9 0);have I:=wX (sA (rJ a)).1 (sA (rJ a)).2 9 0;unfold uc;omega

structure Six (cs:Array Z) (a:List Int):Prop where
 sz:cs.size=8
 len:a.length=8
 at_:∀ k (h:k<a.length),cs[k]? = some (.int .u16 a[k])
 rng:∀ n∈a,0<=n/\n<65536
theorem oC{w:H}{b:Nat}{cs:Array Z}(o:Nat)(h:∀ i,w.cell? ⟨b,o+i,none⟩=cs[i]?):w.rangeAt b o cs.toList:=by
 intro j v hj;rw[h j];rw[iL]at hj;exact hj
theorem tB(a:List Int)(cs:Array Z)(w:H)(h:Six cs a) :
  bF prog 140 #[.agg cs] w (.tuple #[.int .i64 (sA (rJ a)).1,.int .i64 (sA (rJ a)).2]):=by
 have hlen:=h.len;have hat:=h.at_;obtain⟨z,hz⟩:=V (rJ a);have hzl:z.length=8:=by rw[hz,uG];exact hlen
 have hza:∀ k (hk:k<a.length) (hk2:k<z.length),z[k]=decide (a[k]=0):=by intro k hk hk2;subst hz;simp[rJ]
 rw[<-hz];clear h hz;have HAT:=F hat;clear hat;have HZL:=F hzl;clear hzl;have HZA:=F hza;clear hza;have HLEN:=F hlen;clear hlen;obtain⟨R,hR⟩:=V (sA z);rw[<-hR];have HR:=F hR;clear hR;go_enter func140,ntmps140
 go_wp2_with (first|(refine boxed rfl _ _ rfl cs rfl ?_;intro bx w1 hb1 hb2 hb3 hb4 hb5;have HC:=F hb4;have HB:=F hb5;clear hb1 hb2 hb3 hb4 hb5))
 go_loopw [4,5,6] (λbv ev iv wr=>∃ b e i f:Nat,bv=.int .i64 b/\ev=.int .i64 e/\iv=.int .i64 i/\Hid (nG z f i b e=R)/\8<=i+f/\b<=e/\e<=8/\i<=9/\w1=wr) (λ_ _ i _=>9-(intOf i).toNat)
 case atStart=>exact⟨0,0,0,9,rfl,rfl,rfl,HR.o.symm,M0,M0,M0,M0,by trivial⟩
 case round =>
  obtain⟨b,e,i,f,rfl,rfl,rfl,hg,hif,hbe,he8,hi9,rfl⟩:=hrel;by_cases hlt:i<8
  ·obtain⟨f',rfl⟩:∃ f',f=f'+1:=⟨f-1,M0⟩
   go_wp2_with fail
   go_loopw [7] (λjv wr=>∃ j:Nat,jv=.int .i64 j/\i<=j/\j<=8/\Hid (pq z j=pq z i)/\w1=wr) (λj _=>8-(intOf j).toNat)
   case atStart=>exact⟨i,rfl,M0,M0,rfl,rfl⟩
   case round =>
    obtain⟨j,rfl,hij,hj8,hrun,rfl⟩:=hrel;by_cases hj:j<8
    ·have hja:j<a.length:=by have:=HLEN.o;omega
     have hjz:j<z.length:=by have:=HZL.o;omega
     have cj:=(HC.o j).trans (HAT.o j hja);have hzj:=HZA.o j hja hjz;by_cases X:a[j]=0
     ·rw[X]at cj
      have hs:=Mj hjz (by rw[hzj];simpa using X);have HS:=F<|hs.symm.trans hrun.o;clear hs hzj X;go_wp2_with fail;go_roundw
      case rel =>
       rw[decide_eq_true (show(i:Int)<8 by omega)]
       (repeat apply Exists.intro)
       exact⟨⟨j+1,Oc,M0,M0,HS.o,by trivial⟩,rfl⟩
      case measure=>simp[intOf];omega
     have hs:=Ml hjz (by rw[hzj];simpa using X);have HS:=F<|hs.symm.trans hrun.o;clear hs hzj hrun;generalize a[j]=x at cj X;by_cases hc:2<=j-i/\e-b<j-i
     ·have HG:=F<|(show nG z f' (j+1) i j=nG z (f'+1) i b e by rw[nG,if_pos hlt,<-HS.o,if_pos hc]).trans hg.o
      have hc1:(2:Int)<=(j:Int)-i:=M0;have hc2:(e:Int)-b<(j:Int)-i:=M0;clear hc;go_wp2_with fail;go_roundw
      case rel=>exact⟨i,j,j+1,f',rfl,rfl,Oc,HG.o,M0,M0,M0,M0,by trivial⟩
      case measure=>simp[intOf];omega
     have HG:=F<|(show nG z f' (j+1) b e=nG z (f'+1) i b e by rw[nG,if_pos hlt,<-HS.o,if_neg hc]).trans hg.o;have hcc:¬ (2:Int)<=(j:Int)-i\/((2:Int)<=(j:Int)-i/\¬ (e:Int)-b<(j:Int)-i):=M0;clear hc;rcases hcc with hc1|⟨hc1,hc2⟩
     all_goals
      go_wp2_with fail;go_roundw
      case rel=>exact⟨b,e,j+1,f',rfl,rfl,Oc,HG.o,M0,M0,M0,M0,by trivial⟩
      case measure=>simp[intOf];omega
    have a9F:j=8:=M0;have hs:=RP (z:=z) (j:=j) (by have:=HZL.o;omega);have HS:=F<|hs.symm.trans hrun.o;clear hs hrun;have b4C:¬ (j:Int)<8:=M0;clear a9F;by_cases hc:2<=j-i/\e-b<j-i
    ·have HG:=F<|(show nG z f' (j+1) i j=nG z (f'+1) i b e by rw[nG,if_pos hlt,<-HS.o,if_pos hc]).trans hg.o
     have hc1:(2:Int)<=(j:Int)-i:=M0;have hc2:(e:Int)-b<(j:Int)-i:=M0;clear hc;go_wp2_with fail;go_roundw
     case rel=>exact⟨i,j,j+1,f',rfl,rfl,Oc,HG.o,M0,M0,M0,M0,by trivial⟩
     case measure=>simp[intOf];omega
    have HG:=F<|(show nG z f' (j+1) b e=nG z (f'+1) i b e by rw[nG,if_pos hlt,<-HS.o,if_neg hc]).trans hg.o;have hcc:¬ (2:Int)<=(j:Int)-i\/((2:Int)<=(j:Int)-i/\¬ (e:Int)-b<(j:Int)-i):=M0;clear hc;rcases hcc with hc1|⟨hc1,hc2⟩
    all_goals
     go_wp2_with fail;go_roundw
     case rel=>exact⟨b,e,j+1,f',rfl,rfl,Oc,HG.o,M0,M0,M0,M0,by trivial⟩
     case measure=>simp[intOf];omega
  have Lf:¬ (i:Int)<8:=M0;have HG:=F<|(show nG z f i b e=(b,e) by cases f with|zero=>rfl|succ f=>rw[nG,if_neg hlt]).symm.trans hg.o;go_wp2_with fail
  go_ret2
  refine⟨?_,HB.o⟩;rw[<-HG.o];rfl
theorem gY(a:List Int)(t:Nat)(l:List Nat):iU a (t::l)=rj a t++iU a l:=by simp[iU]
theorem Sk{b e f i:Nat}(hi:i<8)(h:i=b/\b<e):iR b e (f+1) i=101::iR b e f e:=by rw[iR,if_pos hi,if_pos h]
theorem wW{b e f i:Nat}(hi:i<8)(h:¬ (i=b/\b<e))(hc:0<i/\(i≠e\/e=b)):iR b e (f+1) i=100::i::iR b e f (i+1):=by rw[iR,if_pos hi,if_neg h,if_pos hc];rfl
theorem wY{b e f i:Nat}(hi:i<8)(h:¬ (i=b/\b<e))(hc:¬ (0<i/\(i≠e\/e=b))):iR b e (f+1) i=i::iR b e f (i+1):=by rw[iR,if_pos hi,if_neg h,if_neg hc];rfl
theorem DX{b e f i:Nat}(hi:¬ i<8):iR b e f i=[]:=by cases f with|zero=>rfl|succ f=>rw[iR,if_neg hi]
theorem tF(a:List Int)(ha:a.length=8)(i:Nat)(hi:i<a.length):rj a i=gg (a[i]).toNat:=by
 unfold rj;rw[if_neg M0,if_neg M0];simp[List.getD,hi]
theorem Mw(a:List Int)(cs:Array Z)(w:H)(h:Six cs a)(hE:NE w)(hbe:(sA (rJ a)).2=(sA (rJ a)).1) :
  bF prog 100 #[.agg cs] w (S (uc a)):=by
 obtain⟨i0,hi0,hz0,hz1,hz2⟩:=info_parts jn;have XJ:=λW=>tB a cs W h;have hlen:=h.len;have hat:=h.at_;have vH:=h.rng;have hsz:=h.sz;have hall:=xa (rJ a) (vU _ (by rw[uG];exact hlen));have hsx:uc a=iU a (iR (sA (rJ a)).1 (sA (rJ a)).2 9 0):=rfl;have hsl:=ro a vH;rw[hbe]at XJ hall hsx;clear hbe;obtain⟨b,U⟩:=V ((sA (rJ a)).1);rw[<-U]at XJ hall hsx;obtain⟨_,hbe,he8,_⟩:=hall;obtain⟨R,hR⟩:=V (uc a);rw[<-hR]at hsx hsl ⊢
 have IM:=λ(u:Nat) (hu:u<65536) (sv:Z) (n:Nat) (l:O) (B:Nat) (W:H) (U:r7 w W) (hB:B<=W.heap.size) (ho:W.ownsRow B 5 1 sv n (Lib.byteCells l)) (hl:n<=100) =>
  BG u hu sv n l B W (hE.below U) hB ho M0
 have JW:=F IM;have HAT:=F hat;have HLEN:=F hlen;have YB:=F vH;have eM:=F hsz;have HLG:=F XJ;have EG:=F hsx;have HSL:=F hsl;have Eh:=F hbe;have HE8:=F he8;clear IM hat hlen vH hsz XJ hsx hsl hbe he8 hE h hR U;go_enter func100,ntmps100
 go_wp2_with (first
  |(refine boxed rfl _ _ rfl cs rfl ?_;intro bx w1 hb1 hb2 hb3 hb4 hb5;have HC:=F hb4;have HB:=F hb5;have pw:=F hb2;clear hb1 hb2 hb3 hb4 hb5)
  |(refine wpList_load_mid rfl 30 _ rfl bx 0 rfl cs.toList _ (oC 0 (by simpa using HC.o)) underlying30 rfl (by rw[fb,eM.o];kernel_rfl) ?_)
  |(go_at_call 140;rw[jh];refine(HLG.o _).m ?_;rintro e1 w2 ⟨rfl,hb2⟩;have HB2:=F hb2;clear hb2))
 go_loopw [5,6] (λov iv wr=>∃ (i f:Nat) (l:O),iv=.int .i64 i/\Hid (l++iU a (iR b b f i)=R)/\8<=i+f/\i<=8/\Hid (wr.ownsRow w2.heap.size 5 1 ov l.length (Lib.byteCells l))/\Hid (r7 w2 wr)) (λ_ i _=>9-(intOf i).toNat)
 case atStart=>exact⟨0,9,[],rfl,EG.o.symm,M0,M0,⟨by simp[Lib.byteCells],.inl ⟨rfl,rfl⟩⟩,Below.refl _ _⟩
 case round =>
  obtain⟨i,f,l,rfl,X,hif,tA,ho,U⟩:=hrel;have hBB:r7 w _:=HB.o.trans ((HB2.o.m HB.o.size).trans (U.o.m (am HB.o.size HB2.o.size)));have kM:=F hBB;clear hBB
  have hll:l.length<=72:=by
   have Y:=congrArg List.length X.o;rw[ae]at Y;have:=HSL.o;omega
  have xM:=F hll;clear hll;by_cases hlt:i<8
  ·obtain⟨f',rfl⟩:∃ f',f=f'+1:=⟨f-1,M0⟩
   have Lf:(i:Int)<8:=M0;have hx2:=X.o;have hA:¬ (i=b/\b<b):=M0;have hia:i<a.length:=by have:=HLEN.o;omega
   have ci:=((HB2.o.trans (U.o.m HB2.o.size)).cell (p:=⟨bx,i,none⟩) pw.o).trans ((HC.o i).trans (HAT.o i hia));have hri:=YB.o _ (be hia);have hpc:=tF a HLEN.o i hia;obtain⟨x,hx0⟩:=V (a[i]);rw[<-hx0]at ci hri hpc;obtain⟨n,rfl⟩:∃ n:Nat,x=n:=⟨x.toNat,M0⟩;simp only[eV]at hpc;have hn:n<65536:=M0;have hxl:=qT 3 n M0;clear hx0 hri;by_cases Ae:0<i/\(i≠b\/b=b)
   ·rw[wW hlt hA Ae,gY,gY,hpc]at hx2
    have hx3:(l++[58]++gg n)++iU a (iR b b f' (i+1))=R:=by rw[<-hx2];simp[rj]
    have HX:=F hx3;clear hx3 hx2 X hpc;have Xa:=F hxl;clear hxl;have h0:(0:Int)<i:=M0;clear Ae hA;by_cases hib:i=b
    ·subst hib
     have hwz:=U.o.size
     go_wp2_with (first
      |(at_builtin;(refine et rfl (.tmp 40) (.tmp 41) _ rfl w2.heap.size 5 i0 (.int .u8 0) 1 underlying25 hi0 hz0 hz1 hz2 P8 _ _ _ _ rfl ho.o (.int .u8 58) rfl rfl (by have:=xM.o;omega) P8 hwz ?_);intro v3 w3 hown3 hw3 hb3;have jx:=F hown3;clear hown3;have HB3:=F<|U.o.trans hb3;have HZ3:=F<|kM.o.trans (hb3.m (am HB.o.size HB2.o.size));have ci3:=(hb3.cell (p:=⟨bx,i,none⟩) (aN pw.o HB2.o.size)).trans ci;clear hb3)
      |(go_at_call 139;refine(JW.o n hn _ _ (l++[58]) w2.heap.size _ HZ3.o HB3.o.size (by rw[dR];exact jx.o) (by have:=xM.o;simp;omega)).m ?_;rintro e4 w4 ⟨v4,rfl,qV,hb4⟩;have qp:=F qV;clear qV;have eI:=F<|HB3.o.trans hb4;clear hb4))
     go_roundw
     case rel =>
      refine⟨i+1,f',l++[58]++gg n,by simp_all,HX.o,M0,M0,?_,eI.o⟩;have:=qp.o;rw[ae,ae];exact this
     case measure=>simp_all[intOf] <;>omega
    have a9y:¬ (i:Int)=b:=M0;clear hib;have hwz:=U.o.size
    go_wp2_with (first
     |(at_builtin;(refine et rfl (.tmp 40) (.tmp 41) _ rfl w2.heap.size 5 i0 (.int .u8 0) 1 underlying25 hi0 hz0 hz1 hz2 P8 _ _ _ _ rfl ho.o (.int .u8 58) rfl rfl (by have:=xM.o;omega) P8 hwz ?_);intro v3 w3 hown3 hw3 hb3;have jx:=F hown3;clear hown3;have HB3:=F<|U.o.trans hb3;have HZ3:=F<|kM.o.trans (hb3.m (am HB.o.size HB2.o.size));have ci3:=(hb3.cell (p:=⟨bx,i,none⟩) (aN pw.o HB2.o.size)).trans ci;clear hb3)
     |(go_at_call 139;refine(JW.o n hn _ _ (l++[58]) w2.heap.size _ HZ3.o HB3.o.size (by rw[dR];exact jx.o) (by have:=xM.o;simp;omega)).m ?_;rintro e4 w4 ⟨v4,rfl,qV,hb4⟩;have qp:=F qV;clear qV;have eI:=F<|HB3.o.trans hb4;clear hb4))
    go_roundw
    case rel =>
     refine⟨i+1,f',l++[58]++gg n,by simp_all,HX.o,M0,M0,?_,eI.o⟩;have:=qp.o;rw[ae,ae];exact this
    case measure=>simp_all[intOf] <;>omega
   rw[wY hlt hA Ae,gY,hpc]at hx2;have hx3:(l++gg n)++iU a (iR b b f' (i+1))=R:=by rw[<-hx2];simp
   have HX:=F hx3;clear hx3 hx2 X hpc;have Xa:=F hxl;clear hxl;have h0:¬ (0:Int)<i:=M0;clear Ae hA;by_cases hib:i=b
   ·subst hib
    go_wp2_with (first
     |(go_at_call 139;refine(JW.o n hn _ _ l w2.heap.size _ kM.o U.o.size ho.o (by have:=xM.o;simp;omega)).m ?_;rintro e4 w4 ⟨v4,rfl,qV,hb4⟩;have qp:=F qV;clear qV;have eI:=F<|U.o.trans hb4;clear hb4))
    go_roundw
    case rel =>
     refine⟨i+1,f',l++gg n,by simp_all,HX.o,M0,M0,?_,eI.o⟩;have:=qp.o;rw[ae];exact this
    case measure=>simp_all[intOf] <;>omega
   have a9y:¬ (i:Int)=b:=M0;clear hib
   go_wp2_with (first
    |(go_at_call 139;refine(JW.o n hn _ _ l w2.heap.size _ kM.o U.o.size ho.o (by have:=xM.o;simp;omega)).m ?_;rintro e4 w4 ⟨v4,rfl,qV,hb4⟩;have qp:=F qV;clear qV;have eI:=F<|U.o.trans hb4;clear hb4))
   go_roundw
   case rel =>
    refine⟨i+1,f',l++gg n,by simp_all,HX.o,M0,M0,?_,eI.o⟩;have:=qp.o;rw[ae];exact this
   case measure=>simp_all[intOf] <;>omega
  have Lf:¬ (i:Int)<8:=M0;have hx2:=X.o;rw[DX hlt]at hx2;have hx3:l=R:=by rw[<-hx2];simp[iU]
  have hcv:=jq (P:=prog) (src:=25) (dst:=9) underlying25 underlying5 underlying9 ho.o;rw[hx3]at hcv;clear hx3 hx2;go_wp2_with fail;go_ret;exact⟨rfl,kM.o⟩
theorem Mx(a:List Int)(cs:Array Z)(w:H)(h:Six cs a)(hE:NE w)(hbe:(sA (rJ a)).1<(sA (rJ a)).2) :
  bF prog 100 #[.agg cs] w (S (uc a)):=by
 obtain⟨i0,hi0,hz0,hz1,hz2⟩:=info_parts jn;have XJ:=λW=>tB a cs W h;have hlen:=h.len;have hat:=h.at_;have vH:=h.rng;have hsz:=h.sz;have hall:=xa (rJ a) (vU _ (by rw[uG];exact hlen));have hsx:uc a=iU a (iR (sA (rJ a)).1 (sA (rJ a)).2 9 0):=rfl;have hsl:=ro a vH;obtain⟨b,U⟩:=V ((sA (rJ a)).1);obtain⟨e,he⟩:=V ((sA (rJ a)).2);rw[<-U,<-he]at XJ hall hsx hbe;clear he;have b4o:(b:Int)<e:=M0;obtain⟨_,_,he8,_⟩:=hall;obtain⟨R,hR⟩:=V (uc a);rw[<-hR]at hsx hsl ⊢
 have IM:=λ(u:Nat) (hu:u<65536) (sv:Z) (n:Nat) (l:O) (B:Nat) (W:H) (U:r7 w W) (hB:B<=W.heap.size) (ho:W.ownsRow B 5 1 sv n (Lib.byteCells l)) (hl:n<=100) =>
  BG u hu sv n l B W (hE.below U) hB ho M0
 have JW:=F IM;have HAT:=F hat;have HLEN:=F hlen;have YB:=F vH;have eM:=F hsz;have HLG:=F XJ;have EG:=F hsx;have HSL:=F hsl;have Eh:=F hbe;have HE8:=F he8;clear IM hat hlen vH hsz XJ hsx hsl hbe he8 hE h hR U;go_enter func100,ntmps100
 go_wp2_with (first
  |(refine boxed rfl _ _ rfl cs rfl ?_;intro bx w1 hb1 hb2 hb3 hb4 hb5;have HC:=F hb4;have HB:=F hb5;have pw:=F hb2;clear hb1 hb2 hb3 hb4 hb5)
  |(refine wpList_load_mid rfl 30 _ rfl bx 0 rfl cs.toList _ (oC 0 (by simpa using HC.o)) underlying30 rfl (by rw[fb,eM.o];kernel_rfl) ?_)
  |(go_at_call 140;rw[jh];refine(HLG.o _).m ?_;rintro e1 w2 ⟨rfl,hb2⟩;have HB2:=F hb2;clear hb2))
 go_loopw [5,6] (λov iv wr=>∃ (i f:Nat) (l:O),iv=.int .i64 i/\Hid (l++iU a (iR b e f i)=R)/\8<=i+f/\i<=8/\Hid (wr.ownsRow w2.heap.size 5 1 ov l.length (Lib.byteCells l))/\Hid (r7 w2 wr)) (λ_ i _=>9-(intOf i).toNat)
 case atStart=>exact⟨0,9,[],rfl,EG.o.symm,M0,M0,⟨by simp[Lib.byteCells],.inl ⟨rfl,rfl⟩⟩,Below.refl _ _⟩
 case round =>
  obtain⟨i,f,l,rfl,X,hif,tA,ho,U⟩:=hrel;have hBB:r7 w _:=HB.o.trans ((HB2.o.m HB.o.size).trans (U.o.m (am HB.o.size HB2.o.size)));have kM:=F hBB;clear hBB
  have hll:l.length<=72:=by
   have Y:=congrArg List.length X.o;rw[ae]at Y;have:=HSL.o;omega
  have xM:=F hll;clear hll;by_cases hlt:i<8
  ·obtain⟨f',rfl⟩:∃ f',f=f'+1:=⟨f-1,M0⟩
   have Lf:(i:Int)<8:=M0;have hx2:=X.o;by_cases hA:i=b/\b<e
   ·rw[Sk hlt hA,gY]at hx2
    have hx3:(l++[58,58])++iU a (iR b e f' e)=R:=by rw[<-hx2];simp[rj]
    have HX:=F hx3;clear hx3 hx2 X;obtain⟨hA1,_⟩:=hA;have hA3:(i:Int)=b:=M0;have b4v:(e:Int)<=8:=by have:=HE8.o;omega
    have hei:(1:Int)<=e:=M0;clear hA1;have hwz:=U.o.size
    go_wp2_with (first
     |(at_builtin;(refine a49 rfl (.tmp 24) (.const (.string ⟨#[58,58]⟩)) _ _ rfl w2.heap.size 5 i0 underlying25 underlying9 hi0 hz0 hz1 hz2 _ _ _ l rfl ho.o [58,58] rfl (by have:=xM.o;simp;omega) hwz ?_);intro v3 w3 hown3 hw3 hb3;have jx:=F hown3;clear hown3;have HB3:=F hb3;clear hb3))
    go_roundw
    case rel =>
     refine⟨e,f',l++[58,58],Oc,HX.o,by have:=Eh.o;omega,HE8.o,?_,U.o.trans HB3.o⟩;rw[ae];exact jx.o
    case measure=>simp_all[intOf];have:=HE8.o;omega
   have hia:i<a.length:=by have:=HLEN.o;omega
   have ci:=((HB2.o.trans (U.o.m HB2.o.size)).cell (p:=⟨bx,i,none⟩) pw.o).trans ((HC.o i).trans (HAT.o i hia));have hri:=YB.o _ (be hia);have hpc:=tF a HLEN.o i hia;obtain⟨x,hx0⟩:=V (a[i]);rw[<-hx0]at ci hri hpc;obtain⟨n,rfl⟩:∃ n:Nat,x=n:=⟨x.toNat,M0⟩;simp only[eV]at hpc;have hn:n<65536:=M0;have hxl:=qT 3 n M0;clear hx0 hri;by_cases Ae:0<i/\(i≠e\/e=b)
   ·rw[wW hlt hA Ae,gY,gY,hpc]at hx2
    have hx3:(l++[58]++gg n)++iU a (iR b e f' (i+1))=R:=by rw[<-hx2];simp[rj]
    have HX:=F hx3;clear hx3 hx2 X hpc;have Xa:=F hxl;clear hxl;have h0:(0:Int)<i:=M0;have Y:¬ (i:Int)=b:=by have:=Eh.o;omega
    have I:¬ (i:Int)=e:=by have:=Eh.o;omega
    clear Ae hA;have hwz:=U.o.size
    go_wp2_with (first
     |(at_builtin;(refine et rfl (.tmp 40) (.tmp 41) _ rfl w2.heap.size 5 i0 (.int .u8 0) 1 underlying25 hi0 hz0 hz1 hz2 P8 _ _ _ _ rfl ho.o (.int .u8 58) rfl rfl (by have:=xM.o;omega) P8 hwz ?_);intro v3 w3 hown3 hw3 hb3;have jx:=F hown3;clear hown3;have HB3:=F<|U.o.trans hb3;have HZ3:=F<|kM.o.trans (hb3.m (am HB.o.size HB2.o.size));have ci3:=(hb3.cell (p:=⟨bx,i,none⟩) (aN pw.o HB2.o.size)).trans ci;clear hb3)
     |(go_at_call 139;refine(JW.o n hn _ _ (l++[58]) w2.heap.size _ HZ3.o HB3.o.size (by rw[dR];exact jx.o) (by have:=xM.o;simp;omega)).m ?_;rintro e4 w4 ⟨v4,rfl,qV,hb4⟩;have qp:=F qV;clear qV;have eI:=F<|HB3.o.trans hb4;clear hb4))
    all_goals
     go_roundw
     case rel =>
      refine⟨i+1,f',l++[58]++gg n,by simp_all,HX.o,M0,M0,?_,eI.o⟩;have:=qp.o;rw[ae,ae];exact this
     case measure=>simp_all[intOf] <;>omega
   rw[wY hlt hA Ae,gY,hpc]at hx2;have hx3:(l++gg n)++iU a (iR b e f' (i+1))=R:=by rw[<-hx2];simp
   have HX:=F hx3;clear hx3 hx2 X hpc;have Xa:=F hxl;clear hxl;have Y:¬ (i:Int)=b:=by have:=Eh.o;omega
   have h3:¬ (e:Int)=b:=by have:=Eh.o;omega
   have I:(¬(0:Int)<i)\/((0:Int)<i/\(i:Int)=e):=by have:=Eh.o;omega
   clear Ae hA;rcases I with I|⟨I,h4⟩
   ·go_wp2_with (first
     |(go_at_call 139;refine(JW.o n hn _ _ l w2.heap.size _ kM.o U.o.size ho.o (by have:=xM.o;simp;omega)).m ?_;rintro e4 w4 ⟨v4,rfl,qV,hb4⟩;have qp:=F qV;clear qV;have eI:=F<|U.o.trans hb4;clear hb4))
    go_roundw
    case rel =>
     refine⟨i+1,f',l++gg n,by simp_all,HX.o,M0,M0,?_,eI.o⟩;have:=qp.o;rw[ae];exact this
    case measure=>simp_all[intOf] <;>omega
   obtain rfl:i=e:=M0;clear h4
   go_wp2_with (first
    |(go_at_call 139;refine(JW.o n hn _ _ l w2.heap.size _ kM.o U.o.size ho.o (by have:=xM.o;simp;omega)).m ?_;rintro e4 w4 ⟨v4,rfl,qV,hb4⟩;have qp:=F qV;clear qV;have eI:=F<|U.o.trans hb4;clear hb4))
   go_roundw
   case rel =>
    refine⟨i+1,f',l++gg n,by simp_all,HX.o,M0,M0,?_,eI.o⟩;have:=qp.o;rw[ae];exact this
   case measure=>simp_all[intOf] <;>omega
  have Lf:¬ (i:Int)<8:=M0;have hx2:=X.o;rw[DX hlt]at hx2;have hx3:l=R:=by rw[<-hx2];simp[iU]
  have hcv:=jq (P:=prog) (src:=25) (dst:=9) underlying25 underlying5 underlying9 ho.o;rw[hx3]at hcv;clear hx3 hx2;go_wp2_with fail;go_ret;exact⟨rfl,kM.o⟩
theorem G7(a:List Int)(cs:Array Z)(w:H)(h:Six cs a)(hE:NE w) :
  bF prog 100 #[.agg cs] w (S (uc a)):=by
 have hall:=xa (rJ a) (vU _ (by rw[uG];exact h.len));by_cases U:(sA (rJ a)).1<(sA (rJ a)).2
 ·exact Mx a cs w h hE U
 exact Mw a cs w h hE M0

def lJ(h:gF):O:=if h.kind=2\/h.kind=5 then h.name else if h.kind=3 then tj h.four.toNat else if h.kind=4 then [91]++uc h.six++[93]else []
theorem oQ(h:gF)(ok:sV h)(n:Nat)(hn:h.name.length<=n):(lJ h).length<=n+74:=by
 have Y:=ro h.six ok.s;have I:=Lb h.four.toNat (by have:=ok.f;omega);unfold lJ
 split
 ·omega
 split
 ·omega
 split
 ·simp only[ae,ah,aO];omega
 simp
theorem By.a0S{cs:Array Z}{h:gF}(ha:By cs h):Six (cs.toList.drop 3).toArray h.six:=by
 refine⟨?_,ha.ok.l,λk hk=>?_,ha.ok.s⟩
 ·simp[ha.sz]
 rw[cf,fz,iL];exact ha.six k hk
theorem vJ(h:gF)(cs:Array Z)(w:H)(ha:By cs h)(hnl:h.name.length<=102400000)(hE:NE w) :
  bF prog 60 #[.agg cs] w (S (lJ h)):=by
 have h0:=ha.kind;have Y:=ha.name;have I:=ha.four;have hf:=ha.ok.f;have hs:=ha.a0S;have xF:=λW (hW:r7 w W)=>G7 h.six _ W hs (hE.below hW);have CJ:=λW (hW:r7 w W)=>FM h.four.toNat M0 W (hE.below hW);have hr:lJ h=if h.kind=2\/h.kind=5 then h.name else if h.kind=3 then tj h.four.toNat else if h.kind=4 then [91]++uc h.six++[93]else []:=rfl;have hsl:=ro h.six ha.ok.s;have hc6:∀ i,cs[3+i]? = (cs.toList.drop 3)[i]?:=λi=>by rw[fz,iL]
 have h8:(cs.toList.drop 3).length=8:=by rw[aj,fb,ha.sz]
 obtain⟨R,hR⟩:=V (lJ h);rw[<-hR]at hr ⊢;clear ha hR hs;generalize h.kind=K at h0 hr;generalize h.name=nm at Y hr hnl;obtain⟨q,hq⟩:∃ q:Nat,h.four=q:=⟨h.four.toNat,M0⟩;rw[hq]at I hf CJ hr;simp only[eV]at CJ hr;generalize tj q=F' at CJ hr;generalize uc h.six=X' at xF hr hsl;clear hq;generalize cs.toList.drop 3=c6 at hc6 h8 xF;have a72:=F xF;clear xF;have a2h:=F CJ;clear CJ;have Yt:=F hc6;clear hc6;have H8:=F h8;clear h8;by_cases k2:K=2\/K=5
 ·rw[if_pos k2]at hr
  subst hr;rcases k2 with rfl|rfl
  all_goals
   go_enter func60,ntmps60
   go_wp2_with (first|(refine boxed rfl _ _ rfl cs rfl ?_;intro bx w1 hb1 hb2 hb3 hb4 hb5;have c0:=(hb4 0).trans h0;have c1:=(hb4 1).trans Y;have HB:=F hb5;clear hb1 hb2 hb3 hb4 hb5))
   go_ret;exact⟨rfl,HB.o⟩
 rw[if_neg k2]at hr;have n2:¬ K=2:=λh=>k2 (.inl h);have n5:¬ K=5:=λh=>k2 (.inr h);clear k2;by_cases k3:K=3
 ·rw[if_pos k3]at hr
  subst hr;subst k3;go_enter func60,ntmps60
  go_wp2_with (first
   |(refine boxed rfl _ _ rfl cs rfl ?_;intro bx w1 hb1 hb2 hb3 hb4 hb5;have c0:=(hb4 0).trans h0;have c2:=(hb4 2).trans I;have HB:=F hb5;clear hb1 hb2 hb3 hb4 hb5)
   |(go_at_call 99;refine(a2h.o _ HB.o).m ?_;rintro e w2 ⟨rfl,hb2⟩;have HB2:=F<|HB.o.trans (hb2.m HB.o.size);clear hb2))
  go_ret;exact⟨rfl,HB2.o⟩
 rw[if_neg k3]at hr;by_cases k4:K=4
 ·rw[if_pos k4]at hr
  subst k4;have HR:=F hr;clear hr n2 n5 k3;go_enter func60,ntmps60
  go_wp2_with (first
   |(refine boxed rfl _ _ rfl cs rfl ?_;intro bx w1 hb1 hb2 hb3 hb4 hb5;have c0:=(hb4 0).trans h0;have HC:=F hb4;have HB:=F hb5;clear hb1 hb2 hb3 hb4 hb5)
   |(refine wpList_load_mid rfl 30 _ rfl bx 3 rfl c6 _ (λj v hv=>by rw[HC.o (3+j),Yt.o j];exact hv) underlying30 rfl (by rw[H8.o];kernel_rfl) ?_)
   |(go_at_call 100;refine(a72.o _ HB.o).m ?_;rintro e w2 ⟨rfl,hb2⟩;have HB2:=F<|HB.o.trans (hb2.m HB.o.size);clear hb2))
  go_ret;refine⟨AK ?_,HB2.o⟩;rw[HR.o];simp[Gs,Jl]
 rw[if_neg k4]at hr;subst hr;go_enter func60,ntmps60
 go_wp2_with (first
  |(refine boxed rfl _ _ rfl cs rfl ?_;intro bx w1 hb1 hb2 hb3 hb4 hb5;have c0:=(hb4 0).trans h0;have HB:=F hb5;clear hb1 hb2 hb3 hb4 hb5))
 go_ret;exact⟨rfl,HB.o⟩
