/- Joined texts. -/
import Derived.Shelf.Strconv.AppendUint10
import Derived.Lib.SmallJoins
import Derived.Laws.BitsLemmas
import Derived.Deep.DeepCutAuto
import Derived.Test.YtmndlfglgcioeaaGreatDoorEGNumA
import Derived.Test.YtmndlfglgcioeaaGreatDoorEGArr
set_option maxHeartbeats 40000000
namespace Go.Proofs.YtmndlfglgcioeaaGreatDoor
open Tryz
open Go.RowKit
set_option maxRecDepth 10000
structure NE (w:World):Prop where
 tab:Lib.TabIs prog w "internal/strconv.uint64pow10" .u64 Lib.pow10Tab
 tz:w.cell? ⟨5,15,none⟩=some (.int .u8 4)
theorem NE.below{w w':World}(h:NE w)(hb:Below w.heap.size w w'):NE w' :=
 ⟨Lib.tabBelow_of_tabIs h.tab w' hb,by
  have h2:=h.tz
  have hlt:5<w.heap.size:=by
   rcases cZ 5 w.heap.size with hlt|hge
   ·exact hlt
   simp[World.cell?,Array.getElem?_eq_none hge]at h2
  exact(hb.cell (p:=⟨5,15,none⟩) hlt).trans h2⟩
theorem Xv(w:World)(h:NE w):bV prog 205 #[.int .u64 16] w (.int .i64 4):=by
 have htz:=h.tz;clear h;have z1:IntKind.u64.wrap (-16)=18446744073709551600:=by decide +kernel
 have z2:bits BinOp.and IntKind.u64 16 18446744073709551600=16:=by decide +kernel
 have z3:IntKind.u64.wrap (16*285870213051353865)=4573923408821661840:=by decide +kernel
 have z4:(4573923408821661840:Int)/288230376151711744=15:=by decide +kernel
 go_enter func205,ntmps205
 go_wp2_with fail
 go_ret;exact⟨rfl,rfl⟩
theorem a55(w:World)(h:NE w):bV prog 198 #[.int .u64 16] w (.int .i64 4):=by
 have htz:=Xv w h;have HT:=h_ htz;clear htz;go_enter func198,ntmps198
 go_wp2_with (first|(go_at_call 205;refine HT.out.mono ?_;rintro e w2 ⟨rfl,rfl⟩)|fail)
 go_ret;exact⟨rfl,rfl⟩
theorem WW(w:World):bV prog 197 #[.int .i64 16] w (.bool true):=by
 have z1:bits BinOp.and IntKind.i64 16 15=0:=by decide +kernel
 go_enter func197,ntmps197
 go_wp2_with fail
 go_ret;exact⟨rfl,rfl⟩
def ky(n:Nat):UInt8:=UInt8.ofNat (if n<10 then 48+n else 87+n)
def ew(u:Nat):Bytes:=if _h:u<16 then [ky u]else ew (u/16)++[ky (u%16)]
termination_by u
decreasing_by omega
theorem im{u:Nat}(h:u<16):ew u=[ky u]:=by rw[ew,dif_pos h]
theorem lT{u:Nat}(h:¬ u<16):ew u=ew (u/16)++[ky (u%16)]:=by rw[ew,dif_neg h]
def Z65:Array Value:=Array.replicate 65 (.int .u8 0)
theorem a3u(w:World):(Instr.alloc 190 true (Value.tuple #[])).run prog w=.ok (.pointer (some ⟨w.heap.size,0,none⟩)) (w.alloc (.cells Z65 190)):=by kernel_rfl
structure Ox (w:World) (b:Nat) (l:Bytes) (wr:World):Prop where
 blk:∃ c,wr.heap[b]? = some (.cells c 190 (0,0))∧c.size=65∧∀ t (h:t<l.length),c[65-l.length+t]? = some (.int .u8 (b2 l[t]))
 bL:Below w.heap.size w wr
theorem Ox.fresh(w:World):Ox w w.heap.size [] (w.alloc (.cells Z65 190)) :=
 ⟨⟨_,heap_alloc_new w _,by simp[Z65],fun t h=>by simp at h⟩,(Below.refl _ _).alloc (af _) _⟩
theorem Ox.cell{w wr:World}{b:Nat}{l:Bytes}(h:Ox w b l wr)(i:Nat)(hi:i<65):(∃v,wr.cell? ⟨b,i,none⟩=some v)∧wr.frozen? ⟨b,i,none⟩=false:=by
 obtain⟨⟨c,h1,h2,_⟩,_⟩:=h;refine⟨⟨c[i],?_⟩,Go.Joins.unfrozen_of_block h1 i⟩;rw[Go.Joins.cell_of_block h1];simp[h2,hi]
theorem Ox.put{w wr:World}{b:Nat}{l:Bytes}(h:Ox w b l wr)(hb:w.heap.size<=b)(x:UInt8)(hl:l.length<65)(i:Nat)(hi:i=64-l.length):Ox w b (x::l) (wr.setCell ⟨b,i,none⟩ (.int .u8 (b2 x))):=by
 obtain⟨⟨c,h1,h2,h3⟩,h4⟩:=h;subst hi;refine⟨⟨_,Go.Joins.block_setCell h1 _,by simp[h2],fun t ht=>?_⟩,h4.setCell hb _⟩;rw[Array.getElem?_setIfInBounds];simp only[ag]at ht ⊢;cases t with
 |zero =>
  rw[if_pos (by omega),if_pos (by omega)];rfl
 |succ t =>
  rw[if_neg (by omega)];have:=h3 t (by omega);rw[show 65-(l.length+1)+(t+1)=65-l.length+t by omega,this];rfl
theorem Ox.at{w wr:World}{b:Nat}{l:Bytes}(h:Ox w b l wr)(_:l.length<=65):At wr b (65-l.length) (Lib.byteCells l):=by
 obtain⟨⟨c,h1,h2,h3⟩,_⟩:=h;intro j hj;have hj':j<l.length:=by simpa[Lib.byteCells]using hj
 rw[Go.Joins.cell_of_block h1,h3 j hj'];simp[Lib.byteCells,b2]
theorem a05(v:Nat)(hv:v<65536):bits BinOp.and IntKind.u64 (v:Int) 15=((v%16:Nat):Int):=by
 have h:=bits_mask .u64 63 (by decide) (fun n h0 h1=>by rw[IntKind.wrap_u64];omega) 4 (by decide) (v:Int) (by omega) (by omega);have e:((2:Int) ^ 4-1)=15:=by decide
 have e2:((2:Int) ^ 4)=16:=by decide
 rw[e,e2]at h;rw[h];omega
theorem Jz:∀ k:Fin 16,((⟨#[48,49,50,51,52,53,54,55,56,57,97,98,99,100,101,102,103,104,105,106,107,108,109,110,111,112,113,114,115,116,117,118,119,120,121,122]⟩:ByteArray)[k.val]'(by have:=k.isLt;show k.val<36;omega))=ky k.val:=by decide +kernel
theorem L4(u:Nat)(hu:u<65536)(sv:Value)(n:Nat)(l:Bytes)(B:Nat)(w:World)(hE:NE w)(hB:B<=w.heap.size)(hown:w.ownsRow B 5 1 sv n (Lib.byteCells l))(hlim:n<=1024000000) :
  Calls prog 184 #[sv,.int .u64 u,.int .i64 16,.bool false,.bool true] w fun e w'=>∃ v' s,e=.returned (.tuple #[v',s])∧w'.ownsRow B 5 1 v' (n+(ew u).length) (Lib.byteCells (l++ew u))∧Below B w w':=by
 obtain⟨i0,hi0,hz0,hz1,hz2⟩:=info_parts j8;have htz:=fun W (h:NE W)=>a55 W h;have HTZ:=h_ htz;clear htz;have HP2:=h_ (fun W=>WW W);have HE:=h_ hE;clear hE;have HO:=h_ hown;clear hown;go_enter func184,ntmps184
 go_wp2_with (first
  |(refine aS rfl 190 rfl _ _ (a3u _) ?_)
  |(go_at_call 197;refine(HP2.out _).mono ?_;rintro e w2 ⟨rfl,hw2⟩;subst hw2)
  |(go_at_call 198;refine(HTZ.out _ (HE.out.below ((Below.refl _ _).alloc (af _) _))).mono ?_;rintro e w2 ⟨rfl,hw2⟩;subst hw2)
  |fail)
 obtain⟨b,hb⟩:=az (w.heap.size);rw[<-hb];have hD0:=Ox.fresh w;rw[<-hb]at hD0;have HB:=h_ hb;clear hb;have HD0:=h_ hD0;clear hD0
 go_loopw [1,13] (fun uv iv wr=>∃ (v:Nat) (t:Bytes),uv=.int .u64 v∧iv=.int .i64 (65-t.length:Nat)∧Hid (ew v++t=ew u)∧Hid (t.length<=3∧v<16 ^ (4-t.length))∧Hid (Ox w b t wr)) (fun uv _ _=>(intOf uv).toNat)
 case atStart=>exact⟨u,[],rfl,rfl,aG _,⟨by simp,by simpa using hu⟩,HD0.out⟩
 case round =>
  obtain⟨v,t,rfl,rfl,hx,hl,hd⟩:=hrel;obtain⟨hl1,hl2⟩:=hl.out;have hv:v<65536:=aQ hl2 (Nat.pow_le_pow_right (n:=16) (by omega) (show 4-t.length<=4 by omega));obtain⟨I,hI⟩:∃ I:Int,I=((65-t.length:Nat):Int):=⟨_,rfl⟩;obtain⟨J,hJ⟩:∃ J:Nat,J=64-t.length:=⟨_,rfl⟩;have hIJ:I-1=(J:Int):=by omega
  have hJb:J<65:=by omega
  have hIb:1<=I∧I<=65:=by omega
  obtain⟨⟨v0,c1⟩,f1⟩:=hd.out.cell J hJb;rw[<-hI];have HI:=h_ hI;clear hI;have HJ:=h_ hJ;clear hJ hl1 hl2;by_cases h16:(16:Int)<=v
  ·obtain⟨r,hr⟩:∃ r:Nat,r=v%16:=⟨_,rfl⟩
   have hand:bits BinOp.and IntKind.u64 (v:Int) 15=(r:Int):=by rw[a05 v hv,hr]
   have a0G:r<16:=by omega
   have HR:=h_ hr;clear hr
   go_wp2_with fail
   go_roundw
   case rel =>
    have hd2:=hd.out.put (by have:=HB.out;omega) (ky r) (by have:=hl.out;omega) J HJ.out;refine⟨v/16,ky r::t,by simp,?_,?_,?_,?_⟩
    ·rw[ag,show 65-(t.length+1)=J by have:=HJ.out;omega]
    ·show ew (v/16)++ky r::t=ew u
     rw[<-hx.out,lT (show ¬v<16 by omega),HR.out];simp
    ·have hl2:=hl.out.2
     have h3:t.length<=2:=by
      rcases cZ t.length 3 with h|h
      ·omega
      rw[show 4-t.length=1 by have:=hl.out.1;omega]at hl2;omega
     refine⟨by rw[ag];omega,?_⟩;rw[ag,show 4-t.length=(4-(t.length+1))+1 by omega,b0S]at *;omega
    have e:=Jz ⟨r,a0G⟩;simp only at e;rw[e];exact hd2
   case measure=>simp[intOf];omega
  have a49:v<16:=by omega
  have hsl:∀ W,(Instr.sliceAt 190 (.pointer (some ⟨b,0,none⟩)) (some (.int .i64 (J:Int))) none none).run prog W=.ok (.slice (some ⟨b,J,none⟩) (65-J) (65-J)) W:=fun W=>by
   rw[run_sliceAt_array_l W 190 ⟨b,0,none⟩ (by simp[Program.arrayLen,Program.elem,underlying190]) .i64 (J:Int) (by omega) (by simp[Program.arrayLen,underlying190];omega)];have he:prog.elem 190=5:=by simp[Program.elem,underlying190]
   have hal:prog.arrayLen 190=65:=by simp[Program.arrayLen,underlying190]
   simp[sizeOf,typeInfo,he,hal,hi0,hz1,slicedAt,addr_add];omega
  have hd2:=hd.out.put (by have:=HB.out;omega) (ky v) (by have:=hl.out;omega) J HJ.out;have hD:ky v::t=ew u:=by have:=hx.out;rw[im a49]at this;exact this
  have hDl:65-J=(ew u).length:=by rw[<-hD,ag];have:=HJ.out;have:=hl.out;omega
  have hDm:(ew u).length<=4:=by rw[<-hD,ag];have:=hl.out;omega
  have hat:=hd2.at (by rw[ag];have:=hl.out;omega);rw[hD]at hd2 hat;rw[show 65-(ew u).length=J by omega]at hat;have e36:=Jz ⟨v,a49⟩;simp only at e36;rw[<-e36]at hd2 hat;rw[hDl]at hsl;obtain⟨D,hDD⟩:=az (ew u);rw[<-hDD]at hd2 hat hsl hDl hDm ⊢;have HDD:=h_ hDD;clear hDD hD e36;have hbel:=hd2.bL;have fg:=h_ (HO.out.kept (row:=none) ⟨hbel.os,hbel.tape,hbel.output,hbel.size,fun k hk _=>hbel.block k hk⟩ (by cases hv:sv.ownBlock <;>simp));have mW:=h_ hbel;clear hbel;have HAT:=h_ hat;clear hat;clear hd2 hDl;have hn:=HO.out.1;rw[Lib.byteCells_length]at hn;have HN:=h_ hn;clear hn
  go_wp2_with (first
   |(at_builtin;refine wpList_append_own _ rfl _ _ 50 rfl B 5 i0 (.int .u8 0) 1 1 underlying50 hi0 hz0 hz1 hz2 rfl (by decide) _ _ _ rfl fg.out ⟨b,J,none⟩ D.length D.length (Lib.byteCells D) rfl ?c0 ?c1 ?c2 ?c3 ?c4 ?c5 ?_)
   |fail)
  case c0=>rw[Lib.byteCells_length,Nat.mul_one]
  case c1 =>
   intro j u' hj;have hjl:=(bf.1 hj).1;rw[addr_add];rw[aJ hjl]at hj;exact Eq.trans (HAT.out j hjl) hj
  case c2=>intro u' hu';simp only[Lib.byteCells,cm]at hu';obtain⟨_,_,rfl⟩:=hu';rfl
  case c3=>unfold maxLen;omega
  case c4=>omega
  case c5=>exact ap hB mW.out.size
  intro v' w' ho' hg' _
  go_wp2_with fail
  go_ret2
  have hcc:Lib.byteCells l++Lib.byteCells D=Lib.byteCells (l++D):=by simp[Lib.byteCells]
  rw[hcc]at ho';rw[<-HDD.out];exact⟨v',_,rfl,ho',(mW.out.mono hB).grown hg' (ap hB mW.out.size) (fun k hk=>(fg.out.lt k hk).1)⟩
theorem CK(u:Nat)(hu:u<65536)(sv:Value)(n:Nat)(l:Bytes)(B:Nat)(w:World)(hE:NE w)(hB:B<=w.heap.size)(hown:w.ownsRow B 5 1 sv n (Lib.byteCells l))(hlim:n<=1024000000) :
  Calls prog 155 #[sv,.int .u64 u,.int .i64 16] w fun e w'=>∃ v',e=.returned v'∧w'.ownsRow B 5 1 v' (n+(ew u).length) (Lib.byteCells (l++ew u))∧Below B w w':=by
 have hf:=L4 u hu sv n l B w hE hB hown hlim
 have hin:Calls prog 180 #[sv,.int .u64 u,.int .i64 16] w fun e w'=>∃ v',e=.returned v'∧w'.ownsRow B 5 1 v' (n+(ew u).length) (Lib.byteCells (l++ew u))∧Below B w w':=by
  have HF:=h_ hf;clear hf hE hown;go_enter func180,ntmps180
  go_wp2_with (first|(go_at_call 184;refine HF.out.mono ?_;rintro e w2 ⟨v2,s2,rfl,ho2,hb2⟩;have fg:=h_ ho2;have HB2:=h_ hb2;clear ho2 hb2)|fail)
  go_ret;exact⟨v2,rfl,fg.out,HB2.out⟩
 have HI:=h_ hin;clear hin hf hE hown;go_enter func155,ntmps155
 go_wp2_with (first|(go_at_call 180;refine HI.out.mono ?_;rintro e w2 ⟨v2,rfl,ho2,hb2⟩;have fg:=h_ ho2;have HB2:=h_ hb2;clear ho2 hb2)|fail)
 go_ret;exact⟨v2,rfl,fg.out,HB2.out⟩
theorem Pn(u:Nat)(hu:u<18446744073709551616)(sv:Value)(n:Nat)(l:Bytes)(B:Nat)(w:World)(hE:NE w)(hB:B<=w.heap.size)(hown:w.ownsRow B 5 1 sv n (Lib.byteCells l))(hlim:n<=1024000000) :
  Calls prog 155 #[sv,.int .u64 u,.int .i64 10] w fun e w'=>∃ v',e=.returned v'∧w'.ownsRow B 5 1 v' (n+(Lib.decDigits u).length) (Lib.byteCells (l++Lib.decDigits u))∧Below B w w':=by
 have hin:Calls prog 180 #[sv,.int .u64 u,.int .i64 10] w fun e w'=>∃ v',e=.returned v'∧w'.ownsRow B 5 1 v' (n+(Lib.decDigits u).length) (Lib.byteCells (l++Lib.decDigits u))∧Below B w w':=by
  have hcc:Lib.byteCells l++Lib.byteCells (Lib.decDigits u)=Lib.byteCells (l++Lib.decDigits u):=by simp[Lib.byteCells]
  rw[<-hcc];by_cases h:u<100
  ·exact(Any.internal_strconv_AppendUint_10_small laysAU B n u h sv _ w hown hB (by omega)).mono fun e w' ⟨v',h1,h2,h3,_⟩=>⟨v',h1,h2,h3⟩
  exact(Any.internal_strconv_AppendUint_10_big laysAU B n u (by omega) hu sv _ w hown hB (by omega) hE.tab).mono fun e w' ⟨v',h1,h2,h3,_⟩=>⟨v',h1,h2,h3⟩
 have HI:=h_ hin;clear hin hE hown;go_enter func155,ntmps155
 go_wp2_with (first|(go_at_call 180;refine HI.out.mono ?_;rintro e w2 ⟨v2,rfl,ho2,hb2⟩;have fg:=h_ ho2;have HB2:=h_ hb2;clear ho2 hb2)|fail)
 go_ret;exact⟨v2,rfl,fg.out,HB2.out⟩

theorem ve(v:Nat)(hv:v<4294967296):bits BinOp.and IntKind.u32 (v:Int) 255=((v%256:Nat):Int):=by
 have h:=bits_mask .u32 32 (by decide) (fun n h0 h1=>by rw[IntKind.wrap_u32];omega) 8 (by decide) (v:Int) (by omega) (by omega);have e:((2:Int) ^ 8-1)=255:=by decide
 have e2:((2:Int) ^ 8)=256:=by decide
 rw[e,e2]at h;rw[h];omega
def gW(n:Nat):Bytes:=Lib.decDigits (n/16777216)++[46]++Lib.decDigits (n/65536%256)++[46]++Lib.decDigits (n/256%256)++[46]++Lib.decDigits (n%256)
theorem Dg{u:Nat}(h:u<256):(Lib.decDigits u).length<=3:=nk 2 u (by omega)
def mJ(n:Nat):Nat->Bytes
 |0=>[]
 |1=>Lib.decDigits (n/16777216)++[46]
 |2=>Lib.decDigits (n/16777216)++[46]++Lib.decDigits (n/65536%256)++[46]
 |3=>Lib.decDigits (n/16777216)++[46]++Lib.decDigits (n/65536%256)++[46]++Lib.decDigits (n/256%256)++[46]
 |_=>gW n
theorem y9(n:Nat)(hn:n<4294967296)(k:Nat):(mJ n k).length<=15:=by
 have h1:=Dg (u:=n/16777216) (by omega);have h2:=Dg (u:=n/65536%256) (by omega);have h3:=Dg (u:=n/256%256) (by omega);have h4:=Dg (u:=n%256) (by omega);unfold mJ gW
 split <;>simp only[ae,ag,aN] <;>omega
theorem Mf(n:Nat)(hn:n<4294967296):(gW n).length<=15:=y9 n hn 4
theorem Gw(n:Nat)(hn:n<4294967296)(w:World)(hE:NE w) :
  bN prog 120 #[.int .u32 n] w (S (gW n)):=by
 obtain⟨i0,hi0,hz0,hz1,hz2⟩:=info_parts j8
 have JK:=fun(u:Nat) (hu:u<256) (sv:Value) (l:Bytes) (W:World) (hb:Below w.heap.size w W) (ho:W.ownsRow w.heap.size 5 1 sv l.length (Lib.byteCells l)) (hl:l.length<=15) =>
  Pn u (by omega) sv l.length l w.heap.size W (hE.below hb) hb.size ho (by omega)
 have Lb:=h_ JK;clear JK hE;have hfk:=y9 n hn;have QM:n/16777216<256:=by omega
 have hA1:n/65536%256<256:=by omega
 have hA2:n/256%256<256:=by omega
 have hA3:n%256<256:=by omega
 have m0:bits BinOp.and IntKind.u32 ((n:Int)/16777216) 255=((n/16777216:Nat):Int):=by
  have h:=ve (n/16777216) (by omega);rw[Ui QM]at h;exact h
 have m1:bits BinOp.and IntKind.u32 ((n:Int)/65536) 255=((n/65536%256:Nat):Int):=ve (n/65536) (by omega);have m2:bits BinOp.and IntKind.u32 ((n:Int)/256) 255=((n/256%256:Nat):Int):=ve (n/256) (by omega);have m3:bits BinOp.and IntKind.u32 (n:Int) 255=((n%256:Nat):Int):=ve n (by omega);have x0:mJ n 1=mJ n 0++Lib.decDigits (n/16777216)++[46]:=rfl;have x1:mJ n 2=mJ n 1++Lib.decDigits (n/65536%256)++[46]:=rfl;have x2:mJ n 3=mJ n 2++Lib.decDigits (n/256%256)++[46]:=rfl;have x3:mJ n 4=mJ n 3++Lib.decDigits (n%256):=rfl;have x4:gW n=mJ n 4:=rfl;have x5:mJ n 0=[]:=rfl;rw[x4];generalize n/16777216=a0 at QM m0 x0;generalize n/65536%256=a1 at hA1 m1 x1;generalize n/256%256=a2 at hA2 m2 x2;generalize n%256=a3 at hA3 m3 x3;have e0:=Dg QM;have e1:=Dg hA1;have e2:=Dg hA2;have e3:=Dg hA3;have hni:(n:Int)<4294967296:=by omega
 generalize mJ n=K at hfk x0 x1 x2 x3 x5 ⊢;clear x4;have HX0:=h_ x0;clear x0;have UY:=h_ x1;clear x1;have U7:=h_ x2;clear x2;have HX3:=h_ x3;clear x3;have HX5:=h_ x5;clear x5;have HK:=h_ hfk;clear hfk;have HE0:=h_ e0;clear e0;have HE1:=h_ e1;clear e1;have HE2:=h_ e2;clear e2;have HE3:=h_ e3;clear e3;go_enter func120,ntmps120
 go_wp2_with fail
 go_loopw [3,4] (fun ov sv wr=>∃ k:Nat,Hid (((k=0∧sv=.int .i64 24)∨(k=1∧sv=.int .i64 16)∨(k=2∧sv=.int .i64 8)∨(k=3∧sv=.int .i64 0)∨(k=4∧sv=.int .i64 (-8)))∧wr.ownsRow w.heap.size 5 1 ov (K k).length (Lib.byteCells (K k))∧Below w.heap.size w wr)) (fun _ s _=>(intOf s+8).toNat)
 case atStart =>
  refine⟨0,.inl ⟨rfl,rfl⟩,?_,Below.refl _ _⟩;rw[HX5.out];exact⟨by simp[Lib.byteCells],.inl ⟨rfl,rfl⟩⟩
 case round =>
  obtain⟨k,hk⟩:=hrel;obtain⟨hk,ho,hb⟩:=hk.out;have HO:=h_ ho;clear ho;have HB:=h_ hb;clear hb;rcases hk with⟨rfl,rfl⟩|⟨rfl,rfl⟩|⟨rfl,rfl⟩|⟨rfl,rfl⟩|⟨rfl,rfl⟩
  ·have hl:=HK.out 0
   go_wp2_with (first
    |(go_at_call 155;refine(Lb.out a0 QM _ _ _ HB.out HO.out hl).mono ?_;rintro e w2 ⟨v2,rfl,ho2,hb2⟩;have fg:=h_ ho2;clear ho2;have HB2:=h_ (HB.out.trans hb2);clear hb2;have hwz:=HB2.out.size)
    |(at_builtin;(refine eO rfl (.tmp 18) (.tmp 19) _ rfl w.heap.size 5 i0 (.int .u8 0) 1 underlying50 hi0 hz0 hz1 hz2 (by decide) _ _ _ _ rfl fg.out (.int .u8 46) rfl rfl (by have:=HE0.out;omega) (by decide) hwz ?_);intro v3 w3 hown3 hw3 hb3;have kq:=h_ hown3;clear hown3;have HB3:=h_ hb3;clear hb3)
    |fail)
   go_roundw
   case rel =>
    refine⟨1,.inr <| .inl ⟨rfl,rfl⟩,?_,HB2.out.trans HB3.out⟩;rw[HX0.out,show([46]:Bytes)=[(46:UInt8)]from rfl,dV,ae,ae];exact kq.out
   case measure=>simp[intOf]
  ·have hl:=HK.out 1
   go_wp2_with (first
    |(go_at_call 155;refine(Lb.out a1 hA1 _ _ _ HB.out HO.out hl).mono ?_;rintro e w2 ⟨v2,rfl,ho2,hb2⟩;have fg:=h_ ho2;clear ho2;have HB2:=h_ (HB.out.trans hb2);clear hb2;have hwz:=HB2.out.size)
    |(at_builtin;(refine eO rfl (.tmp 18) (.tmp 19) _ rfl w.heap.size 5 i0 (.int .u8 0) 1 underlying50 hi0 hz0 hz1 hz2 (by decide) _ _ _ _ rfl fg.out (.int .u8 46) rfl rfl (by have:=HE1.out;omega) (by decide) hwz ?_);intro v3 w3 hown3 hw3 hb3;have kq:=h_ hown3;clear hown3;have HB3:=h_ hb3;clear hb3)
    |fail)
   go_roundw
   case rel =>
    refine⟨2,.inr <| .inr <| .inl ⟨rfl,rfl⟩,?_,HB2.out.trans HB3.out⟩;rw[UY.out,show([46]:Bytes)=[(46:UInt8)]from rfl,dV,ae,ae];exact kq.out
   case measure=>simp[intOf]
  ·have hl:=HK.out 2
   go_wp2_with (first
    |(go_at_call 155;refine(Lb.out a2 hA2 _ _ _ HB.out HO.out hl).mono ?_;rintro e w2 ⟨v2,rfl,ho2,hb2⟩;have fg:=h_ ho2;clear ho2;have HB2:=h_ (HB.out.trans hb2);clear hb2;have hwz:=HB2.out.size)
    |(at_builtin;(refine eO rfl (.tmp 18) (.tmp 19) _ rfl w.heap.size 5 i0 (.int .u8 0) 1 underlying50 hi0 hz0 hz1 hz2 (by decide) _ _ _ _ rfl fg.out (.int .u8 46) rfl rfl (by have:=HE2.out;omega) (by decide) hwz ?_);intro v3 w3 hown3 hw3 hb3;have kq:=h_ hown3;clear hown3;have HB3:=h_ hb3;clear hb3)
    |fail)
   go_roundw
   case rel =>
    refine⟨3,.inr <| .inr <| .inr <| .inl ⟨rfl,rfl⟩,?_,HB2.out.trans HB3.out⟩;rw[U7.out,show([46]:Bytes)=[(46:UInt8)]from rfl,dV,ae,ae];exact kq.out
   case measure=>simp[intOf]
  ·have hl:=HK.out 3
   go_wp2_with (first
    |(go_at_call 155;refine(Lb.out a3 hA3 _ _ _ HB.out HO.out hl).mono ?_;rintro e w2 ⟨v2,rfl,ho2,hb2⟩;have fg:=h_ ho2;clear ho2;have HB2:=h_ (HB.out.trans hb2);clear hb2;have hwz:=HB2.out.size)
    |fail)
   go_roundw
   case rel =>
    refine⟨4,.inr <| .inr <| .inr <| .inr ⟨rfl,rfl⟩,?_,HB2.out⟩;rw[HX3.out,ae];exact fg.out
   case measure=>simp[intOf]
  have hcv:=ki (P:=prog) (src:=50) (dst:=9) underlying50 underlying5 underlying9 HO.out
  go_wp2_with fail
  go_ret;exact⟨rfl,HB.out⟩

def qd(z:List Bool)(j:Nat):Nat:=j+((z.drop j).takeWhile id).length
theorem Nr{z:List Bool}{j:Nat}(hj:j<z.length)(h:z[j]=true):qd z j=qd z (j+1):=by
 unfold qd;rw[aq hj,List.takeWhile_cons,h];simp;omega
theorem Ns{z:List Bool}{j:Nat}(hj:j<z.length)(h:z[j]=false):qd z j=j:=by
 unfold qd;rw[aq hj,List.takeWhile_cons,h];simp
theorem Tc{z:List Bool}{j:Nat}(hj:z.length<=j):qd z j=j:=by
 unfold qd;rw[bB hj];simp
def oe(z:List Bool):Nat->Nat->Nat->Nat->Nat×Nat
 |0,_,b,e=>(b,e)
 |f+1,i,b,e=>if i<8 then(if 2<=qd z i-i∧e-b<qd z i-i then oe z f (qd z i+1) i (qd z i)else oe z f (qd z i+1) b e)else(b,e)
def m7(z:List Bool):Nat×Nat:=oe z 9 0 0 0
def a03(z:List Bool):Nat->Nat->Nat->Nat->Nat×Nat
 |0,_,b,m=>(b,m)
 |f+1,i,b,m=>if i<8 then(if m<qd z i-i then a03 z f (i+1) i (qd z i-i)else a03 z f (i+1) b m)else(b,m)
def YD(z:List Bool):Nat×Nat:=a03 z 9 0 8 1
def jn(b e:Nat):Nat->Nat->List Nat
 |0,_=>[]
 |f+1,i=>if i<8 then(if i=b∧b<e then 101::jn b e f e else(if 0<i∧(i≠e∨e=b)then [100]else [])++i::jn b e f (i+1))else []
def a1I(b m:Nat):Nat->Nat->Bool->List Nat
 |0,_,_=>[]
 |f+1,i,c=>if i<8 then(if i=b then 101::a1I b m f (i+m) false else(if c then [100]else [])++i::a1I b m f (i+1) true)else []
def jh(a:List Int)(t:Nat):Bytes:=if t=100 then [58]else if t=101 then [58,58]else ew (a.getD t 0).toNat
def gp(a:List Int)(l:List Nat):Bytes:=l.flatMap (jh a)
def qf(a:List Int):List Bool:=a.map fun n=>decide (n=0)
def kS(a:List Int):Bytes:=gp a (jn (m7 (qf a)).1 (m7 (qf a)).2 9 0)
def ZC:List (List Bool):=(List.range 256).map fun k=>(List.range 8).map fun i=>decide (k/2 ^ i%2=1)
theorem oU(z:List Bool)(h:z.length=8):z∈ZC:=by
 match z,h with
 | [a,b,c,d,e,f,g,i],_ =>
  cases a <;>cases b <;>cases c <;>cases d <;>cases e <;>cases f <;>cases g <;>cases i <;>decide +kernel
theorem se:∀ z∈ZC,jn (m7 z).1 (m7 z).2 9 0=a1I (YD z).1 (YD z).2 9 0 false∧(m7 z).1<=(m7 z).2∧(m7 z).2<=8∧1<=(YD z).2∧(YD z).2<=8∧(YD z).1<=8∧((YD z).1<8->(YD z).1+(YD z).2<=8):=by decide +kernel
theorem pY(a:List Int):(qf a).length=a.length:=by simp[qf]
theorem oM:∀ (k u:Nat),u<16 ^ (k+1)->(ew u).length<=k+1
 |0,u,h=>by rw[im (by simpa using h)];simp
 |k+1,u,h=>by
  by_cases h16:u<16
  ·rw[im h16];simp
  rw[lT h16];have:=oM k (u/16) (by rw[b0S]at h;omega);simp;exact this
theorem GA(u:Nat):ew u ≠ []:=by
 by_cases h:u<16
 ·rw[im h];simp
 rw[lT h];simp
theorem Ni(a:List Int)(ha:∀ n∈a,0<=n∧n<65536)(t:Nat):(jh a t).length<=4:=by
 unfold jh
 split
 ·simp
 split
 ·simp
 apply oM 3
 by_cases ht:t<a.length
 ·have:=ha a[t] (bw _)
  simp[List.getD,ht];omega
 simp[List.getD,List.getElem?_eq_none (Nat.le_of_not_lt ht)]
theorem zJ(a:List Int)(ha:∀ n∈a,0<=n∧n<65536):∀ l:List Nat,(gp a l).length<=4*l.length
 | []=>by simp[gp]
 |t::l=>by
  have h1:=Ni a ha t;have h2:=zJ a ha l;simp only[gp,ch,ae,ag]at h2 ⊢;omega
theorem xU(b e:Nat):∀ f i,(jn b e f i).length<=2*f
 |0,_=>by simp[jn]
 |f+1,i=>by
  unfold jn;have h1:=xU b e f e;have h2:=xU b e f (i+1)
  split
  ·split
   ·simp;omega
   split <;>simp <;>omega
  simp
theorem r7(a:List Int)(ha:∀ n∈a,0<=n∧n<65536):(kS a).length<=72:=by
 have h1:=zJ a ha (jn (m7 (qf a)).1 (m7 (qf a)).2 9 0);have h2:=xU (m7 (qf a)).1 (m7 (qf a)).2 9 0;unfold kS;omega

structure Six (cs:Array Value) (a:List Int):Prop where
 sz:cs.size=8
 len:a.length=8
 at_:∀ k (h:k<a.length),cs[k]? = some (.int .u16 a[k])
 rng:∀ n∈a,0<=n∧n<65536
theorem pi{w:World}{b:Nat}{cs:Array Value}(o:Nat)(h:∀ i,w.cell? ⟨b,o+i,none⟩=cs[i]?):w.rangeAt b o cs.toList:=by
 intro j v hj;rw[h j];rw[jH]at hj;exact hj
theorem tU(a:List Int)(cs:Array Value)(w:World)(h:Six cs a) :
  bN prog 156 #[.agg cs] w (.tuple #[.int .i64 (m7 (qf a)).1,.int .i64 (m7 (qf a)).2]):=by
 have hlen:=h.len;have hat:=h.at_;obtain⟨z,hz⟩:=az (qf a);have hzl:z.length=8:=by rw[hz,pY];exact hlen
 have hza:∀ k (hk:k<a.length) (hk2:k<z.length),z[k]=decide (a[k]=0):=by intro k hk hk2;subst hz;simp[qf]
 rw[<-hz];clear h hz;have HAT:=h_ hat;clear hat;have HZL:=h_ hzl;clear hzl;have HZA:=h_ hza;clear hza;have HLEN:=h_ hlen;clear hlen;obtain⟨R,hR⟩:=az (m7 z);rw[<-hR];have HR:=h_ hR;clear hR;go_enter func156,ntmps156
 go_wp2_with (first|(refine boxed rfl _ _ rfl cs rfl ?_;intro bx w1 hb1 hb2 hb3 hb4 hb5;have HC:=h_ hb4;have HB:=h_ hb5;clear hb1 hb2 hb3 hb4 hb5)|fail)
 go_loopw [4,5,6] (fun bv ev iv wr=>∃ b e i f:Nat,bv=.int .i64 b∧ev=.int .i64 e∧iv=.int .i64 i∧Hid (oe z f i b e=R)∧8<=i+f∧b<=e∧e<=8∧i<=9∧w1=wr) (fun _ _ i _=>9-(intOf i).toNat)
 case atStart=>exact⟨0,0,0,9,rfl,rfl,rfl,HR.out.symm,by omega,by omega,by omega,by omega,by trivial⟩
 case round =>
  obtain⟨b,e,i,f,rfl,rfl,rfl,hg,hif,hbe,he8,hi9,rfl⟩:=hrel;by_cases hlt:i<8
  ·obtain⟨f',rfl⟩:∃ f',f=f'+1:=⟨f-1,by omega⟩
   go_wp2_with fail
   go_loopw [7] (fun jv wr=>∃ j:Nat,jv=.int .i64 j∧i<=j∧j<=8∧Hid (qd z j=qd z i)∧w1=wr) (fun j _=>8-(intOf j).toNat)
   case atStart=>exact⟨i,rfl,by omega,by omega,rfl,rfl⟩
   case round =>
    obtain⟨j,rfl,hij,hj8,hrun,rfl⟩:=hrel;by_cases hj:j<8
    ·have hja:j<a.length:=by have:=HLEN.out;omega
     have hjz:j<z.length:=by have:=HZL.out;omega
     have cj:=(HC.out j).trans (HAT.out j hja);have hzj:=HZA.out j hja hjz;by_cases hx:a[j]=0
     ·rw[hx]at cj
      have hs:=Nr hjz (by rw[hzj];simpa using hx);have HS:=h_ (hs.symm.trans hrun.out);clear hs hzj hx
      go_wp2_with fail
      go_roundw
      case rel =>
       rw[decide_eq_true (show(i:Int)<8 by omega)]
       (repeat apply Exists.intro)
       exact⟨⟨j+1,by simp,by omega,by omega,HS.out,by trivial⟩,rfl⟩
      case measure=>simp[intOf];omega
     have hs:=Ns hjz (by rw[hzj];simpa using hx);have HS:=h_ (hs.symm.trans hrun.out);clear hs hzj hrun;generalize a[j]=x at cj hx;by_cases hc:2<=j-i∧e-b<j-i
     ·have HG:=h_ ((show oe z f' (j+1) i j=oe z (f'+1) i b e by rw[oe,if_pos hlt,<-HS.out,if_pos hc]).trans hg.out)
      have hc1:(2:Int)<=(j:Int)-i:=by omega
      have hc2:(e:Int)-b<(j:Int)-i:=by omega
      clear hc
      go_wp2_with fail
      go_roundw
      case rel=>exact⟨i,j,j+1,f',rfl,rfl,by simp,HG.out,by omega,by omega,by omega,by omega,by trivial⟩
      case measure=>simp[intOf];omega
     have HG:=h_ ((show oe z f' (j+1) b e=oe z (f'+1) i b e by rw[oe,if_pos hlt,<-HS.out,if_neg hc]).trans hg.out);have hcc:¬ (2:Int)<=(j:Int)-i∨((2:Int)<=(j:Int)-i∧¬ (e:Int)-b<(j:Int)-i):=by omega
     clear hc;rcases hcc with hc1|⟨hc1,hc2⟩
     all_goals
      go_wp2_with fail
      go_roundw
      case rel=>exact⟨b,e,j+1,f',rfl,rfl,by simp,HG.out,by omega,by omega,by omega,by omega,by trivial⟩
      case measure=>simp[intOf];omega
    have a9u:j=8:=by omega
    have hs:=Tc (z:=z) (j:=j) (by have:=HZL.out;omega);have HS:=h_ (hs.symm.trans hrun.out);clear hs hrun;have b3D:¬ (j:Int)<8:=by omega
    clear a9u;by_cases hc:2<=j-i∧e-b<j-i
    ·have HG:=h_ ((show oe z f' (j+1) i j=oe z (f'+1) i b e by rw[oe,if_pos hlt,<-HS.out,if_pos hc]).trans hg.out)
     have hc1:(2:Int)<=(j:Int)-i:=by omega
     have hc2:(e:Int)-b<(j:Int)-i:=by omega
     clear hc
     go_wp2_with fail
     go_roundw
     case rel=>exact⟨i,j,j+1,f',rfl,rfl,by simp,HG.out,by omega,by omega,by omega,by omega,by trivial⟩
     case measure=>simp[intOf];omega
    have HG:=h_ ((show oe z f' (j+1) b e=oe z (f'+1) i b e by rw[oe,if_pos hlt,<-HS.out,if_neg hc]).trans hg.out);have hcc:¬ (2:Int)<=(j:Int)-i∨((2:Int)<=(j:Int)-i∧¬ (e:Int)-b<(j:Int)-i):=by omega
    clear hc;rcases hcc with hc1|⟨hc1,hc2⟩
    all_goals
     go_wp2_with fail
     go_roundw
     case rel=>exact⟨b,e,j+1,f',rfl,rfl,by simp,HG.out,by omega,by omega,by omega,by omega,by trivial⟩
     case measure=>simp[intOf];omega
  have Mq:¬ (i:Int)<8:=by omega
  have HG:=h_ ((show oe z f i b e=(b,e) by cases f with|zero=>rfl|succ f=>rw[oe,if_neg hlt]).symm.trans hg.out)
  go_wp2_with fail
  go_ret2
  refine⟨?_,HB.out⟩;rw[<-HG.out];rfl
theorem ja(a:List Int)(t:Nat)(l:List Nat):gp a (t::l)=jh a t++gp a l:=by simp[gp]
theorem Tx{b e f i:Nat}(hi:i<8)(h:i=b∧b<e):jn b e (f+1) i=101::jn b e f e:=by rw[jn,if_pos hi,if_pos h]
theorem xT{b e f i:Nat}(hi:i<8)(h:¬ (i=b∧b<e))(hc:0<i∧(i≠e∨e=b)):jn b e (f+1) i=100::i::jn b e f (i+1):=by rw[jn,if_pos hi,if_neg h,if_pos hc];rfl
theorem xV{b e f i:Nat}(hi:i<8)(h:¬ (i=b∧b<e))(hc:¬ (0<i∧(i≠e∨e=b))):jn b e (f+1) i=i::jn b e f (i+1):=by rw[jn,if_pos hi,if_neg h,if_neg hc];rfl
theorem E6{b e f i:Nat}(hi:¬ i<8):jn b e f i=[]:=by cases f with|zero=>rfl|succ f=>rw[jn,if_neg hi]
theorem uc(a:List Int)(ha:a.length=8)(i:Nat)(hi:i<a.length):jh a i=ew (a[i]).toNat:=by
 unfold jh;rw[if_neg (by omega),if_neg (by omega)];simp[List.getD,hi]
theorem NJ(a:List Int)(cs:Array Value)(w:World)(h:Six cs a)(hE:NE w)(hbe:(m7 (qf a)).2=(m7 (qf a)).1) :
  bN prog 121 #[.agg cs] w (S (kS a)):=by
 obtain⟨i0,hi0,hz0,hz1,hz2⟩:=info_parts j8;have Yt:=fun W=>tU a cs W h;have hlen:=h.len;have hat:=h.at_;have wJ:=h.rng;have hsz:=h.sz;have hall:=se (qf a) (oU _ (by rw[pY];exact hlen));have hsx:kS a=gp a (jn (m7 (qf a)).1 (m7 (qf a)).2 9 0):=rfl;have hsl:=r7 a wJ;rw[hbe]at Yt hall hsx;clear hbe;obtain⟨b,hb⟩:=az ((m7 (qf a)).1);rw[<-hb]at Yt hall hsx;obtain⟨_,hbe,he8,_⟩:=hall;obtain⟨R,hR⟩:=az (kS a);rw[<-hR]at hsx hsl ⊢
 have JK:=fun(u:Nat) (hu:u<65536) (sv:Value) (n:Nat) (l:Bytes) (B:Nat) (W:World) (hb:Below w.heap.size w W) (hB:B<=W.heap.size) (ho:W.ownsRow B 5 1 sv n (Lib.byteCells l)) (hl:n<=100) =>
  CK u hu sv n l B W (hE.below hb) hB ho (by omega)
 have Lb:=h_ JK;have HAT:=h_ hat;have HLEN:=h_ hlen;have Zl:=h_ wJ;have fL:=h_ hsz;have HLG:=h_ Yt;have Cv:=h_ hsx;have HSL:=h_ hsl;have Fm:=h_ hbe;have HE8:=h_ he8;clear JK hat hlen wJ hsz Yt hsx hsl hbe he8 hE h hR hb;go_enter func121,ntmps121
 go_wp2_with (first
  |(refine boxed rfl _ _ rfl cs rfl ?_;intro bx w1 hb1 hb2 hb3 hb4 hb5;have HC:=h_ hb4;have HB:=h_ hb5;have qg:=h_ hb2;clear hb1 hb2 hb3 hb4 hb5)
  |(refine wpList_load_mid rfl 25 _ rfl bx 0 rfl cs.toList _ (pi 0 (by simpa using HC.out)) underlying25 rfl (by rw[fJ,fL.out];kernel_rfl) ?_)
  |(go_at_call 156;rw[jZ];refine(HLG.out _).mono ?_;rintro e1 w2 ⟨rfl,hb2⟩;have HB2:=h_ hb2;clear hb2)
  |fail)
 go_loopw [5,6] (fun ov iv wr=>∃ (i f:Nat) (l:Bytes),iv=.int .i64 i∧Hid (l++gp a (jn b b f i)=R)∧8<=i+f∧i<=8∧Hid (wr.ownsRow w2.heap.size 5 1 ov l.length (Lib.byteCells l))∧Hid (Below w2.heap.size w2 wr)) (fun _ i _=>9-(intOf i).toNat)
 case atStart=>exact⟨0,9,[],rfl,Cv.out.symm,by omega,by omega,⟨by simp[Lib.byteCells],.inl ⟨rfl,rfl⟩⟩,Below.refl _ _⟩
 case round =>
  obtain⟨i,f,l,rfl,hx,hif,tT,ho,hb⟩:=hrel;have hBB:Below w.heap.size w _:=HB.out.trans ((HB2.out.mono HB.out.size).trans (hb.out.mono (ap HB.out.size HB2.out.size)));have lC:=h_ hBB;clear hBB
  have hll:l.length<=72:=by
   have h1:=congrArg List.length hx.out;rw[ae]at h1;have:=HSL.out;omega
  have yD:=h_ hll;clear hll;by_cases hlt:i<8
  ·obtain⟨f',rfl⟩:∃ f',f=f'+1:=⟨f-1,by omega⟩
   have Mq:(i:Int)<8:=by omega
   have hx2:=hx.out;have hA:¬ (i=b∧b<b):=by omega
   have hia:i<a.length:=by have:=HLEN.out;omega
   have ci:=((HB2.out.trans (hb.out.mono HB2.out.size)).cell (p:=⟨bx,i,none⟩) qg.out).trans ((HC.out i).trans (HAT.out i hia));have hri:=Zl.out _ (bw hia);have hpc:=uc a HLEN.out i hia;obtain⟨x,hx0⟩:=az (a[i]);rw[<-hx0]at ci hri hpc;obtain⟨n,rfl⟩:∃ n:Nat,x=n:=⟨x.toNat,by omega⟩;simp only[eF]at hpc;have hn:n<65536:=by omega
   have hxl:=oM 3 n (by omega);clear hx0 hri;by_cases A3:0<i∧(i≠b∨b=b)
   ·rw[xT hlt hA A3,ja,ja,hpc]at hx2
    have hx3:(l++[58]++ew n)++gp a (jn b b f' (i+1))=R:=by rw[<-hx2];simp[jh]
    have HX:=h_ hx3;clear hx3 hx2 hx hpc;have HXL:=h_ hxl;clear hxl;have h0:(0:Int)<i:=by omega
    clear A3 hA;by_cases hib:i=b
    ·subst hib
     have hwz:=hb.out.size
     go_wp2_with (first
      |(at_builtin;(refine eO rfl (.tmp 40) (.tmp 41) _ rfl w2.heap.size 5 i0 (.int .u8 0) 1 underlying50 hi0 hz0 hz1 hz2 (by decide) _ _ _ _ rfl ho.out (.int .u8 58) rfl rfl (by have:=yD.out;omega) (by decide) hwz ?_);intro v3 w3 hown3 hw3 hb3;have kq:=h_ hown3;clear hown3;have HB3:=h_ (hb.out.trans hb3);have HZ3:=h_ (lC.out.trans (hb3.mono (ap HB.out.size HB2.out.size)));have ci3:=(hb3.cell (p:=⟨bx,i,none⟩) (aQ qg.out HB2.out.size)).trans ci;clear hb3)
      |(go_at_call 155;refine(Lb.out n hn _ _ (l++[58]) w2.heap.size _ HZ3.out HB3.out.size (by rw[dV];exact kq.out) (by have:=yD.out;simp;omega)).mono ?_;rintro e4 w4 ⟨v4,rfl,rN,hb4⟩;have rk:=h_ rN;clear rN;have eM:=h_ (HB3.out.trans hb4);clear hb4)
      |fail)
     go_roundw
     case rel =>
      refine⟨i+1,f',l++[58]++ew n,by simp_all,HX.out,by omega,by omega,?_,eM.out⟩;have:=rk.out;rw[ae,ae];exact this
     case measure=>simp_all[intOf] <;>omega
    have a9o:¬ (i:Int)=b:=by omega
    clear hib;have hwz:=hb.out.size
    go_wp2_with (first
     |(at_builtin;(refine eO rfl (.tmp 40) (.tmp 41) _ rfl w2.heap.size 5 i0 (.int .u8 0) 1 underlying50 hi0 hz0 hz1 hz2 (by decide) _ _ _ _ rfl ho.out (.int .u8 58) rfl rfl (by have:=yD.out;omega) (by decide) hwz ?_);intro v3 w3 hown3 hw3 hb3;have kq:=h_ hown3;clear hown3;have HB3:=h_ (hb.out.trans hb3);have HZ3:=h_ (lC.out.trans (hb3.mono (ap HB.out.size HB2.out.size)));have ci3:=(hb3.cell (p:=⟨bx,i,none⟩) (aQ qg.out HB2.out.size)).trans ci;clear hb3)
     |(go_at_call 155;refine(Lb.out n hn _ _ (l++[58]) w2.heap.size _ HZ3.out HB3.out.size (by rw[dV];exact kq.out) (by have:=yD.out;simp;omega)).mono ?_;rintro e4 w4 ⟨v4,rfl,rN,hb4⟩;have rk:=h_ rN;clear rN;have eM:=h_ (HB3.out.trans hb4);clear hb4)
     |fail)
    go_roundw
    case rel =>
     refine⟨i+1,f',l++[58]++ew n,by simp_all,HX.out,by omega,by omega,?_,eM.out⟩;have:=rk.out;rw[ae,ae];exact this
    case measure=>simp_all[intOf] <;>omega
   rw[xV hlt hA A3,ja,hpc]at hx2;have hx3:(l++ew n)++gp a (jn b b f' (i+1))=R:=by rw[<-hx2];simp
   have HX:=h_ hx3;clear hx3 hx2 hx hpc;have HXL:=h_ hxl;clear hxl;have h0:¬ (0:Int)<i:=by omega
   clear A3 hA;by_cases hib:i=b
   ·subst hib
    go_wp2_with (first
     |(go_at_call 155;refine(Lb.out n hn _ _ l w2.heap.size _ lC.out hb.out.size ho.out (by have:=yD.out;simp;omega)).mono ?_;rintro e4 w4 ⟨v4,rfl,rN,hb4⟩;have rk:=h_ rN;clear rN;have eM:=h_ (hb.out.trans hb4);clear hb4)
     |fail)
    go_roundw
    case rel =>
     refine⟨i+1,f',l++ew n,by simp_all,HX.out,by omega,by omega,?_,eM.out⟩;have:=rk.out;rw[ae];exact this
    case measure=>simp_all[intOf] <;>omega
   have a9o:¬ (i:Int)=b:=by omega
   clear hib
   go_wp2_with (first
    |(go_at_call 155;refine(Lb.out n hn _ _ l w2.heap.size _ lC.out hb.out.size ho.out (by have:=yD.out;simp;omega)).mono ?_;rintro e4 w4 ⟨v4,rfl,rN,hb4⟩;have rk:=h_ rN;clear rN;have eM:=h_ (hb.out.trans hb4);clear hb4)
    |fail)
   go_roundw
   case rel =>
    refine⟨i+1,f',l++ew n,by simp_all,HX.out,by omega,by omega,?_,eM.out⟩;have:=rk.out;rw[ae];exact this
   case measure=>simp_all[intOf] <;>omega
  have Mq:¬ (i:Int)<8:=by omega
  have hx2:=hx.out;rw[E6 hlt]at hx2;have hx3:l=R:=by rw[<-hx2];simp[gp]
  have hcv:=ki (P:=prog) (src:=50) (dst:=9) underlying50 underlying5 underlying9 ho.out;rw[hx3]at hcv;clear hx3 hx2
  go_wp2_with fail
  go_ret;exact⟨rfl,lC.out⟩
theorem NK(a:List Int)(cs:Array Value)(w:World)(h:Six cs a)(hE:NE w)(hbe:(m7 (qf a)).1<(m7 (qf a)).2) :
  bN prog 121 #[.agg cs] w (S (kS a)):=by
 obtain⟨i0,hi0,hz0,hz1,hz2⟩:=info_parts j8;have Yt:=fun W=>tU a cs W h;have hlen:=h.len;have hat:=h.at_;have wJ:=h.rng;have hsz:=h.sz;have hall:=se (qf a) (oU _ (by rw[pY];exact hlen));have hsx:kS a=gp a (jn (m7 (qf a)).1 (m7 (qf a)).2 9 0):=rfl;have hsl:=r7 a wJ;obtain⟨b,hb⟩:=az ((m7 (qf a)).1);obtain⟨e,he⟩:=az ((m7 (qf a)).2);rw[<-hb,<-he]at Yt hall hsx hbe;clear he;have b3r:(b:Int)<e:=by omega
 obtain⟨_,_,he8,_⟩:=hall;obtain⟨R,hR⟩:=az (kS a);rw[<-hR]at hsx hsl ⊢
 have JK:=fun(u:Nat) (hu:u<65536) (sv:Value) (n:Nat) (l:Bytes) (B:Nat) (W:World) (hb:Below w.heap.size w W) (hB:B<=W.heap.size) (ho:W.ownsRow B 5 1 sv n (Lib.byteCells l)) (hl:n<=100) =>
  CK u hu sv n l B W (hE.below hb) hB ho (by omega)
 have Lb:=h_ JK;have HAT:=h_ hat;have HLEN:=h_ hlen;have Zl:=h_ wJ;have fL:=h_ hsz;have HLG:=h_ Yt;have Cv:=h_ hsx;have HSL:=h_ hsl;have Fm:=h_ hbe;have HE8:=h_ he8;clear JK hat hlen wJ hsz Yt hsx hsl hbe he8 hE h hR hb;go_enter func121,ntmps121
 go_wp2_with (first
  |(refine boxed rfl _ _ rfl cs rfl ?_;intro bx w1 hb1 hb2 hb3 hb4 hb5;have HC:=h_ hb4;have HB:=h_ hb5;have qg:=h_ hb2;clear hb1 hb2 hb3 hb4 hb5)
  |(refine wpList_load_mid rfl 25 _ rfl bx 0 rfl cs.toList _ (pi 0 (by simpa using HC.out)) underlying25 rfl (by rw[fJ,fL.out];kernel_rfl) ?_)
  |(go_at_call 156;rw[jZ];refine(HLG.out _).mono ?_;rintro e1 w2 ⟨rfl,hb2⟩;have HB2:=h_ hb2;clear hb2)
  |fail)
 go_loopw [5,6] (fun ov iv wr=>∃ (i f:Nat) (l:Bytes),iv=.int .i64 i∧Hid (l++gp a (jn b e f i)=R)∧8<=i+f∧i<=8∧Hid (wr.ownsRow w2.heap.size 5 1 ov l.length (Lib.byteCells l))∧Hid (Below w2.heap.size w2 wr)) (fun _ i _=>9-(intOf i).toNat)
 case atStart=>exact⟨0,9,[],rfl,Cv.out.symm,by omega,by omega,⟨by simp[Lib.byteCells],.inl ⟨rfl,rfl⟩⟩,Below.refl _ _⟩
 case round =>
  obtain⟨i,f,l,rfl,hx,hif,tT,ho,hb⟩:=hrel;have hBB:Below w.heap.size w _:=HB.out.trans ((HB2.out.mono HB.out.size).trans (hb.out.mono (ap HB.out.size HB2.out.size)));have lC:=h_ hBB;clear hBB
  have hll:l.length<=72:=by
   have h1:=congrArg List.length hx.out;rw[ae]at h1;have:=HSL.out;omega
  have yD:=h_ hll;clear hll;by_cases hlt:i<8
  ·obtain⟨f',rfl⟩:∃ f',f=f'+1:=⟨f-1,by omega⟩
   have Mq:(i:Int)<8:=by omega
   have hx2:=hx.out;by_cases hA:i=b∧b<e
   ·rw[Tx hlt hA,ja]at hx2
    have hx3:(l++[58,58])++gp a (jn b e f' e)=R:=by rw[<-hx2];simp[jh]
    have HX:=h_ hx3;clear hx3 hx2 hx;obtain⟨hA1,_⟩:=hA;have hA3:(i:Int)=b:=by omega
    have b3y:(e:Int)<=8:=by have:=HE8.out;omega
    have hei:(1:Int)<=e:=by omega
    clear hA1;have hwz:=hb.out.size
    go_wp2_with (first
     |(at_builtin;(refine a5L rfl (.tmp 24) (.const (.string ⟨#[58,58]⟩)) _ _ rfl w2.heap.size 5 i0 underlying50 underlying9 hi0 hz0 hz1 hz2 _ _ _ l rfl ho.out [58,58] rfl (by have:=yD.out;simp;omega) hwz ?_);intro v3 w3 hown3 hw3 hb3;have kq:=h_ hown3;clear hown3;have HB3:=h_ hb3;clear hb3)
     |fail)
    go_roundw
    case rel =>
     refine⟨e,f',l++[58,58],by simp,HX.out,by have:=Fm.out;omega,HE8.out,?_,hb.out.trans HB3.out⟩;rw[ae];exact kq.out
    case measure=>simp_all[intOf];have:=HE8.out;omega
   have hia:i<a.length:=by have:=HLEN.out;omega
   have ci:=((HB2.out.trans (hb.out.mono HB2.out.size)).cell (p:=⟨bx,i,none⟩) qg.out).trans ((HC.out i).trans (HAT.out i hia));have hri:=Zl.out _ (bw hia);have hpc:=uc a HLEN.out i hia;obtain⟨x,hx0⟩:=az (a[i]);rw[<-hx0]at ci hri hpc;obtain⟨n,rfl⟩:∃ n:Nat,x=n:=⟨x.toNat,by omega⟩;simp only[eF]at hpc;have hn:n<65536:=by omega
   have hxl:=oM 3 n (by omega);clear hx0 hri;by_cases A3:0<i∧(i≠e∨e=b)
   ·rw[xT hlt hA A3,ja,ja,hpc]at hx2
    have hx3:(l++[58]++ew n)++gp a (jn b e f' (i+1))=R:=by rw[<-hx2];simp[jh]
    have HX:=h_ hx3;clear hx3 hx2 hx hpc;have HXL:=h_ hxl;clear hxl;have h0:(0:Int)<i:=by omega
    have h1:¬ (i:Int)=b:=by have:=Fm.out;omega
    have h2:¬ (i:Int)=e:=by have:=Fm.out;omega
    clear A3 hA;have hwz:=hb.out.size
    go_wp2_with (first
     |(at_builtin;(refine eO rfl (.tmp 40) (.tmp 41) _ rfl w2.heap.size 5 i0 (.int .u8 0) 1 underlying50 hi0 hz0 hz1 hz2 (by decide) _ _ _ _ rfl ho.out (.int .u8 58) rfl rfl (by have:=yD.out;omega) (by decide) hwz ?_);intro v3 w3 hown3 hw3 hb3;have kq:=h_ hown3;clear hown3;have HB3:=h_ (hb.out.trans hb3);have HZ3:=h_ (lC.out.trans (hb3.mono (ap HB.out.size HB2.out.size)));have ci3:=(hb3.cell (p:=⟨bx,i,none⟩) (aQ qg.out HB2.out.size)).trans ci;clear hb3)
     |(go_at_call 155;refine(Lb.out n hn _ _ (l++[58]) w2.heap.size _ HZ3.out HB3.out.size (by rw[dV];exact kq.out) (by have:=yD.out;simp;omega)).mono ?_;rintro e4 w4 ⟨v4,rfl,rN,hb4⟩;have rk:=h_ rN;clear rN;have eM:=h_ (HB3.out.trans hb4);clear hb4)
     |fail)
    all_goals
     go_roundw
     case rel =>
      refine⟨i+1,f',l++[58]++ew n,by simp_all,HX.out,by omega,by omega,?_,eM.out⟩;have:=rk.out;rw[ae,ae];exact this
     case measure=>simp_all[intOf] <;>omega
   rw[xV hlt hA A3,ja,hpc]at hx2;have hx3:(l++ew n)++gp a (jn b e f' (i+1))=R:=by rw[<-hx2];simp
   have HX:=h_ hx3;clear hx3 hx2 hx hpc;have HXL:=h_ hxl;clear hxl;have h1:¬ (i:Int)=b:=by have:=Fm.out;omega
   have h3:¬ (e:Int)=b:=by have:=Fm.out;omega
   have h2:(¬(0:Int)<i)∨((0:Int)<i∧(i:Int)=e):=by have:=Fm.out;omega
   clear A3 hA;rcases h2 with h2|⟨h2,h4⟩
   ·go_wp2_with (first
     |(go_at_call 155;refine(Lb.out n hn _ _ l w2.heap.size _ lC.out hb.out.size ho.out (by have:=yD.out;simp;omega)).mono ?_;rintro e4 w4 ⟨v4,rfl,rN,hb4⟩;have rk:=h_ rN;clear rN;have eM:=h_ (hb.out.trans hb4);clear hb4)
     |fail)
    go_roundw
    case rel =>
     refine⟨i+1,f',l++ew n,by simp_all,HX.out,by omega,by omega,?_,eM.out⟩;have:=rk.out;rw[ae];exact this
    case measure=>simp_all[intOf] <;>omega
   obtain rfl:i=e:=by omega
   clear h4
   go_wp2_with (first
    |(go_at_call 155;refine(Lb.out n hn _ _ l w2.heap.size _ lC.out hb.out.size ho.out (by have:=yD.out;simp;omega)).mono ?_;rintro e4 w4 ⟨v4,rfl,rN,hb4⟩;have rk:=h_ rN;clear rN;have eM:=h_ (hb.out.trans hb4);clear hb4)
    |fail)
   go_roundw
   case rel =>
    refine⟨i+1,f',l++ew n,by simp_all,HX.out,by omega,by omega,?_,eM.out⟩;have:=rk.out;rw[ae];exact this
   case measure=>simp_all[intOf] <;>omega
  have Mq:¬ (i:Int)<8:=by omega
  have hx2:=hx.out;rw[E6 hlt]at hx2;have hx3:l=R:=by rw[<-hx2];simp[gp]
  have hcv:=ki (P:=prog) (src:=50) (dst:=9) underlying50 underlying5 underlying9 ho.out;rw[hx3]at hcv;clear hx3 hx2
  go_wp2_with fail
  go_ret;exact⟨rfl,lC.out⟩
theorem Is(a:List Int)(cs:Array Value)(w:World)(h:Six cs a)(hE:NE w) :
  bN prog 121 #[.agg cs] w (S (kS a)):=by
 have hall:=se (qf a) (oU _ (by rw[pY];exact h.len));by_cases hb:(m7 (qf a)).1<(m7 (qf a)).2
 ·exact NK a cs w h hE hb
 exact NJ a cs w h hE (by omega)

def dE(h:ie):Bytes:=if h.kind=2∨h.kind=5 then h.name else if h.kind=3 then gW h.four.toNat else if h.kind=4 then [91]++kS h.six++[93]else []
theorem sO(h:ie)(ok:yF h)(n:Nat)(hn:h.name.length<=n):(dE h).length<=n+74:=by
 have h1:=r7 h.six ok.s;have h2:=Mf h.four.toNat (by have:=ok.f;omega);unfold dE
 split
 ·omega
 split
 ·omega
 split
 ·simp only[ae,ag,aN];omega
 simp
theorem IY.a1C{cs:Array Value}{h:ie}(ha:IY cs h):Six (cs.toList.drop 3).toArray h.six:=by
 refine⟨?_,ha.ok.l,fun k hk=>?_,ha.ok.s⟩
 ·simp[ha.sz]
 rw[bT,fY,jH];exact ha.six k hk
theorem GK(h:ie)(cs:Array Value)(w:World)(ha:IY cs h)(hnl:h.name.length<=102400000)(hE:NE w) :
  bN prog 88 #[.agg cs] w (S (dE h)):=by
 have h0:=ha.kind;have h1:=ha.name;have h2:=ha.four;have hf:=ha.ok.f;have hs:=ha.a1C;have yA:=fun W (hW:Below w.heap.size w W)=>Is h.six _ W hs (hE.below hW);have DQ:=fun W (hW:Below w.heap.size w W)=>Gw h.four.toNat (by omega) W (hE.below hW);have hr:dE h=if h.kind=2∨h.kind=5 then h.name else if h.kind=3 then gW h.four.toNat else if h.kind=4 then [91]++kS h.six++[93]else []:=rfl;have hsl:=r7 h.six ha.ok.s;have hc6:∀ i,cs[3+i]? = (cs.toList.drop 3)[i]?:=fun i=>by rw[fY,jH]
 have h8:(cs.toList.drop 3).length=8:=by rw[ah,fJ,ha.sz]
 obtain⟨R,hR⟩:=az (dE h);rw[<-hR]at hr ⊢;clear ha hR hs;generalize h.kind=K at h0 hr;generalize h.name=nm at h1 hr hnl;obtain⟨q,hq⟩:∃ q:Nat,h.four=q:=⟨h.four.toNat,by omega⟩;rw[hq]at h2 hf DQ hr;simp only[eF]at DQ hr;generalize gW q=F at DQ hr;generalize kS h.six=X at yA hr hsl;clear hq;generalize cs.toList.drop 3=c6 at hc6 h8 yA;have a79:=h_ yA;clear yA;have a2R:=h_ DQ;clear DQ;have Zb:=h_ hc6;clear hc6;have H8:=h_ h8;clear h8;by_cases k2:K=2∨K=5
 ·rw[if_pos k2]at hr
  subst hr;rcases k2 with rfl|rfl
  all_goals
   go_enter func88,ntmps88
   go_wp2_with (first|(refine boxed rfl _ _ rfl cs rfl ?_;intro bx w1 hb1 hb2 hb3 hb4 hb5;have c0:=(hb4 0).trans h0;have c1:=(hb4 1).trans h1;have HB:=h_ hb5;clear hb1 hb2 hb3 hb4 hb5)|fail)
   go_ret;exact⟨rfl,HB.out⟩
 rw[if_neg k2]at hr;have n2:¬ K=2:=fun h=>k2 (.inl h);have n5:¬ K=5:=fun h=>k2 (.inr h);clear k2;by_cases k3:K=3
 ·rw[if_pos k3]at hr
  subst hr;subst k3;go_enter func88,ntmps88
  go_wp2_with (first
   |(refine boxed rfl _ _ rfl cs rfl ?_;intro bx w1 hb1 hb2 hb3 hb4 hb5;have c0:=(hb4 0).trans h0;have c2:=(hb4 2).trans h2;have HB:=h_ hb5;clear hb1 hb2 hb3 hb4 hb5)
   |(go_at_call 120;refine(a2R.out _ HB.out).mono ?_;rintro e w2 ⟨rfl,hb2⟩;have HB2:=h_ (HB.out.trans (hb2.mono HB.out.size));clear hb2)
   |fail)
  go_ret;exact⟨rfl,HB2.out⟩
 rw[if_neg k3]at hr;by_cases k4:K=4
 ·rw[if_pos k4]at hr
  subst k4;have HR:=h_ hr;clear hr n2 n5 k3;go_enter func88,ntmps88
  go_wp2_with (first
   |(refine boxed rfl _ _ rfl cs rfl ?_;intro bx w1 hb1 hb2 hb3 hb4 hb5;have c0:=(hb4 0).trans h0;have HC:=h_ hb4;have HB:=h_ hb5;clear hb1 hb2 hb3 hb4 hb5)
   |(refine wpList_load_mid rfl 25 _ rfl bx 3 rfl c6 _ (fun j v hv=>by rw[HC.out (3+j),Zb.out j];exact hv) underlying25 rfl (by rw[H8.out];kernel_rfl) ?_)
   |(go_at_call 121;refine(a79.out _ HB.out).mono ?_;rintro e w2 ⟨rfl,hb2⟩;have HB2:=h_ (HB.out.trans (hb2.mono HB.out.size));clear hb2)
   |fail)
  go_ret;refine⟨By ?_,HB2.out⟩;rw[HR.out];simp[Hc,Kg]
 rw[if_neg k4]at hr;subst hr;go_enter func88,ntmps88
 go_wp2_with (first
  |(refine boxed rfl _ _ rfl cs rfl ?_;intro bx w1 hb1 hb2 hb3 hb4 hb5;have c0:=(hb4 0).trans h0;have HB:=h_ hb5;clear hb1 hb2 hb3 hb4 hb5)
  |fail)
 go_ret;exact⟨rfl,HB.out⟩
end Go.Proofs.YtmndlfglgcioeaaGreatDoor
