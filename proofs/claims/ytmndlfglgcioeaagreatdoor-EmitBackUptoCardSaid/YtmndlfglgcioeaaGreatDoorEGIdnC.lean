/- Joined texts. -/
import Derived.Test.YtmndlfglgcioeaaGreatDoorEGIdnB
import Derived.Test.YtmndlfglgcioeaaGreatDoorEGGlu
import Derived.Test.YtmndlfglgcioeaaGreatDoorEGArr
set_option maxHeartbeats 40000000
namespace Go.Proofs.YtmndlfglgcioeaaGreatDoor
open Tryz
open Go.RowKit
set_option maxRecDepth 10000
def DI(c:Int):Bool:=decide (c=173∨c=8203∨c=8288∨c=65279)
def TL(c:Int):Prop:=(0<=c∧c<=127)∨(223<=c∧c<=246)∨(248<=c∧c<=255)∨(257<=c∧c<=303)∨(768<=c∧c<=879)∨(945<=c∧c<=969)∨(1072<=c∧c<=1119)∨(12353<=c∧c<=12438)∨(12449<=c∧c<=12538)∨(19968<=c∧c<=40959)∨(44032<=c∧c<=55203)∨(127744<=c∧c<=128511)
def lA(c:Int):List (Int×Int)->Bool
 | []=>false
 |r::rs=>if r.1<=c∧c<=r.2 then true else lA c rs
def qX:List (Int×Int):=[(0,127),(223,246),(248,255),(257,303),(768,879),(945,969),(1072,1119),(12353,12438),(12449,12538),(19968,40959),(44032,55203),(127744,128511)]
def TK(c:Int):Bool:=lA c qX
theorem Fc(c:Int):∀ rs:List (Int×Int),lA c rs=true ↔ ∃r∈rs,r.1<=c∧c<=r.2
 | []=>by simp[lA]
 |r::rs=>by
  unfold lA;by_cases h:r.1<=c∧c<=r.2
  ·rw[if_pos h];simp[h]
  rw[if_neg h,Fc c rs];simp[h]
theorem TM(c:Int):TK c=true ↔ TL c:=by
 unfold TK TL;rw[Fc];simp[qX]
def eA(c:Int):Bytes×Int:=if lF c ≠ []then(cf (lF c),2)else if DI c=true then([],3)else if TK c=true then(enc c,1)else([],0)
theorem QH(c:Int):((c=173∧DI c=true)∨(c=8203∧DI c=true)∨(c=8288∧DI c=true)∨(c=65279∧DI c=true))∨(¬(c=173∨c=8203∨c=8288∨c=65279)∧DI c=false):=by
 by_cases h:c=173∨c=8203∨c=8288∨c=65279
 ·left;unfold DI;rcases h with rfl|rfl|rfl|rfl <;>simp
 right;exact⟨h,decide_eq_false h⟩
theorem QJ(c:Int)(w:World):iz prog 219 #[.int .i64 c] w (.bool (DI c)):=by
 rcases QH c with(⟨rfl,e⟩|⟨rfl,e⟩|⟨rfl,e⟩|⟨rfl,e⟩)|⟨h,e⟩
 iterate 4
  ·rw[e]
   clear e;go_enter func219,ntmps219
   go_wp2_with fail
   go_ret;exact⟨rfl,rfl⟩
 rw[e];clear e;have q0:(c==173)=false:=by simp;omega
 have q1:(c==8203)=false:=by simp;omega
 have q2:(c==8288)=false:=by simp;omega
 have q3:(c==65279)=false:=by simp;omega
 go_enter func219,ntmps219
 go_wp2_with fail
 go_ret;exact⟨rfl,rfl⟩
theorem a3t(w:World):(Instr.alloc 220 true (Value.tuple #[])).run prog w=.ok (.pointer (some ⟨w.heap.size,0,none⟩)) (w.alloc (.cells #[.int .i64 0,.int .i64 0,.int .i64 0,.int .i64 0,.int .i64 0,.int .i64 0,.int .i64 0,.int .i64 0,.int .i64 0,.int .i64 0,.int .i64 0,.int .i64 0,.int .i64 0,.int .i64 0,.int .i64 0,.int .i64 0,.int .i64 0,.int .i64 0,.int .i64 0,.int .i64 0,.int .i64 0,.int .i64 0,.int .i64 0,.int .i64 0] 220)):=by kernel_rfl
theorem Yy:(prog.info? 220).map (·.size)=some 24:=by kernel_rfl
theorem a5E:(#[.int .i64 0,.int .i64 127,.int .i64 223,.int .i64 246,.int .i64 248,.int .i64 255,.int .i64 257,.int .i64 303,.int .i64 768,.int .i64 879,.int .i64 945,.int .i64 969,.int .i64 1072,.int .i64 1119,.int .i64 12353,.int .i64 12438,.int .i64 12449,.int .i64 12538,.int .i64 19968,.int .i64 40959,.int .i64 44032,.int .i64 55203,.int .i64 127744,.int .i64 128511]:Array Value).all (·.oneCell')=true:=by kernel_rfl
theorem JT(w:World):(Instr.index 220 (.agg #[.int .i64 0,.int .i64 127,.int .i64 223,.int .i64 246,.int .i64 248,.int .i64 255,.int .i64 257,.int .i64 303,.int .i64 768,.int .i64 879,.int .i64 945,.int .i64 969,.int .i64 1072,.int .i64 1119,.int .i64 12353,.int .i64 12438,.int .i64 12449,.int .i64 12538,.int .i64 19968,.int .i64 40959,.int .i64 44032,.int .i64 55203,.int .i64 127744,.int .i64 128511]) (.int .i64 ((0:Nat):Int))).run prog w=.ok (.agg #[.int .i64 0,.int .i64 127]) w:=by kernel_rfl
theorem JU(w:World):(Instr.index 220 (.agg #[.int .i64 0,.int .i64 127,.int .i64 223,.int .i64 246,.int .i64 248,.int .i64 255,.int .i64 257,.int .i64 303,.int .i64 768,.int .i64 879,.int .i64 945,.int .i64 969,.int .i64 1072,.int .i64 1119,.int .i64 12353,.int .i64 12438,.int .i64 12449,.int .i64 12538,.int .i64 19968,.int .i64 40959,.int .i64 44032,.int .i64 55203,.int .i64 127744,.int .i64 128511]) (.int .i64 ((1:Nat):Int))).run prog w=.ok (.agg #[.int .i64 223,.int .i64 246]) w:=by kernel_rfl
theorem JV(w:World):(Instr.index 220 (.agg #[.int .i64 0,.int .i64 127,.int .i64 223,.int .i64 246,.int .i64 248,.int .i64 255,.int .i64 257,.int .i64 303,.int .i64 768,.int .i64 879,.int .i64 945,.int .i64 969,.int .i64 1072,.int .i64 1119,.int .i64 12353,.int .i64 12438,.int .i64 12449,.int .i64 12538,.int .i64 19968,.int .i64 40959,.int .i64 44032,.int .i64 55203,.int .i64 127744,.int .i64 128511]) (.int .i64 ((2:Nat):Int))).run prog w=.ok (.agg #[.int .i64 248,.int .i64 255]) w:=by kernel_rfl
theorem JW(w:World):(Instr.index 220 (.agg #[.int .i64 0,.int .i64 127,.int .i64 223,.int .i64 246,.int .i64 248,.int .i64 255,.int .i64 257,.int .i64 303,.int .i64 768,.int .i64 879,.int .i64 945,.int .i64 969,.int .i64 1072,.int .i64 1119,.int .i64 12353,.int .i64 12438,.int .i64 12449,.int .i64 12538,.int .i64 19968,.int .i64 40959,.int .i64 44032,.int .i64 55203,.int .i64 127744,.int .i64 128511]) (.int .i64 ((3:Nat):Int))).run prog w=.ok (.agg #[.int .i64 257,.int .i64 303]) w:=by kernel_rfl
theorem JX(w:World):(Instr.index 220 (.agg #[.int .i64 0,.int .i64 127,.int .i64 223,.int .i64 246,.int .i64 248,.int .i64 255,.int .i64 257,.int .i64 303,.int .i64 768,.int .i64 879,.int .i64 945,.int .i64 969,.int .i64 1072,.int .i64 1119,.int .i64 12353,.int .i64 12438,.int .i64 12449,.int .i64 12538,.int .i64 19968,.int .i64 40959,.int .i64 44032,.int .i64 55203,.int .i64 127744,.int .i64 128511]) (.int .i64 ((4:Nat):Int))).run prog w=.ok (.agg #[.int .i64 768,.int .i64 879]) w:=by kernel_rfl
theorem JY(w:World):(Instr.index 220 (.agg #[.int .i64 0,.int .i64 127,.int .i64 223,.int .i64 246,.int .i64 248,.int .i64 255,.int .i64 257,.int .i64 303,.int .i64 768,.int .i64 879,.int .i64 945,.int .i64 969,.int .i64 1072,.int .i64 1119,.int .i64 12353,.int .i64 12438,.int .i64 12449,.int .i64 12538,.int .i64 19968,.int .i64 40959,.int .i64 44032,.int .i64 55203,.int .i64 127744,.int .i64 128511]) (.int .i64 ((5:Nat):Int))).run prog w=.ok (.agg #[.int .i64 945,.int .i64 969]) w:=by kernel_rfl
theorem JZ(w:World):(Instr.index 220 (.agg #[.int .i64 0,.int .i64 127,.int .i64 223,.int .i64 246,.int .i64 248,.int .i64 255,.int .i64 257,.int .i64 303,.int .i64 768,.int .i64 879,.int .i64 945,.int .i64 969,.int .i64 1072,.int .i64 1119,.int .i64 12353,.int .i64 12438,.int .i64 12449,.int .i64 12538,.int .i64 19968,.int .i64 40959,.int .i64 44032,.int .i64 55203,.int .i64 127744,.int .i64 128511]) (.int .i64 ((6:Nat):Int))).run prog w=.ok (.agg #[.int .i64 1072,.int .i64 1119]) w:=by kernel_rfl
theorem J1(w:World):(Instr.index 220 (.agg #[.int .i64 0,.int .i64 127,.int .i64 223,.int .i64 246,.int .i64 248,.int .i64 255,.int .i64 257,.int .i64 303,.int .i64 768,.int .i64 879,.int .i64 945,.int .i64 969,.int .i64 1072,.int .i64 1119,.int .i64 12353,.int .i64 12438,.int .i64 12449,.int .i64 12538,.int .i64 19968,.int .i64 40959,.int .i64 44032,.int .i64 55203,.int .i64 127744,.int .i64 128511]) (.int .i64 ((7:Nat):Int))).run prog w=.ok (.agg #[.int .i64 12353,.int .i64 12438]) w:=by kernel_rfl
theorem J4(w:World):(Instr.index 220 (.agg #[.int .i64 0,.int .i64 127,.int .i64 223,.int .i64 246,.int .i64 248,.int .i64 255,.int .i64 257,.int .i64 303,.int .i64 768,.int .i64 879,.int .i64 945,.int .i64 969,.int .i64 1072,.int .i64 1119,.int .i64 12353,.int .i64 12438,.int .i64 12449,.int .i64 12538,.int .i64 19968,.int .i64 40959,.int .i64 44032,.int .i64 55203,.int .i64 127744,.int .i64 128511]) (.int .i64 ((8:Nat):Int))).run prog w=.ok (.agg #[.int .i64 12449,.int .i64 12538]) w:=by kernel_rfl
theorem J5(w:World):(Instr.index 220 (.agg #[.int .i64 0,.int .i64 127,.int .i64 223,.int .i64 246,.int .i64 248,.int .i64 255,.int .i64 257,.int .i64 303,.int .i64 768,.int .i64 879,.int .i64 945,.int .i64 969,.int .i64 1072,.int .i64 1119,.int .i64 12353,.int .i64 12438,.int .i64 12449,.int .i64 12538,.int .i64 19968,.int .i64 40959,.int .i64 44032,.int .i64 55203,.int .i64 127744,.int .i64 128511]) (.int .i64 ((9:Nat):Int))).run prog w=.ok (.agg #[.int .i64 19968,.int .i64 40959]) w:=by kernel_rfl
theorem DW(w:World):(Instr.index 220 (.agg #[.int .i64 0,.int .i64 127,.int .i64 223,.int .i64 246,.int .i64 248,.int .i64 255,.int .i64 257,.int .i64 303,.int .i64 768,.int .i64 879,.int .i64 945,.int .i64 969,.int .i64 1072,.int .i64 1119,.int .i64 12353,.int .i64 12438,.int .i64 12449,.int .i64 12538,.int .i64 19968,.int .i64 40959,.int .i64 44032,.int .i64 55203,.int .i64 127744,.int .i64 128511]) (.int .i64 ((10:Nat):Int))).run prog w=.ok (.agg #[.int .i64 44032,.int .i64 55203]) w:=by kernel_rfl
theorem DX(w:World):(Instr.index 220 (.agg #[.int .i64 0,.int .i64 127,.int .i64 223,.int .i64 246,.int .i64 248,.int .i64 255,.int .i64 257,.int .i64 303,.int .i64 768,.int .i64 879,.int .i64 945,.int .i64 969,.int .i64 1072,.int .i64 1119,.int .i64 12353,.int .i64 12438,.int .i64 12449,.int .i64 12538,.int .i64 19968,.int .i64 40959,.int .i64 44032,.int .i64 55203,.int .i64 127744,.int .i64 128511]) (.int .i64 ((11:Nat):Int))).run prog w=.ok (.agg #[.int .i64 127744,.int .i64 128511]) w:=by kernel_rfl
theorem kB{c:Int}{r:Int×Int}{rs:List (Int×Int)}(h:r.1<=c∧c<=r.2):lA c (r::rs)=true:=by unfold lA;rw[if_pos h]
theorem kA{c:Int}{r:Int×Int}{rs:List (Int×Int)}(h:¬ (r.1<=c∧c<=r.2)):lA c (r::rs)=lA c rs:=by rw[lA,if_neg h]
theorem NW(c:Int)(w:World):bN prog 220 #[.int .i64 c] w (.bool (TK c)):=by
 obtain⟨T,hT⟩:=az (TK c);rw[<-hT];have HT:=h_ hT;clear hT;go_enter func220,ntmps220
 go_wp2_with (first
  |(refine aS rfl 220 rfl _ _ (a3t _) ?_)
  |(refine gD rfl 220 _ _ rfl #[.int .i64 0,.int .i64 127,.int .i64 223,.int .i64 246,.int .i64 248,.int .i64 255,.int .i64 257,.int .i64 303,.int .i64 768,.int .i64 879,.int .i64 945,.int .i64 969,.int .i64 1072,.int .i64 1119,.int .i64 12353,.int .i64 12438,.int .i64 12449,.int .i64 12538,.int .i64 19968,.int .i64 40959,.int .i64 44032,.int .i64 55203,.int .i64 127744,.int .i64 128511] _ _ rfl rfl Yy rfl a5E ?_)
  |(refine wY rfl 220 _ rfl #[.int .i64 0,.int .i64 127,.int .i64 223,.int .i64 246,.int .i64 248,.int .i64 255,.int .i64 257,.int .i64 303,.int .i64 768,.int .i64 879,.int .i64 945,.int .i64 969,.int .i64 1072,.int .i64 1119,.int .i64 12353,.int .i64 12438,.int .i64 12449,.int .i64 12538,.int .i64 19968,.int .i64 40959,.int .i64 44032,.int .i64 55203,.int .i64 127744,.int .i64 128511] _ rfl _ underlying220 rfl Yy ?_)
  |fail)
 go_loopw [20] (fun iv wr=>∃ k:Nat,k<=12∧iv=.int .i64 k∧T=lA c (qX.drop k)∧Below w.heap.size w wr) (fun i _=>12-(intOf i).toNat)
 case atStart=>exact⟨0,by omega,by simp,HT.out,(Below.refl _ _).alloc (af _) _⟩
 case round =>
  obtain⟨k,hk,rfl,hno,hbl⟩:=hrel;have HB:=h_ hbl;clear hbl;have HN:=h_ hno;clear hno;have hks:k=0∨k=1∨k=2∨k=3∨k=4∨k=5∨k=6∨k=7∨k=8∨k=9∨k=10∨k=11∨k=12:=by omega
  rcases hks with rfl|rfl|rfl|rfl|rfl|rfl|rfl|rfl|rfl|rfl|rfl|rfl|rfl
  ·have hn:T=lA c ((0,127)::qX.drop 1):=HN.out
   by_cases h:0<=c∧c<=127
   ·rw[kB (r:=(0,127)) h]at hn
    subst hn
    go_wp2_with (first|(refine cO rfl 220 _ _ rfl _ _ _ rfl rfl JT ?_)|(go_at_call 228;first|(refine(iu _ _ _ _ (by omega)).mono ?_;rintro e w2 ⟨rfl,rfl⟩)|(refine(iq _ _ _ _ (by omega)).mono ?_;rintro e w2 ⟨rfl,rfl⟩))|fail)
    go_ret;exact⟨rfl,by first|assumption|exact HB.out.alloc HB.out.size _⟩
   rw[kA (r:=(0,127)) h]at hn;have ow:=h_ hn;clear hn
   go_wp2_with (first|(refine cO rfl 220 _ _ rfl _ _ _ rfl rfl JT ?_)|(go_at_call 228;first|(refine(iu _ _ _ _ (by omega)).mono ?_;rintro e w2 ⟨rfl,rfl⟩)|(refine(iq _ _ _ _ (by omega)).mono ?_;rintro e w2 ⟨rfl,rfl⟩))|fail)
   go_roundw
   case rel=>exact⟨1,by omega,by simp,ow.out,by first|assumption|exact HB.out.alloc HB.out.size _⟩
   case measure=>simp[intOf]
  ·have hn:T=lA c ((223,246)::qX.drop 2):=HN.out
   by_cases h:223<=c∧c<=246
   ·rw[kB (r:=(223,246)) h]at hn
    subst hn
    go_wp2_with (first|(refine cO rfl 220 _ _ rfl _ _ _ rfl rfl JU ?_)|(go_at_call 228;first|(refine(iu _ _ _ _ (by omega)).mono ?_;rintro e w2 ⟨rfl,rfl⟩)|(refine(iq _ _ _ _ (by omega)).mono ?_;rintro e w2 ⟨rfl,rfl⟩))|fail)
    go_ret;exact⟨rfl,by first|assumption|exact HB.out.alloc HB.out.size _⟩
   rw[kA (r:=(223,246)) h]at hn;have ow:=h_ hn;clear hn
   go_wp2_with (first|(refine cO rfl 220 _ _ rfl _ _ _ rfl rfl JU ?_)|(go_at_call 228;first|(refine(iu _ _ _ _ (by omega)).mono ?_;rintro e w2 ⟨rfl,rfl⟩)|(refine(iq _ _ _ _ (by omega)).mono ?_;rintro e w2 ⟨rfl,rfl⟩))|fail)
   go_roundw
   case rel=>exact⟨2,by omega,by simp,ow.out,by first|assumption|exact HB.out.alloc HB.out.size _⟩
   case measure=>simp[intOf]
  ·have hn:T=lA c ((248,255)::qX.drop 3):=HN.out
   by_cases h:248<=c∧c<=255
   ·rw[kB (r:=(248,255)) h]at hn
    subst hn
    go_wp2_with (first|(refine cO rfl 220 _ _ rfl _ _ _ rfl rfl JV ?_)|(go_at_call 228;first|(refine(iu _ _ _ _ (by omega)).mono ?_;rintro e w2 ⟨rfl,rfl⟩)|(refine(iq _ _ _ _ (by omega)).mono ?_;rintro e w2 ⟨rfl,rfl⟩))|fail)
    go_ret;exact⟨rfl,by first|assumption|exact HB.out.alloc HB.out.size _⟩
   rw[kA (r:=(248,255)) h]at hn;have ow:=h_ hn;clear hn
   go_wp2_with (first|(refine cO rfl 220 _ _ rfl _ _ _ rfl rfl JV ?_)|(go_at_call 228;first|(refine(iu _ _ _ _ (by omega)).mono ?_;rintro e w2 ⟨rfl,rfl⟩)|(refine(iq _ _ _ _ (by omega)).mono ?_;rintro e w2 ⟨rfl,rfl⟩))|fail)
   go_roundw
   case rel=>exact⟨3,by omega,by simp,ow.out,by first|assumption|exact HB.out.alloc HB.out.size _⟩
   case measure=>simp[intOf]
  ·have hn:T=lA c ((257,303)::qX.drop 4):=HN.out
   by_cases h:257<=c∧c<=303
   ·rw[kB (r:=(257,303)) h]at hn
    subst hn
    go_wp2_with (first|(refine cO rfl 220 _ _ rfl _ _ _ rfl rfl JW ?_)|(go_at_call 228;first|(refine(iu _ _ _ _ (by omega)).mono ?_;rintro e w2 ⟨rfl,rfl⟩)|(refine(iq _ _ _ _ (by omega)).mono ?_;rintro e w2 ⟨rfl,rfl⟩))|fail)
    go_ret;exact⟨rfl,by first|assumption|exact HB.out.alloc HB.out.size _⟩
   rw[kA (r:=(257,303)) h]at hn;have ow:=h_ hn;clear hn
   go_wp2_with (first|(refine cO rfl 220 _ _ rfl _ _ _ rfl rfl JW ?_)|(go_at_call 228;first|(refine(iu _ _ _ _ (by omega)).mono ?_;rintro e w2 ⟨rfl,rfl⟩)|(refine(iq _ _ _ _ (by omega)).mono ?_;rintro e w2 ⟨rfl,rfl⟩))|fail)
   go_roundw
   case rel=>exact⟨4,by omega,by simp,ow.out,by first|assumption|exact HB.out.alloc HB.out.size _⟩
   case measure=>simp[intOf]
  ·have hn:T=lA c ((768,879)::qX.drop 5):=HN.out
   by_cases h:768<=c∧c<=879
   ·rw[kB (r:=(768,879)) h]at hn
    subst hn
    go_wp2_with (first|(refine cO rfl 220 _ _ rfl _ _ _ rfl rfl JX ?_)|(go_at_call 228;first|(refine(iu _ _ _ _ (by omega)).mono ?_;rintro e w2 ⟨rfl,rfl⟩)|(refine(iq _ _ _ _ (by omega)).mono ?_;rintro e w2 ⟨rfl,rfl⟩))|fail)
    go_ret;exact⟨rfl,by first|assumption|exact HB.out.alloc HB.out.size _⟩
   rw[kA (r:=(768,879)) h]at hn;have ow:=h_ hn;clear hn
   go_wp2_with (first|(refine cO rfl 220 _ _ rfl _ _ _ rfl rfl JX ?_)|(go_at_call 228;first|(refine(iu _ _ _ _ (by omega)).mono ?_;rintro e w2 ⟨rfl,rfl⟩)|(refine(iq _ _ _ _ (by omega)).mono ?_;rintro e w2 ⟨rfl,rfl⟩))|fail)
   go_roundw
   case rel=>exact⟨5,by omega,by simp,ow.out,by first|assumption|exact HB.out.alloc HB.out.size _⟩
   case measure=>simp[intOf]
  ·have hn:T=lA c ((945,969)::qX.drop 6):=HN.out
   by_cases h:945<=c∧c<=969
   ·rw[kB (r:=(945,969)) h]at hn
    subst hn
    go_wp2_with (first|(refine cO rfl 220 _ _ rfl _ _ _ rfl rfl JY ?_)|(go_at_call 228;first|(refine(iu _ _ _ _ (by omega)).mono ?_;rintro e w2 ⟨rfl,rfl⟩)|(refine(iq _ _ _ _ (by omega)).mono ?_;rintro e w2 ⟨rfl,rfl⟩))|fail)
    go_ret;exact⟨rfl,by first|assumption|exact HB.out.alloc HB.out.size _⟩
   rw[kA (r:=(945,969)) h]at hn;have ow:=h_ hn;clear hn
   go_wp2_with (first|(refine cO rfl 220 _ _ rfl _ _ _ rfl rfl JY ?_)|(go_at_call 228;first|(refine(iu _ _ _ _ (by omega)).mono ?_;rintro e w2 ⟨rfl,rfl⟩)|(refine(iq _ _ _ _ (by omega)).mono ?_;rintro e w2 ⟨rfl,rfl⟩))|fail)
   go_roundw
   case rel=>exact⟨6,by omega,by simp,ow.out,by first|assumption|exact HB.out.alloc HB.out.size _⟩
   case measure=>simp[intOf]
  ·have hn:T=lA c ((1072,1119)::qX.drop 7):=HN.out
   by_cases h:1072<=c∧c<=1119
   ·rw[kB (r:=(1072,1119)) h]at hn
    subst hn
    go_wp2_with (first|(refine cO rfl 220 _ _ rfl _ _ _ rfl rfl JZ ?_)|(go_at_call 228;first|(refine(iu _ _ _ _ (by omega)).mono ?_;rintro e w2 ⟨rfl,rfl⟩)|(refine(iq _ _ _ _ (by omega)).mono ?_;rintro e w2 ⟨rfl,rfl⟩))|fail)
    go_ret;exact⟨rfl,by first|assumption|exact HB.out.alloc HB.out.size _⟩
   rw[kA (r:=(1072,1119)) h]at hn;have ow:=h_ hn;clear hn
   go_wp2_with (first|(refine cO rfl 220 _ _ rfl _ _ _ rfl rfl JZ ?_)|(go_at_call 228;first|(refine(iu _ _ _ _ (by omega)).mono ?_;rintro e w2 ⟨rfl,rfl⟩)|(refine(iq _ _ _ _ (by omega)).mono ?_;rintro e w2 ⟨rfl,rfl⟩))|fail)
   go_roundw
   case rel=>exact⟨7,by omega,by simp,ow.out,by first|assumption|exact HB.out.alloc HB.out.size _⟩
   case measure=>simp[intOf]
  ·have hn:T=lA c ((12353,12438)::qX.drop 8):=HN.out
   by_cases h:12353<=c∧c<=12438
   ·rw[kB (r:=(12353,12438)) h]at hn
    subst hn
    go_wp2_with (first|(refine cO rfl 220 _ _ rfl _ _ _ rfl rfl J1 ?_)|(go_at_call 228;first|(refine(iu _ _ _ _ (by omega)).mono ?_;rintro e w2 ⟨rfl,rfl⟩)|(refine(iq _ _ _ _ (by omega)).mono ?_;rintro e w2 ⟨rfl,rfl⟩))|fail)
    go_ret;exact⟨rfl,by first|assumption|exact HB.out.alloc HB.out.size _⟩
   rw[kA (r:=(12353,12438)) h]at hn;have ow:=h_ hn;clear hn
   go_wp2_with (first|(refine cO rfl 220 _ _ rfl _ _ _ rfl rfl J1 ?_)|(go_at_call 228;first|(refine(iu _ _ _ _ (by omega)).mono ?_;rintro e w2 ⟨rfl,rfl⟩)|(refine(iq _ _ _ _ (by omega)).mono ?_;rintro e w2 ⟨rfl,rfl⟩))|fail)
   go_roundw
   case rel=>exact⟨8,by omega,by simp,ow.out,by first|assumption|exact HB.out.alloc HB.out.size _⟩
   case measure=>simp[intOf]
  ·have hn:T=lA c ((12449,12538)::qX.drop 9):=HN.out
   by_cases h:12449<=c∧c<=12538
   ·rw[kB (r:=(12449,12538)) h]at hn
    subst hn
    go_wp2_with (first|(refine cO rfl 220 _ _ rfl _ _ _ rfl rfl J4 ?_)|(go_at_call 228;first|(refine(iu _ _ _ _ (by omega)).mono ?_;rintro e w2 ⟨rfl,rfl⟩)|(refine(iq _ _ _ _ (by omega)).mono ?_;rintro e w2 ⟨rfl,rfl⟩))|fail)
    go_ret;exact⟨rfl,by first|assumption|exact HB.out.alloc HB.out.size _⟩
   rw[kA (r:=(12449,12538)) h]at hn;have ow:=h_ hn;clear hn
   go_wp2_with (first|(refine cO rfl 220 _ _ rfl _ _ _ rfl rfl J4 ?_)|(go_at_call 228;first|(refine(iu _ _ _ _ (by omega)).mono ?_;rintro e w2 ⟨rfl,rfl⟩)|(refine(iq _ _ _ _ (by omega)).mono ?_;rintro e w2 ⟨rfl,rfl⟩))|fail)
   go_roundw
   case rel=>exact⟨9,by omega,by simp,ow.out,by first|assumption|exact HB.out.alloc HB.out.size _⟩
   case measure=>simp[intOf]
  ·have hn:T=lA c ((19968,40959)::qX.drop 10):=HN.out
   by_cases h:19968<=c∧c<=40959
   ·rw[kB (r:=(19968,40959)) h]at hn
    subst hn
    go_wp2_with (first|(refine cO rfl 220 _ _ rfl _ _ _ rfl rfl J5 ?_)|(go_at_call 228;first|(refine(iu _ _ _ _ (by omega)).mono ?_;rintro e w2 ⟨rfl,rfl⟩)|(refine(iq _ _ _ _ (by omega)).mono ?_;rintro e w2 ⟨rfl,rfl⟩))|fail)
    go_ret;exact⟨rfl,by first|assumption|exact HB.out.alloc HB.out.size _⟩
   rw[kA (r:=(19968,40959)) h]at hn;have ow:=h_ hn;clear hn
   go_wp2_with (first|(refine cO rfl 220 _ _ rfl _ _ _ rfl rfl J5 ?_)|(go_at_call 228;first|(refine(iu _ _ _ _ (by omega)).mono ?_;rintro e w2 ⟨rfl,rfl⟩)|(refine(iq _ _ _ _ (by omega)).mono ?_;rintro e w2 ⟨rfl,rfl⟩))|fail)
   go_roundw
   case rel=>exact⟨10,by omega,by simp,ow.out,by first|assumption|exact HB.out.alloc HB.out.size _⟩
   case measure=>simp[intOf]
  ·have hn:T=lA c ((44032,55203)::qX.drop 11):=HN.out
   by_cases h:44032<=c∧c<=55203
   ·rw[kB (r:=(44032,55203)) h]at hn
    subst hn
    go_wp2_with (first|(refine cO rfl 220 _ _ rfl _ _ _ rfl rfl DW ?_)|(go_at_call 228;first|(refine(iu _ _ _ _ (by omega)).mono ?_;rintro e w2 ⟨rfl,rfl⟩)|(refine(iq _ _ _ _ (by omega)).mono ?_;rintro e w2 ⟨rfl,rfl⟩))|fail)
    go_ret;exact⟨rfl,by first|assumption|exact HB.out.alloc HB.out.size _⟩
   rw[kA (r:=(44032,55203)) h]at hn;have ow:=h_ hn;clear hn
   go_wp2_with (first|(refine cO rfl 220 _ _ rfl _ _ _ rfl rfl DW ?_)|(go_at_call 228;first|(refine(iu _ _ _ _ (by omega)).mono ?_;rintro e w2 ⟨rfl,rfl⟩)|(refine(iq _ _ _ _ (by omega)).mono ?_;rintro e w2 ⟨rfl,rfl⟩))|fail)
   go_roundw
   case rel=>exact⟨11,by omega,by simp,ow.out,by first|assumption|exact HB.out.alloc HB.out.size _⟩
   case measure=>simp[intOf]
  ·have hn:T=lA c ((127744,128511)::qX.drop 12):=HN.out
   by_cases h:127744<=c∧c<=128511
   ·rw[kB (r:=(127744,128511)) h]at hn
    subst hn
    go_wp2_with (first|(refine cO rfl 220 _ _ rfl _ _ _ rfl rfl DX ?_)|(go_at_call 228;first|(refine(iu _ _ _ _ (by omega)).mono ?_;rintro e w2 ⟨rfl,rfl⟩)|(refine(iq _ _ _ _ (by omega)).mono ?_;rintro e w2 ⟨rfl,rfl⟩))|fail)
    go_ret;exact⟨rfl,by first|assumption|exact HB.out.alloc HB.out.size _⟩
   rw[kA (r:=(127744,128511)) h]at hn;have ow:=h_ hn;clear hn
   go_wp2_with (first|(refine cO rfl 220 _ _ rfl _ _ _ rfl rfl DX ?_)|(go_at_call 228;first|(refine(iu _ _ _ _ (by omega)).mono ?_;rintro e w2 ⟨rfl,rfl⟩)|(refine(iq _ _ _ _ (by omega)).mono ?_;rintro e w2 ⟨rfl,rfl⟩))|fail)
   go_roundw
   case rel=>exact⟨12,by omega,by simp,ow.out,by first|assumption|exact HB.out.alloc HB.out.size _⟩
   case measure=>simp[intOf]
  have hf:T=false:=HN.out;subst hf
  go_wp2_with fail
  go_ret;exact⟨rfl,HB.out⟩

theorem Tw{c:Int}:(bs (cf (lF c))).toList.isEmpty=decide (lF c=[]):=by
 rw[ay];cases h:lF c with
 |nil=>simp[cf]
 |cons x r =>
  rw[dW];have:=(ns x).1;cases he:enc x with
  |nil=>rw[he]at this;simp at this
  |cons y s=>simp
theorem Kh{c:Int}(h:lF c ≠ []):eA c=(cf (lF c),2):=by unfold eA;rw[if_pos h]
theorem MU{c:Int}(h:lF c=[])(h2:DI c=true):eA c=([],3):=by unfold eA;rw[if_neg (by simp[h]),if_pos h2]
theorem xc{c:Int}(h:lF c=[])(h2:DI c=false)(h3:TK c=true):eA c=(enc c,1):=by unfold eA;rw[if_neg (by simp[h]),if_neg (by simp[h2]),if_pos h3]
theorem MV{c:Int}(h:lF c=[])(h2:DI c=false)(h3:TK c=false):eA c=([],0):=by unfold eA;rw[if_neg (by simp[h]),if_neg (by simp[h2]),if_neg (by simp[h3])]
theorem vg{a:Bytes}{k:Int}{t:Bytes×Int}(h:t=(a,k)):Ending.returned (.tuple #[.string (bs a),.int .i64 k])=.returned (.tuple #[S t.1,.int .i64 t.2]):=by subst h;rfl
theorem zp(c:Int):(∃b,lF c ≠ []∧(bs (cf (lF c))).toList.isEmpty=false∧b=cf (lF c)∧eA c=(b,2))∨(lF c=[]∧DI c=true∧eA c=([],3))∨(lF c=[]∧DI c=false∧TK c=true∧eA c=(enc c,1))∨(lF c=[]∧DI c=false∧TK c=false∧eA c=([],0)):=by
 by_cases h:lF c=[]
 ·right
  cases h2:DI c
  ·right
   cases h3:TK c
   ·exact .inr ⟨h,rfl,rfl,MV h h2 h3⟩
   exact .inl ⟨h,rfl,rfl,xc h h2 h3⟩
  exact .inl ⟨h,rfl,MU h h2⟩
 exact .inl ⟨_,h,by rw[Tw];simp[h],rfl,Kh h⟩
theorem Ki(c:Int)(w:World):bN prog 209 #[.int .i64 c] w (.tuple #[S (eA c).1,.int .i64 (eA c).2]):=by
 have ho:=fun W=>M5 c W;have hg:=fun W=>QJ c W;have hv:=fun W=>NW c W;obtain⟨M,hM⟩:=az (eA c);rw[<-hM];rcases zp c with⟨b,h,h2,h3,e⟩|⟨h,h2,e⟩|⟨h,h2,h3,e⟩|⟨h,h2,h3,e⟩
 all_goals rw[<-hM]at e
 ·rw[<-h3]at ho h2
  have HM:=h_ e;clear e hM h h3;have HO:=h_ ho;clear ho hg hv;go_enter func209,ntmps209
  go_wp2_with (first|(go_at_call 218;refine(HO.out _).mono ?_;rintro e w2 ⟨rfl,rfl⟩)|fail)
  go_ret2
  exact⟨vg HM.out,Below.refl _ _⟩
 ·rw[h]at ho
  rw[h2]at hg;have hem:(bs (cf [])).toList.isEmpty=true:=by rw[ay];rfl
  have HM:=h_ e;clear e hM h h2;have HO:=h_ ho;clear ho;have HG:=h_ hg;clear hg hv;go_enter func209,ntmps209
  go_wp2_with (first|(go_at_call 218;refine(HO.out _).mono ?_;rintro e w2 ⟨rfl,rfl⟩)|(go_at_call 219;refine(HG.out _).mono ?_;rintro e w2 ⟨rfl,rfl⟩)|fail)
  go_ret2
  exact⟨vg (a:=[]) HM.out,Below.refl _ _⟩
 ·rw[h]at ho
  rw[h2]at hg;rw[h3]at hv;have hem:(bs (cf [])).toList.isEmpty=true:=by rw[ay];rfl
  have HM:=h_ e;clear e hM h h2 h3;have HO:=h_ ho;clear ho;have HG:=h_ hg;clear hg;have HV:=h_ hv;clear hv;go_enter func209,ntmps209
  go_wp2_with (first|(go_at_call 218;refine(HO.out _).mono ?_;rintro e w2 ⟨rfl,rfl⟩)|(go_at_call 219;refine(HG.out _).mono ?_;rintro e w2 ⟨rfl,rfl⟩)|(go_at_call 220;refine(HV.out _).mono ?_;rintro e w2 ⟨rfl,hb2⟩;have HB2:=h_ hb2;clear hb2)|(go_at_call 45;refine(gu _ _).mono ?_;rintro e w3 ⟨rfl,rfl⟩)|fail)
  go_ret2
  exact⟨vg HM.out,HB2.out⟩
 rw[h]at ho;rw[h2]at hg;rw[h3]at hv;have hem:(bs (cf [])).toList.isEmpty=true:=by rw[ay];rfl
 have HM:=h_ e;clear e hM h h2 h3;have HO:=h_ ho;clear ho;have HG:=h_ hg;clear hg;have HV:=h_ hv;clear hv;go_enter func209,ntmps209
 go_wp2_with (first|(go_at_call 218;refine(HO.out _).mono ?_;rintro e w2 ⟨rfl,rfl⟩)|(go_at_call 219;refine(HG.out _).mono ?_;rintro e w2 ⟨rfl,rfl⟩)|(go_at_call 220;refine(HV.out _).mono ?_;rintro e w2 ⟨rfl,hb2⟩;have HB2:=h_ hb2;clear hb2)|fail)
 go_ret2
 exact⟨vg (a:=[]) HM.out,HB2.out⟩

theorem KO(c:Int):(lF c).length<=3:=by
 rcases xS c with h|h|h|h|h|h|h|h|h|h|h|h|h <;>(obtain⟨_,h⟩:=h;first|(rw[h];simp)|(obtain⟨_,h⟩:=h;rw[h];simp))
def M3(c:Int):Bool:=decide ((eA c).2=1∧c≠46)
def LZ(c:Int):Bool:=decide (127<c)
def frs(l:List Int):Bool:=match l with | []=>false|x::_=>!decide (0x300<=x∧x<=0x36f)
def ny(l:List Int):Bool:=frs l&&l.all M3&&l.any LZ
theorem Wp{l:List Int}{k:Nat}(h:k<l.length)(hb:M3 l[k]=false):ny l=false:=by
 have:l.all M3=false:=by
  rw[Oh];exact⟨_,bw h,by rw[hb];simp⟩
 unfold ny;rw[this];simp
theorem Wq{l:List Int}(h:l.all M3=true):ny l=(frs l&&l.any LZ):=by unfold ny;rw[h];simp
theorem QG{l:List Int}(h:0<l.length):frs l=!decide ((0x300:Int)<=l[0]∧l[0]<=(0x36f:Int)):=by
 cases l with
 |nil=>simp at h
 |cons x r=>rfl
theorem yN{l:List Int}{k:Nat}{f:Int->Bool}(h:k<l.length)(ha:(l.take k).all f=true)(hb:f l[k]=true):(l.take (k+1)).all f=true:=by
 rw[aI h,X9,ha];simp[hb]
theorem Ll{l:List Int}{k:Nat}{f:Int->Bool}(h:k<l.length):(l.take (k+1)).any f=((l.take k).any f||f l[k]):=by
 rw[aI h,List.any_append];simp
theorem a1b{c:Int}(h:(eA c).2≠1):M3 c=false:=decide_eq_false (fun h2=>h h2.1)
theorem a1c:M3 46=false:=decide_eq_false (fun h2=>h2.2 rfl)
theorem a5D{c:Int}(h:(eA c).2=1)(h2:c≠46):M3 c=true:=decide_eq_true ⟨h,h2⟩
theorem sU(l:List Int)(v:Value)(w:World)(h:Sl w.heap.size w v (ed l)) :
  bN prog 224 #[v] w (.bool (ny l)):=by
 obtain⟨av,c,rfl⟩:=dN h
 have hLm:l.length<=maxLen:=by
  obtain⟨c1,h1,h2,_⟩:=h;have h3:(ed l).length=l.length:=by simp
  omega
 unfold maxLen at hLm;rw[show(ed l).length=l.length by simp]at h ⊢;have hat:=xJ h;clear h;have HAT:=h_ hat;clear hat;obtain⟨T,hT⟩:=az (ny l);rw[<-hT];have hbad:=fun k (hk:k<l.length) (hb:M3 l[k]=false)=>hT.trans (Wp hk hb);have hend:=fun(h:l.all M3=true)=>hT.trans (Wq h);have HBAD:=h_ hbad;clear hbad;have a2Q:=h_ hend;clear hend;by_cases h0:l.length=0
 ·obtain rfl:l=[]:=ak h0
  have hf:T=false:=hT;subst hf;clear hT HAT HBAD a2Q;simp only[aN];go_enter func224,ntmps224
  go_wp2_with fail
  go_ret;exact⟨rfl,Below.refl _ _⟩
 have hp:0<l.length:=by omega
 obtain⟨x0,hx0⟩:=az (l[0]'hp);have hfr:=QG hp;obtain⟨b,o,rfl,hb,hc0⟩:=HAT.out 0 hp;rw[<-hx0]at hfr hc0;clear hx0;have QZ:0x300<=x0∧x0<=0x36f->T=false:=fun h=>by rw[hT];unfold ny;rw[hfr,decide_eq_true h];simp
 obtain⟨L,hL⟩:=az (l.length);rw[<-hL]at hLm hp ⊢;have hL0:0<L:=hp;have HL:=h_ hL;clear hL h0 hp;rw[dU]at hc0;have XS:=h_ hfr;clear hfr hT;have HF1:=h_ QZ;clear QZ;have q0:((L:Int)==0)=false:=by simp;omega
 by_cases hx0:0x300<=x0∧x0<=0x36f
 ·have hf:=HF1.out hx0
  subst hf;go_enter func224,ntmps224
  go_wp2_with (first|(go_at_call 228;refine(iu _ _ _ _ hx0).mono ?_;rintro e w2 ⟨rfl,rfl⟩)|fail)
  go_ret;exact⟨rfl,Below.refl _ _⟩
 have HX0:=h_ hx0;clear hx0;go_enter func224,ntmps224
 go_wp2_with (first|(go_at_call 228;refine(iq _ _ _ _ HX0.out).mono ?_;rintro e w2 ⟨rfl,rfl⟩)|fail)
 go_loopw [3,19] (fun av iv wr=>∃ k:Nat,k<=L∧iv=.int .i64 k∧av=.bool ((l.take k).any LZ)∧(l.take k).all M3=true∧Below w.heap.size w wr) (fun _ i _=>L-(intOf i).toNat)
 case atStart=>exact⟨0,by omega,by simp,by simp,by simp,Below.refl _ _⟩
 case round =>
  obtain⟨k,hk,rfl,rfl,hall,hbl⟩:=hrel;have HA:=h_ hall;clear hall;have HB:=h_ hbl;clear hbl;by_cases hlt:k<L
  ·have hx:k<l.length:=by have:=HL.out;omega
   obtain⟨b',o',hbo,hb',hcell0⟩:=HAT.out k hx;obtain⟨rfl,rfl⟩:b=b'∧o=o':=by simpa using hbo
   have hcell:wr.cell? ⟨b,o+k,none⟩=some (.int .i64 l[k]):=by rw[(HB.out).cell (p:=⟨b,o+k,none⟩) hb,hcell0]
   clear hcell0 hbo hb' hc0;have hs1:=fun h=>yN (f:=M3) hx HA.out h;have hs2:=Ll (f:=LZ) hx;have hbd:=HBAD.out k hx;obtain⟨x,mZ⟩:=az (l[k]);rw[<-mZ]at hcell hs1 hs2 hbd;clear mZ;have hma:=fun W=>Ki x W;obtain⟨K,hK⟩:=az ((eA x).2);obtain⟨B,hB⟩:=az ((eA x).1);have hk1:=fun h:K≠1=>hbd (a1b (by rw[<-hK];exact h));have hk2:=fun h:x=46=>hbd (by rw[h];exact a1c);have hk3:=fun(h:K=1) (h2:x≠46)=>hs1 (a5D (by rw[<-hK];exact h) h2);rw[<-hK,<-hB]at hma;clear hbd hs1 hK hB;have HMA:=h_ hma;clear hma;have HK1:=h_ hk1;clear hk1;have Zg:=h_ hk2;clear hk2;have HK3:=h_ hk3;clear hk3;have HS2:=h_ hs2;clear hs2;by_cases hKe:K=1
   ·by_cases hxe:x=46
    ·have hf:=Zg.out hxe
     subst hf;subst hKe;subst hxe
     go_wp2_with (first|(go_at_call 209;refine(HMA.out _).mono ?_;rintro e w3 ⟨rfl,hb3⟩;have HB3:=h_ (HB.out.trans (hb3.mono HB.out.size));clear hb3)|fail)
     go_ret;exact⟨rfl,HB3.out⟩
    have DK:=HK3.out hKe hxe;have HA2:=h_ DK;clear DK;have q1:(x==46)=false:=by simp[hxe]
    subst hKe;clear hxe;obtain⟨m,hm⟩:=az ((l.take k).any LZ);rw[<-hm]at HS2 ⊢;clear hm
    have hcs:m=true∨(m=false∧127<x)∨(m=false∧x<=127):=by
     cases m
     ·right;simp only[true_and];omega
     exact .inl rfl
    rcases hcs with rfl|⟨rfl,hf⟩|⟨rfl,hf⟩
    all_goals
     go_wp2_with (first|(go_at_call 209;refine(HMA.out _).mono ?_;rintro e w3 ⟨rfl,hb3⟩;have HB3:=h_ (HB.out.trans (hb3.mono HB.out.size));clear hb3)|fail)
     go_roundw
     case rel=>exact⟨k+1,by omega,by simp,by rw[HS2.out];unfold LZ;simp <;>omega,HA2.out,HB3.out⟩
     case measure=>simp[intOf];omega
   have hf:=HK1.out hKe;subst hf;have q1:(K != 1)=true:=by simp[hKe]
   go_wp2_with (first|(go_at_call 209;refine(HMA.out _).mono ?_;rintro e w3 ⟨rfl,hb3⟩;have HB3:=h_ (HB.out.trans (hb3.mono HB.out.size));clear hb3)|fail)
   go_ret;exact⟨rfl,HB3.out⟩
  obtain rfl:L=k:=by omega
  have hall:=HA.out;rw[aP (by have:=HL.out;omega)]at hall ⊢;have hT:=a2Q.out hall;rw[XS.out,decide_eq_false HX0.out]at hT;have HT:=h_ hT;clear hT hall
  go_wp2_with fail
  go_ret;exact⟨dX (by rw[HT.out];simp),HB.out⟩

def km(b:Bytes):Bool:=b.all (fun x=>decide (b2 x<0x80))
theorem MA(b:Bytes)(w:World)(hl:b.length<=maxLen):iz prog 222 #[.string (bs b)] w (.bool (km b)):=by
 unfold maxLen at hl;obtain⟨s,hs⟩:=az (bs b);have hsz:s.size=b.length:=by rw[hs,aM]
 obtain⟨T,hT⟩:=az (km b);rw[<-hs,<-hT]
 have hbad:∀ k (hk:k<b.length),0x80<=b2 b[k]->T=false:=by
  intro k hk h;rw[hT];unfold km;rw[Oh];exact⟨_,bw hk,by simp;omega⟩
 have hok:(∀k (hk:k<b.length),b2 b[k]<0x80)->T=true:=by
  intro h;rw[hT];unfold km;rw[bo];intro x hx;obtain⟨k,hk,rfl⟩:=dz hx;exact decide_eq_true (h k hk)
 clear hT;obtain⟨L,hL⟩:=az (b.length);rw[<-hL]at hl hsz;have HL:=h_ hL;clear hL;have HS:=h_ hs;clear hs;have HBAD:=h_ hbad;clear hbad;have OM:=h_ hok;clear hok;go_enter func222,ntmps222
 go_wp2_with fail
 go_loopw [6] (fun iv wr=>∃ k:Nat,k<=L∧iv=.int .i64 k∧(∀j (hj:j<b.length),j<k->b2 b[j]<0x80)∧w=wr) (fun i _=>L-(intOf i).toNat)
 case atStart=>exact⟨0,by omega,by simp,fun j _ h=>by omega,rfl⟩
 case round =>
  obtain⟨k,hk,rfl,hall,rfl⟩:=hrel;have HA:=h_ hall;clear hall;by_cases hlt:k<L
  ·have hx:k<b.length:=by have:=HL.out;omega
   have hk2:k<s.size:=by omega
   have hxe:((s[k]'hk2).toNat:Int)=b2 b[k]:=cJ HS.out hk2 hx;have hb:=HBAD.out k hx
   have hstep:((s[k]'hk2).toNat:Int)<0x80->∀ j (hj:j<b.length),j<k+1->b2 b[j]<0x80:=by
    intro h j hj h2;by_cases hjk:j=k
    ·subst hjk;rw[<-hxe];exact h
    exact HA.out j hj (by omega)
   rw[<-hxe]at hb;clear hxe;have lC:=h_ hb;clear hb;have HST:=h_ hstep;clear hstep;have hcs:((s[k]'hk2).toNat:Int)<0x80∨0x80<=((s[k]'hk2).toNat:Int):=by omega
   rcases hcs with hc|hc
   ·go_wp2_with fail
    go_roundw
    case rel=>exact⟨k+1,by omega,by simp,HST.out hc,trivial⟩
    case measure=>simp[intOf];omega
   have hf:=lC.out hc;subst hf
   go_wp2_with fail
   go_ret;exact⟨rfl,rfl⟩
  have ht:=OM.out (fun j hj=>HA.out j hj (by have:=HL.out;omega));subst ht
  go_wp2_with fail
  go_ret;exact⟨rfl,rfl⟩
end Go.Proofs.YtmndlfglgcioeaaGreatDoor
