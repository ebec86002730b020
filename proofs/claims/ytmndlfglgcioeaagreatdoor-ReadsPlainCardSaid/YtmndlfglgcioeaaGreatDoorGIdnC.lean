/- IdnC IdnD IdnE IdnF: joined. -/
import Derived.Test.YtmndlfglgcioeaaGreatDoorGIdnB
import Derived.Test.YtmndlfglgcioeaaGreatDoorGGlu
import Derived.Test.YtmndlfglgcioeaaGreatDoorGArr
set_option maxHeartbeats 40000000
namespace Go.Proofs.YtmndlfglgcioeaaGreatDoor
open Tryz
open Go.RowKit
set_option maxRecDepth 10000
def Co (c:Int):Bool:=decide (c=173∨c=8203∨c=8288∨c=65279)
def kG (c:Int):List (Int×Int)->Bool
 | []=>false
 |r::rs=>if r.1<=c∧c<=r.2 then true else kG c rs
def pH:List (Int×Int):=[(0,127),(223,246),(248,255),(257,303),(768,879),(945,969),(1072,1119),(12353,12438),(12449,12538),(19968,40959),(44032,55203),(127744,128511)]
def Tv (c:Int):Bool:=kG c pH
def fT (c:Int):Bytes×Int:=if mJ c ≠ []then(cf (mJ c),2)else if Co c=true then([],3)else if Tv c=true then(enc c,1)else([],0)
theorem Lt (c:Int):((c=173∧Co c=true)∨(c=8203∧Co c=true)∨(c=8288∧Co c=true)∨(c=65279∧Co c=true))∨(¬(c=173∨c=8203∨c=8288∨c=65279)∧Co c=false):=by
 by_cases h:c=173∨c=8203∨c=8288∨c=65279
 ·left;unfold Co;rcases h with rfl|rfl|rfl|rfl <;>simp
 right;exact⟨h,decide_eq_false h⟩
theorem Lv (c:Int) (w:World):Calls prog 219 #[.int .i64 c] w fun e w'=>e=.returned (.bool (Co c))∧w=w':=by
 rcases Lt c with(⟨rfl,e⟩|⟨rfl,e⟩|⟨rfl,e⟩|⟨rfl,e⟩)|⟨h,e⟩
 iterate 4
  ·rw[e]
   clear e
   go_enter func219,ntmps219
   go_wp2_with fail
   go_ret
   exact⟨rfl,rfl⟩
 rw[e]
 clear e
 have q0:(c==173)=false:=by simp;omega
 have q1:(c==8203)=false:=by simp;omega
 have q2:(c==8288)=false:=by simp;omega
 have q3:(c==65279)=false:=by simp;omega
 go_enter func219,ntmps219
 go_wp2_with fail
 go_ret
 exact⟨rfl,rfl⟩
theorem Ys (w:World):(Instr.build 220 #[(0,.agg #[.int .i64 0,.int .i64 127]),(1,.agg #[.int .i64 223,.int .i64 246]),(2,.agg #[.int .i64 248,.int .i64 255]),(3,.agg #[.int .i64 257,.int .i64 303]),(4,.agg #[.int .i64 768,.int .i64 879]),(5,.agg #[.int .i64 945,.int .i64 969]),(6,.agg #[.int .i64 1072,.int .i64 1119]),(7,.agg #[.int .i64 12353,.int .i64 12438]),(8,.agg #[.int .i64 12449,.int .i64 12538]),(9,.agg #[.int .i64 19968,.int .i64 40959]),(10,.agg #[.int .i64 44032,.int .i64 55203]),(11,.agg #[.int .i64 127744,.int .i64 128511])]).run prog w=.ok (.agg #[.int .i64 0,.int .i64 127,.int .i64 223,.int .i64 246,.int .i64 248,.int .i64 255,.int .i64 257,.int .i64 303,.int .i64 768,.int .i64 879,.int .i64 945,.int .i64 969,.int .i64 1072,.int .i64 1119,.int .i64 12353,.int .i64 12438,.int .i64 12449,.int .i64 12538,.int .i64 19968,.int .i64 40959,.int .i64 44032,.int .i64 55203,.int .i64 127744,.int .i64 128511]) w:=by kernel_rfl
theorem Yi (w:World):(Instr.alloc 220 true (Value.tuple #[])).run prog w=.ok (.pointer (some ⟨w.heap.size,0,none⟩)) (w.alloc (.cells #[.int .i64 0,.int .i64 0,.int .i64 0,.int .i64 0,.int .i64 0,.int .i64 0,.int .i64 0,.int .i64 0,.int .i64 0,.int .i64 0,.int .i64 0,.int .i64 0,.int .i64 0,.int .i64 0,.int .i64 0,.int .i64 0,.int .i64 0,.int .i64 0,.int .i64 0,.int .i64 0,.int .i64 0,.int .i64 0,.int .i64 0,.int .i64 0] 220)):=by kernel_rfl
theorem S3:(prog.info? 220).map (·.size)=some 24:=by kernel_rfl
theorem a0f:(#[.int .i64 0,.int .i64 127,.int .i64 223,.int .i64 246,.int .i64 248,.int .i64 255,.int .i64 257,.int .i64 303,.int .i64 768,.int .i64 879,.int .i64 945,.int .i64 969,.int .i64 1072,.int .i64 1119,.int .i64 12353,.int .i64 12438,.int .i64 12449,.int .i64 12538,.int .i64 19968,.int .i64 40959,.int .i64 44032,.int .i64 55203,.int .i64 127744,.int .i64 128511]:Array Value).all (·.oneCell')=true:=by kernel_rfl
theorem EQ (w:World):(Instr.index 220 (.agg #[.int .i64 0,.int .i64 127,.int .i64 223,.int .i64 246,.int .i64 248,.int .i64 255,.int .i64 257,.int .i64 303,.int .i64 768,.int .i64 879,.int .i64 945,.int .i64 969,.int .i64 1072,.int .i64 1119,.int .i64 12353,.int .i64 12438,.int .i64 12449,.int .i64 12538,.int .i64 19968,.int .i64 40959,.int .i64 44032,.int .i64 55203,.int .i64 127744,.int .i64 128511]) (.int .i64 ((0:Nat):Int))).run prog w=.ok (.agg #[.int .i64 0,.int .i64 127]) w:=by kernel_rfl
theorem ER (w:World):(Instr.index 220 (.agg #[.int .i64 0,.int .i64 127,.int .i64 223,.int .i64 246,.int .i64 248,.int .i64 255,.int .i64 257,.int .i64 303,.int .i64 768,.int .i64 879,.int .i64 945,.int .i64 969,.int .i64 1072,.int .i64 1119,.int .i64 12353,.int .i64 12438,.int .i64 12449,.int .i64 12538,.int .i64 19968,.int .i64 40959,.int .i64 44032,.int .i64 55203,.int .i64 127744,.int .i64 128511]) (.int .i64 ((1:Nat):Int))).run prog w=.ok (.agg #[.int .i64 223,.int .i64 246]) w:=by kernel_rfl
theorem ES (w:World):(Instr.index 220 (.agg #[.int .i64 0,.int .i64 127,.int .i64 223,.int .i64 246,.int .i64 248,.int .i64 255,.int .i64 257,.int .i64 303,.int .i64 768,.int .i64 879,.int .i64 945,.int .i64 969,.int .i64 1072,.int .i64 1119,.int .i64 12353,.int .i64 12438,.int .i64 12449,.int .i64 12538,.int .i64 19968,.int .i64 40959,.int .i64 44032,.int .i64 55203,.int .i64 127744,.int .i64 128511]) (.int .i64 ((2:Nat):Int))).run prog w=.ok (.agg #[.int .i64 248,.int .i64 255]) w:=by kernel_rfl
theorem ET (w:World):(Instr.index 220 (.agg #[.int .i64 0,.int .i64 127,.int .i64 223,.int .i64 246,.int .i64 248,.int .i64 255,.int .i64 257,.int .i64 303,.int .i64 768,.int .i64 879,.int .i64 945,.int .i64 969,.int .i64 1072,.int .i64 1119,.int .i64 12353,.int .i64 12438,.int .i64 12449,.int .i64 12538,.int .i64 19968,.int .i64 40959,.int .i64 44032,.int .i64 55203,.int .i64 127744,.int .i64 128511]) (.int .i64 ((3:Nat):Int))).run prog w=.ok (.agg #[.int .i64 257,.int .i64 303]) w:=by kernel_rfl
theorem EU (w:World):(Instr.index 220 (.agg #[.int .i64 0,.int .i64 127,.int .i64 223,.int .i64 246,.int .i64 248,.int .i64 255,.int .i64 257,.int .i64 303,.int .i64 768,.int .i64 879,.int .i64 945,.int .i64 969,.int .i64 1072,.int .i64 1119,.int .i64 12353,.int .i64 12438,.int .i64 12449,.int .i64 12538,.int .i64 19968,.int .i64 40959,.int .i64 44032,.int .i64 55203,.int .i64 127744,.int .i64 128511]) (.int .i64 ((4:Nat):Int))).run prog w=.ok (.agg #[.int .i64 768,.int .i64 879]) w:=by kernel_rfl
theorem EV (w:World):(Instr.index 220 (.agg #[.int .i64 0,.int .i64 127,.int .i64 223,.int .i64 246,.int .i64 248,.int .i64 255,.int .i64 257,.int .i64 303,.int .i64 768,.int .i64 879,.int .i64 945,.int .i64 969,.int .i64 1072,.int .i64 1119,.int .i64 12353,.int .i64 12438,.int .i64 12449,.int .i64 12538,.int .i64 19968,.int .i64 40959,.int .i64 44032,.int .i64 55203,.int .i64 127744,.int .i64 128511]) (.int .i64 ((5:Nat):Int))).run prog w=.ok (.agg #[.int .i64 945,.int .i64 969]) w:=by kernel_rfl
theorem EX (w:World):(Instr.index 220 (.agg #[.int .i64 0,.int .i64 127,.int .i64 223,.int .i64 246,.int .i64 248,.int .i64 255,.int .i64 257,.int .i64 303,.int .i64 768,.int .i64 879,.int .i64 945,.int .i64 969,.int .i64 1072,.int .i64 1119,.int .i64 12353,.int .i64 12438,.int .i64 12449,.int .i64 12538,.int .i64 19968,.int .i64 40959,.int .i64 44032,.int .i64 55203,.int .i64 127744,.int .i64 128511]) (.int .i64 ((6:Nat):Int))).run prog w=.ok (.agg #[.int .i64 1072,.int .i64 1119]) w:=by kernel_rfl
theorem EY (w:World):(Instr.index 220 (.agg #[.int .i64 0,.int .i64 127,.int .i64 223,.int .i64 246,.int .i64 248,.int .i64 255,.int .i64 257,.int .i64 303,.int .i64 768,.int .i64 879,.int .i64 945,.int .i64 969,.int .i64 1072,.int .i64 1119,.int .i64 12353,.int .i64 12438,.int .i64 12449,.int .i64 12538,.int .i64 19968,.int .i64 40959,.int .i64 44032,.int .i64 55203,.int .i64 127744,.int .i64 128511]) (.int .i64 ((7:Nat):Int))).run prog w=.ok (.agg #[.int .i64 12353,.int .i64 12438]) w:=by kernel_rfl
theorem EZ (w:World):(Instr.index 220 (.agg #[.int .i64 0,.int .i64 127,.int .i64 223,.int .i64 246,.int .i64 248,.int .i64 255,.int .i64 257,.int .i64 303,.int .i64 768,.int .i64 879,.int .i64 945,.int .i64 969,.int .i64 1072,.int .i64 1119,.int .i64 12353,.int .i64 12438,.int .i64 12449,.int .i64 12538,.int .i64 19968,.int .i64 40959,.int .i64 44032,.int .i64 55203,.int .i64 127744,.int .i64 128511]) (.int .i64 ((8:Nat):Int))).run prog w=.ok (.agg #[.int .i64 12449,.int .i64 12538]) w:=by kernel_rfl
theorem E0 (w:World):(Instr.index 220 (.agg #[.int .i64 0,.int .i64 127,.int .i64 223,.int .i64 246,.int .i64 248,.int .i64 255,.int .i64 257,.int .i64 303,.int .i64 768,.int .i64 879,.int .i64 945,.int .i64 969,.int .i64 1072,.int .i64 1119,.int .i64 12353,.int .i64 12438,.int .i64 12449,.int .i64 12538,.int .i64 19968,.int .i64 40959,.int .i64 44032,.int .i64 55203,.int .i64 127744,.int .i64 128511]) (.int .i64 ((9:Nat):Int))).run prog w=.ok (.agg #[.int .i64 19968,.int .i64 40959]) w:=by kernel_rfl
theorem z3 (w:World):(Instr.index 220 (.agg #[.int .i64 0,.int .i64 127,.int .i64 223,.int .i64 246,.int .i64 248,.int .i64 255,.int .i64 257,.int .i64 303,.int .i64 768,.int .i64 879,.int .i64 945,.int .i64 969,.int .i64 1072,.int .i64 1119,.int .i64 12353,.int .i64 12438,.int .i64 12449,.int .i64 12538,.int .i64 19968,.int .i64 40959,.int .i64 44032,.int .i64 55203,.int .i64 127744,.int .i64 128511]) (.int .i64 ((10:Nat):Int))).run prog w=.ok (.agg #[.int .i64 44032,.int .i64 55203]) w:=by kernel_rfl
theorem z4 (w:World):(Instr.index 220 (.agg #[.int .i64 0,.int .i64 127,.int .i64 223,.int .i64 246,.int .i64 248,.int .i64 255,.int .i64 257,.int .i64 303,.int .i64 768,.int .i64 879,.int .i64 945,.int .i64 969,.int .i64 1072,.int .i64 1119,.int .i64 12353,.int .i64 12438,.int .i64 12449,.int .i64 12538,.int .i64 19968,.int .i64 40959,.int .i64 44032,.int .i64 55203,.int .i64 127744,.int .i64 128511]) (.int .i64 ((11:Nat):Int))).run prog w=.ok (.agg #[.int .i64 127744,.int .i64 128511]) w:=by kernel_rfl
theorem iy {c:Int} {r:Int×Int} {rs:List (Int×Int)} (h:r.1<=c∧c<=r.2):kG c (r::rs)=true:=by unfold kG;rw[if_pos h]
theorem ix {c:Int} {r:Int×Int} {rs:List (Int×Int)} (h:¬ (r.1<=c∧c<=r.2)):kG c (r::rs)=kG c rs:=by rw[kG,if_neg h]
theorem It (c:Int) (w:World):Calls prog 220 #[.int .i64 c] w fun e w'=>e=.returned (.bool (Tv c))∧Below w.heap.size w w':=by
 obtain⟨T,hT⟩:=ap (Tv c)
 rw[<-hT]
 have HT:=h_ hT;clear hT
 go_enter func220,ntmps220
 go_wp2_with (first
  |(refine bG rfl 220 _ rfl (.agg #[.int .i64 0,.int .i64 127,.int .i64 223,.int .i64 246,.int .i64 248,.int .i64 255,.int .i64 257,.int .i64 303,.int .i64 768,.int .i64 879,.int .i64 945,.int .i64 969,.int .i64 1072,.int .i64 1119,.int .i64 12353,.int .i64 12438,.int .i64 12449,.int .i64 12538,.int .i64 19968,.int .i64 40959,.int .i64 44032,.int .i64 55203,.int .i64 127744,.int .i64 128511]) _ (by rfl) Ys ?_)
  |(refine aE rfl 220 rfl _ _ (Yi _) ?_)
  |(refine gd rfl 220 _ _ rfl #[.int .i64 0,.int .i64 127,.int .i64 223,.int .i64 246,.int .i64 248,.int .i64 255,.int .i64 257,.int .i64 303,.int .i64 768,.int .i64 879,.int .i64 945,.int .i64 969,.int .i64 1072,.int .i64 1119,.int .i64 12353,.int .i64 12438,.int .i64 12449,.int .i64 12538,.int .i64 19968,.int .i64 40959,.int .i64 44032,.int .i64 55203,.int .i64 127744,.int .i64 128511] _ _ rfl rfl S3 rfl a0f ?_)
  |(refine tB rfl 220 _ rfl #[.int .i64 0,.int .i64 127,.int .i64 223,.int .i64 246,.int .i64 248,.int .i64 255,.int .i64 257,.int .i64 303,.int .i64 768,.int .i64 879,.int .i64 945,.int .i64 969,.int .i64 1072,.int .i64 1119,.int .i64 12353,.int .i64 12438,.int .i64 12449,.int .i64 12538,.int .i64 19968,.int .i64 40959,.int .i64 44032,.int .i64 55203,.int .i64 127744,.int .i64 128511] _ rfl _ underlying220 rfl S3 ?_)
  |fail)
 go_loopw [20] (fun iv wr=>∃ k:Nat,k<=12∧iv=.int .i64 k∧T=kG c (pH.drop k)∧Below w.heap.size w wr) (fun i _=>12-(intOf i).toNat)
 case atStart=>exact⟨0,by omega,by simp,HT.out,(Below.refl _ _).alloc (ae _) _⟩
 case round =>
  obtain⟨k,hk,rfl,hno,hbl⟩:=hrel
  have HB:=h_ hbl;clear hbl
  have HN:=h_ hno;clear hno
  have hks:k=0∨k=1∨k=2∨k=3∨k=4∨k=5∨k=6∨k=7∨k=8∨k=9∨k=10∨k=11∨k=12:=by omega
  rcases hks with rfl|rfl|rfl|rfl|rfl|rfl|rfl|rfl|rfl|rfl|rfl|rfl|rfl
  ·have hn:T=kG c ((0,127)::pH.drop 1):=HN.out
   by_cases h:0<=c∧c<=127
   ·rw[iy (r:=(0,127)) h]at hn
    subst hn
    go_wp2_with (first|(refine cm rfl 220 _ _ rfl _ _ _ rfl rfl EQ ?_)|(go_at_call 228;first|(refine(fz _ _ _ _ (by omega)).mono ?_;rintro e w2 ⟨rfl,rfl⟩)|(refine(fy _ _ _ _ (by omega)).mono ?_;rintro e w2 ⟨rfl,rfl⟩))|fail)
    go_ret
    exact⟨rfl,by first|assumption|exact HB.out.alloc HB.out.size _⟩
   rw[ix (r:=(0,127)) h]at hn
   have lX:=h_ hn;clear hn
   go_wp2_with (first|(refine cm rfl 220 _ _ rfl _ _ _ rfl rfl EQ ?_)|(go_at_call 228;first|(refine(fz _ _ _ _ (by omega)).mono ?_;rintro e w2 ⟨rfl,rfl⟩)|(refine(fy _ _ _ _ (by omega)).mono ?_;rintro e w2 ⟨rfl,rfl⟩))|fail)
   go_roundw
   case rel=>exact⟨1,by omega,by simp,lX.out,by first|assumption|exact HB.out.alloc HB.out.size _⟩
   case measure=>simp[intOf]
  ·have hn:T=kG c ((223,246)::pH.drop 2):=HN.out
   by_cases h:223<=c∧c<=246
   ·rw[iy (r:=(223,246)) h]at hn
    subst hn
    go_wp2_with (first|(refine cm rfl 220 _ _ rfl _ _ _ rfl rfl ER ?_)|(go_at_call 228;first|(refine(fz _ _ _ _ (by omega)).mono ?_;rintro e w2 ⟨rfl,rfl⟩)|(refine(fy _ _ _ _ (by omega)).mono ?_;rintro e w2 ⟨rfl,rfl⟩))|fail)
    go_ret
    exact⟨rfl,by first|assumption|exact HB.out.alloc HB.out.size _⟩
   rw[ix (r:=(223,246)) h]at hn
   have lX:=h_ hn;clear hn
   go_wp2_with (first|(refine cm rfl 220 _ _ rfl _ _ _ rfl rfl ER ?_)|(go_at_call 228;first|(refine(fz _ _ _ _ (by omega)).mono ?_;rintro e w2 ⟨rfl,rfl⟩)|(refine(fy _ _ _ _ (by omega)).mono ?_;rintro e w2 ⟨rfl,rfl⟩))|fail)
   go_roundw
   case rel=>exact⟨2,by omega,by simp,lX.out,by first|assumption|exact HB.out.alloc HB.out.size _⟩
   case measure=>simp[intOf]
  ·have hn:T=kG c ((248,255)::pH.drop 3):=HN.out
   by_cases h:248<=c∧c<=255
   ·rw[iy (r:=(248,255)) h]at hn
    subst hn
    go_wp2_with (first|(refine cm rfl 220 _ _ rfl _ _ _ rfl rfl ES ?_)|(go_at_call 228;first|(refine(fz _ _ _ _ (by omega)).mono ?_;rintro e w2 ⟨rfl,rfl⟩)|(refine(fy _ _ _ _ (by omega)).mono ?_;rintro e w2 ⟨rfl,rfl⟩))|fail)
    go_ret
    exact⟨rfl,by first|assumption|exact HB.out.alloc HB.out.size _⟩
   rw[ix (r:=(248,255)) h]at hn
   have lX:=h_ hn;clear hn
   go_wp2_with (first|(refine cm rfl 220 _ _ rfl _ _ _ rfl rfl ES ?_)|(go_at_call 228;first|(refine(fz _ _ _ _ (by omega)).mono ?_;rintro e w2 ⟨rfl,rfl⟩)|(refine(fy _ _ _ _ (by omega)).mono ?_;rintro e w2 ⟨rfl,rfl⟩))|fail)
   go_roundw
   case rel=>exact⟨3,by omega,by simp,lX.out,by first|assumption|exact HB.out.alloc HB.out.size _⟩
   case measure=>simp[intOf]
  ·have hn:T=kG c ((257,303)::pH.drop 4):=HN.out
   by_cases h:257<=c∧c<=303
   ·rw[iy (r:=(257,303)) h]at hn
    subst hn
    go_wp2_with (first|(refine cm rfl 220 _ _ rfl _ _ _ rfl rfl ET ?_)|(go_at_call 228;first|(refine(fz _ _ _ _ (by omega)).mono ?_;rintro e w2 ⟨rfl,rfl⟩)|(refine(fy _ _ _ _ (by omega)).mono ?_;rintro e w2 ⟨rfl,rfl⟩))|fail)
    go_ret
    exact⟨rfl,by first|assumption|exact HB.out.alloc HB.out.size _⟩
   rw[ix (r:=(257,303)) h]at hn
   have lX:=h_ hn;clear hn
   go_wp2_with (first|(refine cm rfl 220 _ _ rfl _ _ _ rfl rfl ET ?_)|(go_at_call 228;first|(refine(fz _ _ _ _ (by omega)).mono ?_;rintro e w2 ⟨rfl,rfl⟩)|(refine(fy _ _ _ _ (by omega)).mono ?_;rintro e w2 ⟨rfl,rfl⟩))|fail)
   go_roundw
   case rel=>exact⟨4,by omega,by simp,lX.out,by first|assumption|exact HB.out.alloc HB.out.size _⟩
   case measure=>simp[intOf]
  ·have hn:T=kG c ((768,879)::pH.drop 5):=HN.out
   by_cases h:768<=c∧c<=879
   ·rw[iy (r:=(768,879)) h]at hn
    subst hn
    go_wp2_with (first|(refine cm rfl 220 _ _ rfl _ _ _ rfl rfl EU ?_)|(go_at_call 228;first|(refine(fz _ _ _ _ (by omega)).mono ?_;rintro e w2 ⟨rfl,rfl⟩)|(refine(fy _ _ _ _ (by omega)).mono ?_;rintro e w2 ⟨rfl,rfl⟩))|fail)
    go_ret
    exact⟨rfl,by first|assumption|exact HB.out.alloc HB.out.size _⟩
   rw[ix (r:=(768,879)) h]at hn
   have lX:=h_ hn;clear hn
   go_wp2_with (first|(refine cm rfl 220 _ _ rfl _ _ _ rfl rfl EU ?_)|(go_at_call 228;first|(refine(fz _ _ _ _ (by omega)).mono ?_;rintro e w2 ⟨rfl,rfl⟩)|(refine(fy _ _ _ _ (by omega)).mono ?_;rintro e w2 ⟨rfl,rfl⟩))|fail)
   go_roundw
   case rel=>exact⟨5,by omega,by simp,lX.out,by first|assumption|exact HB.out.alloc HB.out.size _⟩
   case measure=>simp[intOf]
  ·have hn:T=kG c ((945,969)::pH.drop 6):=HN.out
   by_cases h:945<=c∧c<=969
   ·rw[iy (r:=(945,969)) h]at hn
    subst hn
    go_wp2_with (first|(refine cm rfl 220 _ _ rfl _ _ _ rfl rfl EV ?_)|(go_at_call 228;first|(refine(fz _ _ _ _ (by omega)).mono ?_;rintro e w2 ⟨rfl,rfl⟩)|(refine(fy _ _ _ _ (by omega)).mono ?_;rintro e w2 ⟨rfl,rfl⟩))|fail)
    go_ret
    exact⟨rfl,by first|assumption|exact HB.out.alloc HB.out.size _⟩
   rw[ix (r:=(945,969)) h]at hn
   have lX:=h_ hn;clear hn
   go_wp2_with (first|(refine cm rfl 220 _ _ rfl _ _ _ rfl rfl EV ?_)|(go_at_call 228;first|(refine(fz _ _ _ _ (by omega)).mono ?_;rintro e w2 ⟨rfl,rfl⟩)|(refine(fy _ _ _ _ (by omega)).mono ?_;rintro e w2 ⟨rfl,rfl⟩))|fail)
   go_roundw
   case rel=>exact⟨6,by omega,by simp,lX.out,by first|assumption|exact HB.out.alloc HB.out.size _⟩
   case measure=>simp[intOf]
  ·have hn:T=kG c ((1072,1119)::pH.drop 7):=HN.out
   by_cases h:1072<=c∧c<=1119
   ·rw[iy (r:=(1072,1119)) h]at hn
    subst hn
    go_wp2_with (first|(refine cm rfl 220 _ _ rfl _ _ _ rfl rfl EX ?_)|(go_at_call 228;first|(refine(fz _ _ _ _ (by omega)).mono ?_;rintro e w2 ⟨rfl,rfl⟩)|(refine(fy _ _ _ _ (by omega)).mono ?_;rintro e w2 ⟨rfl,rfl⟩))|fail)
    go_ret
    exact⟨rfl,by first|assumption|exact HB.out.alloc HB.out.size _⟩
   rw[ix (r:=(1072,1119)) h]at hn
   have lX:=h_ hn;clear hn
   go_wp2_with (first|(refine cm rfl 220 _ _ rfl _ _ _ rfl rfl EX ?_)|(go_at_call 228;first|(refine(fz _ _ _ _ (by omega)).mono ?_;rintro e w2 ⟨rfl,rfl⟩)|(refine(fy _ _ _ _ (by omega)).mono ?_;rintro e w2 ⟨rfl,rfl⟩))|fail)
   go_roundw
   case rel=>exact⟨7,by omega,by simp,lX.out,by first|assumption|exact HB.out.alloc HB.out.size _⟩
   case measure=>simp[intOf]
  ·have hn:T=kG c ((12353,12438)::pH.drop 8):=HN.out
   by_cases h:12353<=c∧c<=12438
   ·rw[iy (r:=(12353,12438)) h]at hn
    subst hn
    go_wp2_with (first|(refine cm rfl 220 _ _ rfl _ _ _ rfl rfl EY ?_)|(go_at_call 228;first|(refine(fz _ _ _ _ (by omega)).mono ?_;rintro e w2 ⟨rfl,rfl⟩)|(refine(fy _ _ _ _ (by omega)).mono ?_;rintro e w2 ⟨rfl,rfl⟩))|fail)
    go_ret
    exact⟨rfl,by first|assumption|exact HB.out.alloc HB.out.size _⟩
   rw[ix (r:=(12353,12438)) h]at hn
   have lX:=h_ hn;clear hn
   go_wp2_with (first|(refine cm rfl 220 _ _ rfl _ _ _ rfl rfl EY ?_)|(go_at_call 228;first|(refine(fz _ _ _ _ (by omega)).mono ?_;rintro e w2 ⟨rfl,rfl⟩)|(refine(fy _ _ _ _ (by omega)).mono ?_;rintro e w2 ⟨rfl,rfl⟩))|fail)
   go_roundw
   case rel=>exact⟨8,by omega,by simp,lX.out,by first|assumption|exact HB.out.alloc HB.out.size _⟩
   case measure=>simp[intOf]
  ·have hn:T=kG c ((12449,12538)::pH.drop 9):=HN.out
   by_cases h:12449<=c∧c<=12538
   ·rw[iy (r:=(12449,12538)) h]at hn
    subst hn
    go_wp2_with (first|(refine cm rfl 220 _ _ rfl _ _ _ rfl rfl EZ ?_)|(go_at_call 228;first|(refine(fz _ _ _ _ (by omega)).mono ?_;rintro e w2 ⟨rfl,rfl⟩)|(refine(fy _ _ _ _ (by omega)).mono ?_;rintro e w2 ⟨rfl,rfl⟩))|fail)
    go_ret
    exact⟨rfl,by first|assumption|exact HB.out.alloc HB.out.size _⟩
   rw[ix (r:=(12449,12538)) h]at hn
   have lX:=h_ hn;clear hn
   go_wp2_with (first|(refine cm rfl 220 _ _ rfl _ _ _ rfl rfl EZ ?_)|(go_at_call 228;first|(refine(fz _ _ _ _ (by omega)).mono ?_;rintro e w2 ⟨rfl,rfl⟩)|(refine(fy _ _ _ _ (by omega)).mono ?_;rintro e w2 ⟨rfl,rfl⟩))|fail)
   go_roundw
   case rel=>exact⟨9,by omega,by simp,lX.out,by first|assumption|exact HB.out.alloc HB.out.size _⟩
   case measure=>simp[intOf]
  ·have hn:T=kG c ((19968,40959)::pH.drop 10):=HN.out
   by_cases h:19968<=c∧c<=40959
   ·rw[iy (r:=(19968,40959)) h]at hn
    subst hn
    go_wp2_with (first|(refine cm rfl 220 _ _ rfl _ _ _ rfl rfl E0 ?_)|(go_at_call 228;first|(refine(fz _ _ _ _ (by omega)).mono ?_;rintro e w2 ⟨rfl,rfl⟩)|(refine(fy _ _ _ _ (by omega)).mono ?_;rintro e w2 ⟨rfl,rfl⟩))|fail)
    go_ret
    exact⟨rfl,by first|assumption|exact HB.out.alloc HB.out.size _⟩
   rw[ix (r:=(19968,40959)) h]at hn
   have lX:=h_ hn;clear hn
   go_wp2_with (first|(refine cm rfl 220 _ _ rfl _ _ _ rfl rfl E0 ?_)|(go_at_call 228;first|(refine(fz _ _ _ _ (by omega)).mono ?_;rintro e w2 ⟨rfl,rfl⟩)|(refine(fy _ _ _ _ (by omega)).mono ?_;rintro e w2 ⟨rfl,rfl⟩))|fail)
   go_roundw
   case rel=>exact⟨10,by omega,by simp,lX.out,by first|assumption|exact HB.out.alloc HB.out.size _⟩
   case measure=>simp[intOf]
  ·have hn:T=kG c ((44032,55203)::pH.drop 11):=HN.out
   by_cases h:44032<=c∧c<=55203
   ·rw[iy (r:=(44032,55203)) h]at hn
    subst hn
    go_wp2_with (first|(refine cm rfl 220 _ _ rfl _ _ _ rfl rfl z3 ?_)|(go_at_call 228;first|(refine(fz _ _ _ _ (by omega)).mono ?_;rintro e w2 ⟨rfl,rfl⟩)|(refine(fy _ _ _ _ (by omega)).mono ?_;rintro e w2 ⟨rfl,rfl⟩))|fail)
    go_ret
    exact⟨rfl,by first|assumption|exact HB.out.alloc HB.out.size _⟩
   rw[ix (r:=(44032,55203)) h]at hn
   have lX:=h_ hn;clear hn
   go_wp2_with (first|(refine cm rfl 220 _ _ rfl _ _ _ rfl rfl z3 ?_)|(go_at_call 228;first|(refine(fz _ _ _ _ (by omega)).mono ?_;rintro e w2 ⟨rfl,rfl⟩)|(refine(fy _ _ _ _ (by omega)).mono ?_;rintro e w2 ⟨rfl,rfl⟩))|fail)
   go_roundw
   case rel=>exact⟨11,by omega,by simp,lX.out,by first|assumption|exact HB.out.alloc HB.out.size _⟩
   case measure=>simp[intOf]
  ·have hn:T=kG c ((127744,128511)::pH.drop 12):=HN.out
   by_cases h:127744<=c∧c<=128511
   ·rw[iy (r:=(127744,128511)) h]at hn
    subst hn
    go_wp2_with (first|(refine cm rfl 220 _ _ rfl _ _ _ rfl rfl z4 ?_)|(go_at_call 228;first|(refine(fz _ _ _ _ (by omega)).mono ?_;rintro e w2 ⟨rfl,rfl⟩)|(refine(fy _ _ _ _ (by omega)).mono ?_;rintro e w2 ⟨rfl,rfl⟩))|fail)
    go_ret
    exact⟨rfl,by first|assumption|exact HB.out.alloc HB.out.size _⟩
   rw[ix (r:=(127744,128511)) h]at hn
   have lX:=h_ hn;clear hn
   go_wp2_with (first|(refine cm rfl 220 _ _ rfl _ _ _ rfl rfl z4 ?_)|(go_at_call 228;first|(refine(fz _ _ _ _ (by omega)).mono ?_;rintro e w2 ⟨rfl,rfl⟩)|(refine(fy _ _ _ _ (by omega)).mono ?_;rintro e w2 ⟨rfl,rfl⟩))|fail)
   go_roundw
   case rel=>exact⟨12,by omega,by simp,lX.out,by first|assumption|exact HB.out.alloc HB.out.size _⟩
   case measure=>simp[intOf]
  have hf:T=false:=HN.out
  subst hf
  go_wp2_with fail
  go_ret
  exact⟨rfl,HB.out⟩

theorem NL {c:Int}:(bs (cf (mJ c))).toList.isEmpty=decide (mJ c=[]):=by
 rw[au]
 cases h:mJ c with
 |nil=>simp[cf]
 |cons x r =>
  rw[dV]
  have:=(jT x).1
  cases he:enc x with
  |nil=>rw[he]at this;simp at this
  |cons y s=>simp
theorem Qt {c:Int} (h:mJ c ≠ []):fT c=(cf (mJ c),2):=by unfold fT;rw[if_pos h]
theorem Hf {c:Int} (h:mJ c=[]) (h2:Co c=true):fT c=([],3):=by unfold fT;rw[if_neg (by simp[h]),if_pos h2]
theorem CX {c:Int} (h:mJ c=[]) (h2:Co c=false) (h3:Tv c=true):fT c=(enc c,1):=by unfold fT;rw[if_neg (by simp[h]),if_neg (by simp[h2]),if_pos h3]
theorem Hg {c:Int} (h:mJ c=[]) (h2:Co c=false) (h3:Tv c=false):fT c=([],0):=by unfold fT;rw[if_neg (by simp[h]),if_neg (by simp[h2]),if_neg (by simp[h3])]
theorem rY {a:Bytes} {k:Int} {t:Bytes×Int} (h:t=(a,k)):Ending.returned (.tuple #[.string (bs a),.int .i64 k])=.returned (.tuple #[S t.1,.int .i64 t.2]):=by subst h;rfl
theorem Hh (c:Int):(∃b,mJ c ≠ []∧(bs (cf (mJ c))).toList.isEmpty=false∧b=cf (mJ c)∧fT c=(b,2))∨(mJ c=[]∧Co c=true∧fT c=([],3))∨(mJ c=[]∧Co c=false∧Tv c=true∧fT c=(enc c,1))∨(mJ c=[]∧Co c=false∧Tv c=false∧fT c=([],0)):=by
 by_cases h:mJ c=[]
 ·right
  cases h2:Co c
  ·right
   cases h3:Tv c
   ·exact .inr ⟨h,rfl,rfl,Hg h h2 h3⟩
   exact .inl ⟨h,rfl,rfl,CX h h2 h3⟩
  exact .inl ⟨h,rfl,Hf h h2⟩
 exact .inl ⟨_,h,by rw[NL];simp[h],rfl,Qt h⟩
theorem E9 (c:Int) (w:World):Calls prog 209 #[.int .i64 c] w fun e w'=>e=.returned (.tuple #[S (fT c).1,.int .i64 (fT c).2])∧Below w.heap.size w w':=by
 have ho:=fun W=>Hp c W
 have hg:=fun W=>Lv c W
 have hv:=fun W=>It c W
 obtain⟨M,hM⟩:=ap (fT c)
 rw[<-hM]
 rcases Hh c with⟨b,h,h2,h3,e⟩|⟨h,h2,e⟩|⟨h,h2,h3,e⟩|⟨h,h2,h3,e⟩
 all_goals rw[<-hM]at e
 ·rw[<-h3]at ho h2
  have HM:=h_ e;clear e hM h h3
  have HO:=h_ ho;clear ho hg hv
  go_enter func209,ntmps209
  go_wp2_with (first|(go_at_call 218;refine(HO.out _).mono ?_;rintro e w2 ⟨rfl,rfl⟩)|fail)
  go_ret2
  exact⟨rY HM.out,Below.refl _ _⟩
 ·rw[h]at ho
  rw[h2]at hg
  have hem:(bs (cf [])).toList.isEmpty=true:=by rw[au];rfl
  have HM:=h_ e;clear e hM h h2
  have HO:=h_ ho;clear ho
  have HG:=h_ hg;clear hg hv
  go_enter func209,ntmps209
  go_wp2_with (first|(go_at_call 218;refine(HO.out _).mono ?_;rintro e w2 ⟨rfl,rfl⟩)|(go_at_call 219;refine(HG.out _).mono ?_;rintro e w2 ⟨rfl,rfl⟩)|fail)
  go_ret2
  exact⟨rY (a:=[]) HM.out,Below.refl _ _⟩
 ·rw[h]at ho
  rw[h2]at hg
  rw[h3]at hv
  have hem:(bs (cf [])).toList.isEmpty=true:=by rw[au];rfl
  have HM:=h_ e;clear e hM h h2 h3
  have HO:=h_ ho;clear ho
  have HG:=h_ hg;clear hg
  have HV:=h_ hv;clear hv
  go_enter func209,ntmps209
  go_wp2_with (first|(go_at_call 218;refine(HO.out _).mono ?_;rintro e w2 ⟨rfl,rfl⟩)|(go_at_call 219;refine(HG.out _).mono ?_;rintro e w2 ⟨rfl,rfl⟩)|(go_at_call 220;refine(HV.out _).mono ?_;rintro e w2 ⟨rfl,hb2⟩;have HB2:=h_ hb2;clear hb2)|(go_at_call 45;refine(eU _ _).mono ?_;rintro e w3 ⟨rfl,rfl⟩)|fail)
  go_ret2
  exact⟨rY HM.out,HB2.out⟩
 rw[h]at ho
 rw[h2]at hg
 rw[h3]at hv
 have hem:(bs (cf [])).toList.isEmpty=true:=by rw[au];rfl
 have HM:=h_ e;clear e hM h h2 h3
 have HO:=h_ ho;clear ho
 have HG:=h_ hg;clear hg
 have HV:=h_ hv;clear hv
 go_enter func209,ntmps209
 go_wp2_with (first|(go_at_call 218;refine(HO.out _).mono ?_;rintro e w2 ⟨rfl,rfl⟩)|(go_at_call 219;refine(HG.out _).mono ?_;rintro e w2 ⟨rfl,rfl⟩)|(go_at_call 220;refine(HV.out _).mono ?_;rintro e w2 ⟨rfl,hb2⟩;have HB2:=h_ hb2;clear hb2)|fail)
 go_ret2
 exact⟨rY (a:=[]) HM.out,HB2.out⟩

theorem Rc (c:Int):(mJ c).length<=3:=by
 rcases AG c with h|h|h|h|h|h|h|h|h|h|h|h|h <;>(obtain⟨_,h⟩:=h;first|(rw[h];simp)|(obtain⟨_,h⟩:=h;rw[h];simp))
def MR (c:Int):Bool:=decide ((fT c).2=1∧c≠46)
def Gx (c:Int):Bool:=decide (127<c)
def frs (l:List Int):Bool:=match l with | []=>false|x::_=>!decide (0x300<=x∧x<=0x36f)
def pr (l:List Int):Bool:=frs l&&l.all MR&&l.any Gx
theorem Qg {l:List Int} {k:Nat} (h:k<l.length) (hb:MR l[k]=false):pr l=false:=by
 have:l.all MR=false:=by
  rw[List.all_eq_false]
  exact⟨_,bJ h,by rw[hb];simp⟩
 unfold pr;rw[this];simp
theorem Qh {l:List Int} (h:l.all MR=true):pr l=(frs l&&l.any Gx):=by unfold pr;rw[h];simp
theorem Lq {l:List Int} (h:0<l.length):frs l=!decide ((0x300:Int)<=l[0]∧l[0]<=(0x36f:Int)):=by
 cases l with
 |nil=>simp at h
 |cons x r=>rfl
theorem vj {l:List Int} {k:Nat} {f:Int->Bool} (h:k<l.length) (ha:(l.take k).all f=true) (hb:f l[k]=true):(l.take (k+1)).all f=true:=by
 rw[aH h,List.all_append,ha];simp[hb]
theorem FZ {l:List Int} {k:Nat} {f:Int->Bool} (h:k<l.length):(l.take (k+1)).any f=((l.take k).any f||f l[k]):=by
 rw[aH h,List.any_append];simp
theorem V0 {c:Int} (h:(fT c).2≠1):MR c=false:=decide_eq_false (fun h2=>h h2.1)
theorem V1:MR 46=false:=decide_eq_false (fun h2=>h2.2 rfl)
theorem a0e {c:Int} (h:(fT c).2=1) (h2:c≠46):MR c=true:=decide_eq_true ⟨h,h2⟩
theorem qw (l:List Int) (v:Value) (w:World) (h:Sl w.heap.size w v (dw l)) :
  Calls prog 224 #[v] w fun e w'=>e=.returned (.bool (pr l))∧Below w.heap.size w w':=by
 obtain⟨av,c,rfl⟩:=dt h
 have Y8:l.length<=maxLen:=by
  obtain⟨c1,h1,h2,_⟩:=h
  have h3:(dw l).length=l.length:=by simp
  omega
 unfold maxLen at Y8
 rw[show(dw l).length=l.length by simp]at h ⊢
 have hat:=uf h
 clear h
 have HAT:=h_ hat;clear hat
 obtain⟨T,hT⟩:=ap (pr l)
 rw[<-hT]
 have hbad:=fun k (hk:k<l.length) (hb:MR l[k]=false)=>hT.trans (Qg hk hb)
 have hend:=fun(h:l.all MR=true)=>hT.trans (Qh h)
 have HBAD:=h_ hbad;clear hbad
 have Xz:=h_ hend;clear hend
 by_cases h0:l.length=0
 ·obtain rfl:l=[]:=am h0
  have hf:T=false:=hT
  subst hf
  clear hT HAT HBAD Xz
  simp only[aQ]
  go_enter func224,ntmps224
  go_wp2_with fail
  go_ret
  exact⟨rfl,Below.refl _ _⟩
 have hp:0<l.length:=by omega
 obtain⟨x0,hx0⟩:=ap (l[0]'hp)
 have hfr:=Lq hp
 obtain⟨b,o,rfl,hb,hc0⟩:=HAT.out 0 hp
 rw[<-hx0]at hfr hc0
 clear hx0
 have LJ:0x300<=x0∧x0<=0x36f->T=false:=fun h=>by rw[hT];unfold pr;rw[hfr,decide_eq_true h];simp
 obtain⟨L,hL⟩:=ap (l.length)
 rw[<-hL]at Y8 hp ⊢
 have hL0:0<L:=hp
 have HL:=h_ hL;clear hL h0 hp
 rw[d8]at hc0
 have RC:=h_ hfr;clear hfr hT
 have HF1:=h_ LJ;clear LJ
 have q0:((L:Int)==0)=false:=by simp;omega
 by_cases hx0:0x300<=x0∧x0<=0x36f
 ·have hf:=HF1.out hx0
  subst hf
  go_enter func224,ntmps224
  go_wp2_with (first|(go_at_call 228;refine(fz _ _ _ _ hx0).mono ?_;rintro e w2 ⟨rfl,rfl⟩)|fail)
  go_ret
  exact⟨rfl,Below.refl _ _⟩
 have HX0:=h_ hx0;clear hx0
 go_enter func224,ntmps224
 go_wp2_with (first|(go_at_call 228;refine(fy _ _ _ _ HX0.out).mono ?_;rintro e w2 ⟨rfl,rfl⟩)|fail)
 go_loopw [3,19] (fun av iv wr=>∃ k:Nat,k<=L∧iv=.int .i64 k∧av=.bool ((l.take k).any Gx)∧(l.take k).all MR=true∧Below w.heap.size w wr) (fun _ i _=>L-(intOf i).toNat)
 case atStart=>exact⟨0,by omega,by simp,by simp,by simp,Below.refl _ _⟩
 case round =>
  obtain⟨k,hk,rfl,rfl,hall,hbl⟩:=hrel
  have HA:=h_ hall;clear hall
  have HB:=h_ hbl;clear hbl
  by_cases hlt:k<L
  ·have hx:k<l.length:=by have:=HL.out;omega
   obtain⟨b',o',Zi,hb',hcell0⟩:=HAT.out k hx
   obtain⟨rfl,rfl⟩:b=b'∧o=o':=by simpa using Zi
   have hcell:wr.cell? ⟨b,o+k,none⟩=some (.int .i64 l[k]):=by rw[(HB.out).cell (p:=⟨b,o+k,none⟩) hb,hcell0]
   clear hcell0 Zi hb' hc0
   have hs1:=fun h=>vj (f:=MR) hx HA.out h
   have hs2:=FZ (f:=Gx) hx
   have hbd:=HBAD.out k hx
   obtain⟨x,kL⟩:=ap (l[k])
   rw[<-kL]at hcell hs1 hs2 hbd
   clear kL
   have hma:=fun W=>E9 x W
   obtain⟨K,hK⟩:=ap ((fT x).2)
   obtain⟨B,hB⟩:=ap ((fT x).1)
   have hk1:=fun h:K≠1=>hbd (V0 (by rw[<-hK];exact h))
   have hk2:=fun h:x=46=>hbd (by rw[h];exact V1)
   have hk3:=fun(h:K=1) (h2:x≠46)=>hs1 (a0e (by rw[<-hK];exact h) h2)
   rw[<-hK,<-hB]at hma
   clear hbd hs1 hK hB
   have WM:=h_ hma;clear hma
   have Od:=h_ hk1;clear hk1
   have Oe:=h_ hk2;clear hk2
   have HK3:=h_ hk3;clear hk3
   have HS2:=h_ hs2;clear hs2
   by_cases Y6:K=1
   ·by_cases hxe:x=46
    ·have hf:=Oe.out hxe
     subst hf
     subst Y6
     subst hxe
     go_wp2_with (first|(go_at_call 209;refine(WM.out _).mono ?_;rintro e w3 ⟨rfl,hb3⟩;have HB3:=h_ (HB.out.trans (hb3.mono HB.out.size));clear hb3)|fail)
     go_ret
     exact⟨rfl,HB3.out⟩
    have zS:=HK3.out Y6 hxe
    have HA2:=h_ zS;clear zS
    have q1:(x==46)=false:=by simp[hxe]
    subst Y6
    clear hxe
    obtain⟨m,hm⟩:=ap ((l.take k).any Gx)
    rw[<-hm]at HS2 ⊢
    clear hm
    have hcs:m=true∨(m=false∧127<x)∨(m=false∧x<=127):=by
     cases m
     ·right;simp only[true_and];omega
     exact .inl rfl
    rcases hcs with rfl|⟨rfl,hf⟩|⟨rfl,hf⟩
    all_goals
     go_wp2_with (first|(go_at_call 209;refine(WM.out _).mono ?_;rintro e w3 ⟨rfl,hb3⟩;have HB3:=h_ (HB.out.trans (hb3.mono HB.out.size));clear hb3)|fail)
     go_roundw
     case rel=>exact⟨k+1,by omega,by simp,by rw[HS2.out];unfold Gx;simp <;>omega,HA2.out,HB3.out⟩
     case measure=>simp[intOf];omega
   have hf:=Od.out Y6
   subst hf
   have q1:(K != 1)=true:=by simp[Y6]
   go_wp2_with (first|(go_at_call 209;refine(WM.out _).mono ?_;rintro e w3 ⟨rfl,hb3⟩;have HB3:=h_ (HB.out.trans (hb3.mono HB.out.size));clear hb3)|fail)
   go_ret
   exact⟨rfl,HB3.out⟩
  obtain rfl:L=k:=by omega
  have hall:=HA.out
  rw[aI (by have:=HL.out;omega)]at hall ⊢
  have hT:=Xz.out hall
  rw[RC.out,decide_eq_false HX0.out]at hT
  have HT:=h_ hT;clear hT hall
  go_wp2_with fail
  go_ret
  exact⟨dK (by rw[HT.out];simp),HB.out⟩

def py (b:Bytes):Bool:=b.all (fun x=>decide (b2 x<0x80))
theorem GU (b:Bytes) (w:World) (hl:b.length<=maxLen):Calls prog 222 #[.string (bs b)] w fun e w'=>e=.returned (.bool (py b))∧w=w':=by
 unfold maxLen at hl
 obtain⟨s,hs⟩:=ap (bs b)
 have hsz:s.size=b.length:=by rw[hs,aB]
 obtain⟨T,hT⟩:=ap (py b)
 rw[<-hs,<-hT]
 have hbad:∀ k (hk:k<b.length),0x80<=b2 b[k]->T=false:=by
  intro k hk h
  rw[hT];unfold py
  rw[List.all_eq_false]
  exact⟨_,bJ hk,by simp;omega⟩
 have hok:(∀k (hk:k<b.length),b2 b[k]<0x80)->T=true:=by
  intro h
  rw[hT];unfold py
  rw[ch]
  intro x hx
  obtain⟨k,hk,rfl⟩:=dQ hx
  exact decide_eq_true (h k hk)
 clear hT
 obtain⟨L,hL⟩:=ap (b.length)
 rw[<-hL]at hl hsz
 have HL:=h_ hL;clear hL
 have HS:=h_ hs;clear hs
 have HBAD:=h_ hbad;clear hbad
 have RH:=h_ hok;clear hok
 go_enter func222,ntmps222
 go_wp2_with fail
 go_loopw [6] (fun iv wr=>∃ k:Nat,k<=L∧iv=.int .i64 k∧(∀j (hj:j<b.length),j<k->b2 b[j]<0x80)∧w=wr) (fun i _=>L-(intOf i).toNat)
 case atStart=>exact⟨0,by omega,by simp,fun j _ h=>by omega,rfl⟩
 case round =>
  obtain⟨k,hk,rfl,hall,rfl⟩:=hrel
  have HA:=h_ hall;clear hall
  by_cases hlt:k<L
  ·have hx:k<b.length:=by have:=HL.out;omega
   have hk2:k<s.size:=by omega
   have hxe:((s[k]'hk2).toNat:Int)=b2 b[k]:=bV HS.out hk2 hx
   have hb:=HBAD.out k hx
   have hstep:((s[k]'hk2).toNat:Int)<0x80->∀ j (hj:j<b.length),j<k+1->b2 b[j]<0x80:=by
    intro h j hj h2
    by_cases hjk:j=k
    ·subst hjk;rw[<-hxe];exact h
    exact HA.out j hj (by omega)
   rw[<-hxe]at hb
   clear hxe
   have lW:=h_ hb;clear hb
   have HST:=h_ hstep;clear hstep
   have hcs:((s[k]'hk2).toNat:Int)<0x80∨0x80<=((s[k]'hk2).toNat:Int):=by omega
   rcases hcs with hc|hc
   ·go_wp2_with fail
    go_roundw
    case rel=>exact⟨k+1,by omega,by simp,HST.out hc,trivial⟩
    case measure=>simp[intOf];omega
   have hf:=lW.out hc
   subst hf
   go_wp2_with fail
   go_ret
   exact⟨rfl,rfl⟩
  have ht:=RH.out (fun j hj=>HA.out j hj (by have:=HL.out;omega))
  subst ht
  go_wp2_with fail
  go_ret
  exact⟨rfl,rfl⟩
end Go.Proofs.YtmndlfglgcioeaaGreatDoor
