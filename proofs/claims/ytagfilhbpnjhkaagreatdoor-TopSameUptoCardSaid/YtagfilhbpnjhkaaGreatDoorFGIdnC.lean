import Derived.Test.YtagfilhbpnjhkaaGreatDoorFGEntC
set_option maxRecDepth 10000
set_option maxHeartbeats 0
namespace Go.Proofs.Q
open Tryz Go.RowKit
def FN(c:Int):Bool:=decide (c=173\/c=8203\/c=8288\/c=65279)
def iB(c:Int):Prop:=(0<=c/\c<=127)\/(223<=c/\c<=246)\/(248<=c/\c<=255)\/(257<=c/\c<=303)\/(768<=c/\c<=879)\/(945<=c/\c<=969)\/(1072<=c/\c<=1119)\/(12353<=c/\c<=12438)\/(12449<=c/\c<=12538)\/(19968<=c/\c<=40959)\/(44032<=c/\c<=55203)\/(127744<=c/\c<=128511)
def lX(c:Int):List (Int×Int)->Bool
 | []=>false
 |r::rs=>if r.1<=c/\c<=r.2 then true else lX c rs
def rl:List (Int×Int):=[(0,127),(223,246),(248,255),(257,303),(768,879),(945,969),(1072,1119),(12353,12438),(12449,12538),(19968,40959),(44032,55203),(127744,128511)]
def Yc(c:Int):Bool:=lX c rl
theorem a8d(c:Int):∀rs:List (Int×Int),lX c rs=true ↔ ∃r∈rs,r.1<=c/\c<=r.2
 | []=>by simp[lX]
 |r::rs=>by
  unfold lX;by_cases h:r.1<=c/\c<=r.2
  ·rw[ge h];simp[h]
  rw[gc h,a8d c rs];simp[h]
theorem b2a(c:Int):Yc c=true ↔ iB c:=by
 unfold Yc iB;rw[a8d];simp[rl]
def gV(c:Int):O×Int:=if oE c ≠ []then(fp (oE c),2)else if FN c=true then([],3)else if Yc c=true then(enc c,1)else([],0)
theorem Pt(c:Int):((c=173/\FN c=true)\/(c=8203/\FN c=true)\/(c=8288/\FN c=true)\/(c=65279/\FN c=true))\/(¬(c=173\/c=8203\/c=8288\/c=65279)/\FN c=false):=by
 by_cases h:c=173\/c=8203\/c=8288\/c=65279
 ·left;unfold FN;rcases h with rfl|rfl|rfl|rfl <;>simp
 right;exact⟨h,gh h⟩
theorem Pv(c:Int)(w:H):pa prog 254 #[.int .i64 c] w (.bool (FN c)):=by
 rcases Pt c with(⟨rfl,e⟩|⟨rfl,e⟩|⟨rfl,e⟩|⟨rfl,e⟩)|⟨h,e⟩
 iterate 4
  ·rw[e]
   clear e;go_enter func254,ntmps254;go_wp2_with fail;go_ret;exact⟨rfl,rfl⟩
 rw[e];clear e;have q0:(c==173)=false:=by simp;omega
 have q1:(c==8203)=false:=by simp;omega
 have q2:(c==8288)=false:=by simp;omega
 have q3:(c==65279)=false:=by simp;omega
 go_enter func254,ntmps254;go_wp2_with fail;go_ret;exact⟨rfl,rfl⟩
theorem c02(w:H):(Instr.alloc 241 true (Value.tuple #[])).run prog w=.ok (.pointer (some ⟨w.heap.size,0,none⟩)) (w.alloc (.cells #[.int .i64 0,.int .i64 0,.int .i64 0,.int .i64 0,.int .i64 0,.int .i64 0,.int .i64 0,.int .i64 0,.int .i64 0,.int .i64 0,.int .i64 0,.int .i64 0,.int .i64 0,.int .i64 0,.int .i64 0,.int .i64 0,.int .i64 0,.int .i64 0,.int .i64 0,.int .i64 0,.int .i64 0,.int .i64 0,.int .i64 0,.int .i64 0] 241)):=Rz
theorem XP:(prog.info? 241).map (·.size)=some 24:=Rz
theorem a44:(#[.int .i64 0,.int .i64 127,.int .i64 223,.int .i64 246,.int .i64 248,.int .i64 255,.int .i64 257,.int .i64 303,.int .i64 768,.int .i64 879,.int .i64 945,.int .i64 969,.int .i64 1072,.int .i64 1119,.int .i64 12353,.int .i64 12438,.int .i64 12449,.int .i64 12538,.int .i64 19968,.int .i64 40959,.int .i64 44032,.int .i64 55203,.int .i64 127744,.int .i64 128511]:Array Z).all (·.oneCell')=true:=Rz
theorem IV(w:H):(Instr.index 241 (.agg #[.int .i64 0,.int .i64 127,.int .i64 223,.int .i64 246,.int .i64 248,.int .i64 255,.int .i64 257,.int .i64 303,.int .i64 768,.int .i64 879,.int .i64 945,.int .i64 969,.int .i64 1072,.int .i64 1119,.int .i64 12353,.int .i64 12438,.int .i64 12449,.int .i64 12538,.int .i64 19968,.int .i64 40959,.int .i64 44032,.int .i64 55203,.int .i64 127744,.int .i64 128511]) (.int .i64 ((0:Nat):Int))).run prog w=.ok (.agg #[.int .i64 0,.int .i64 127]) w:=Rz
theorem IW(w:H):(Instr.index 241 (.agg #[.int .i64 0,.int .i64 127,.int .i64 223,.int .i64 246,.int .i64 248,.int .i64 255,.int .i64 257,.int .i64 303,.int .i64 768,.int .i64 879,.int .i64 945,.int .i64 969,.int .i64 1072,.int .i64 1119,.int .i64 12353,.int .i64 12438,.int .i64 12449,.int .i64 12538,.int .i64 19968,.int .i64 40959,.int .i64 44032,.int .i64 55203,.int .i64 127744,.int .i64 128511]) (.int .i64 ((1:Nat):Int))).run prog w=.ok (.agg #[.int .i64 223,.int .i64 246]) w:=Rz
theorem IY(w:H):(Instr.index 241 (.agg #[.int .i64 0,.int .i64 127,.int .i64 223,.int .i64 246,.int .i64 248,.int .i64 255,.int .i64 257,.int .i64 303,.int .i64 768,.int .i64 879,.int .i64 945,.int .i64 969,.int .i64 1072,.int .i64 1119,.int .i64 12353,.int .i64 12438,.int .i64 12449,.int .i64 12538,.int .i64 19968,.int .i64 40959,.int .i64 44032,.int .i64 55203,.int .i64 127744,.int .i64 128511]) (.int .i64 ((2:Nat):Int))).run prog w=.ok (.agg #[.int .i64 248,.int .i64 255]) w:=Rz
theorem Ja(w:H):(Instr.index 241 (.agg #[.int .i64 0,.int .i64 127,.int .i64 223,.int .i64 246,.int .i64 248,.int .i64 255,.int .i64 257,.int .i64 303,.int .i64 768,.int .i64 879,.int .i64 945,.int .i64 969,.int .i64 1072,.int .i64 1119,.int .i64 12353,.int .i64 12438,.int .i64 12449,.int .i64 12538,.int .i64 19968,.int .i64 40959,.int .i64 44032,.int .i64 55203,.int .i64 127744,.int .i64 128511]) (.int .i64 ((3:Nat):Int))).run prog w=.ok (.agg #[.int .i64 257,.int .i64 303]) w:=Rz
theorem Jb(w:H):(Instr.index 241 (.agg #[.int .i64 0,.int .i64 127,.int .i64 223,.int .i64 246,.int .i64 248,.int .i64 255,.int .i64 257,.int .i64 303,.int .i64 768,.int .i64 879,.int .i64 945,.int .i64 969,.int .i64 1072,.int .i64 1119,.int .i64 12353,.int .i64 12438,.int .i64 12449,.int .i64 12538,.int .i64 19968,.int .i64 40959,.int .i64 44032,.int .i64 55203,.int .i64 127744,.int .i64 128511]) (.int .i64 ((4:Nat):Int))).run prog w=.ok (.agg #[.int .i64 768,.int .i64 879]) w:=Rz
theorem Jc(w:H):(Instr.index 241 (.agg #[.int .i64 0,.int .i64 127,.int .i64 223,.int .i64 246,.int .i64 248,.int .i64 255,.int .i64 257,.int .i64 303,.int .i64 768,.int .i64 879,.int .i64 945,.int .i64 969,.int .i64 1072,.int .i64 1119,.int .i64 12353,.int .i64 12438,.int .i64 12449,.int .i64 12538,.int .i64 19968,.int .i64 40959,.int .i64 44032,.int .i64 55203,.int .i64 127744,.int .i64 128511]) (.int .i64 ((5:Nat):Int))).run prog w=.ok (.agg #[.int .i64 945,.int .i64 969]) w:=Rz
theorem Jd(w:H):(Instr.index 241 (.agg #[.int .i64 0,.int .i64 127,.int .i64 223,.int .i64 246,.int .i64 248,.int .i64 255,.int .i64 257,.int .i64 303,.int .i64 768,.int .i64 879,.int .i64 945,.int .i64 969,.int .i64 1072,.int .i64 1119,.int .i64 12353,.int .i64 12438,.int .i64 12449,.int .i64 12538,.int .i64 19968,.int .i64 40959,.int .i64 44032,.int .i64 55203,.int .i64 127744,.int .i64 128511]) (.int .i64 ((6:Nat):Int))).run prog w=.ok (.agg #[.int .i64 1072,.int .i64 1119]) w:=Rz
theorem Je(w:H):(Instr.index 241 (.agg #[.int .i64 0,.int .i64 127,.int .i64 223,.int .i64 246,.int .i64 248,.int .i64 255,.int .i64 257,.int .i64 303,.int .i64 768,.int .i64 879,.int .i64 945,.int .i64 969,.int .i64 1072,.int .i64 1119,.int .i64 12353,.int .i64 12438,.int .i64 12449,.int .i64 12538,.int .i64 19968,.int .i64 40959,.int .i64 44032,.int .i64 55203,.int .i64 127744,.int .i64 128511]) (.int .i64 ((7:Nat):Int))).run prog w=.ok (.agg #[.int .i64 12353,.int .i64 12438]) w:=Rz
theorem Jf(w:H):(Instr.index 241 (.agg #[.int .i64 0,.int .i64 127,.int .i64 223,.int .i64 246,.int .i64 248,.int .i64 255,.int .i64 257,.int .i64 303,.int .i64 768,.int .i64 879,.int .i64 945,.int .i64 969,.int .i64 1072,.int .i64 1119,.int .i64 12353,.int .i64 12438,.int .i64 12449,.int .i64 12538,.int .i64 19968,.int .i64 40959,.int .i64 44032,.int .i64 55203,.int .i64 127744,.int .i64 128511]) (.int .i64 ((8:Nat):Int))).run prog w=.ok (.agg #[.int .i64 12449,.int .i64 12538]) w:=Rz
theorem Jg(w:H):(Instr.index 241 (.agg #[.int .i64 0,.int .i64 127,.int .i64 223,.int .i64 246,.int .i64 248,.int .i64 255,.int .i64 257,.int .i64 303,.int .i64 768,.int .i64 879,.int .i64 945,.int .i64 969,.int .i64 1072,.int .i64 1119,.int .i64 12353,.int .i64 12438,.int .i64 12449,.int .i64 12538,.int .i64 19968,.int .i64 40959,.int .i64 44032,.int .i64 55203,.int .i64 127744,.int .i64 128511]) (.int .i64 ((9:Nat):Int))).run prog w=.ok (.agg #[.int .i64 19968,.int .i64 40959]) w:=Rz
theorem CV(w:H):(Instr.index 241 (.agg #[.int .i64 0,.int .i64 127,.int .i64 223,.int .i64 246,.int .i64 248,.int .i64 255,.int .i64 257,.int .i64 303,.int .i64 768,.int .i64 879,.int .i64 945,.int .i64 969,.int .i64 1072,.int .i64 1119,.int .i64 12353,.int .i64 12438,.int .i64 12449,.int .i64 12538,.int .i64 19968,.int .i64 40959,.int .i64 44032,.int .i64 55203,.int .i64 127744,.int .i64 128511]) (.int .i64 ((10:Nat):Int))).run prog w=.ok (.agg #[.int .i64 44032,.int .i64 55203]) w:=Rz
theorem CW(w:H):(Instr.index 241 (.agg #[.int .i64 0,.int .i64 127,.int .i64 223,.int .i64 246,.int .i64 248,.int .i64 255,.int .i64 257,.int .i64 303,.int .i64 768,.int .i64 879,.int .i64 945,.int .i64 969,.int .i64 1072,.int .i64 1119,.int .i64 12353,.int .i64 12438,.int .i64 12449,.int .i64 12538,.int .i64 19968,.int .i64 40959,.int .i64 44032,.int .i64 55203,.int .i64 127744,.int .i64 128511]) (.int .i64 ((11:Nat):Int))).run prog w=.ok (.agg #[.int .i64 127744,.int .i64 128511]) w:=Rz
theorem jI{c:Int}{r:Int×Int}{rs:List (Int×Int)}(h:r.1<=c/\c<=r.2):lX c (r::rs)=true:=by unfold lX;rw[ge h]
theorem jH{c:Int}{r:Int×Int}{rs:List (Int×Int)}(h:¬(r.1<=c/\c<=r.2)):lX c (r::rs)=lX c rs:=by rw[lX,gc h]
theorem ML(c:Int)(w:H):bF prog 255 #[.int .i64 c] w (.bool (Yc c)):=by
 obtain⟨T,q⟩:=ey (Yc c);rw[<-q.o];go_enter func255,ntmps255
 go_wp2_with(first|(refine aM rfl 241 rfl _ _ (c02 _) ?_)|(refine gy rfl 241 _ _ rfl #[.int .i64 0,.int .i64 127,.int .i64 223,.int .i64 246,.int .i64 248,.int .i64 255,.int .i64 257,.int .i64 303,.int .i64 768,.int .i64 879,.int .i64 945,.int .i64 969,.int .i64 1072,.int .i64 1119,.int .i64 12353,.int .i64 12438,.int .i64 12449,.int .i64 12538,.int .i64 19968,.int .i64 40959,.int .i64 44032,.int .i64 55203,.int .i64 127744,.int .i64 128511] _ _ rfl rfl XP rfl a44 ?_)|(refine vS rfl 241 _ rfl #[.int .i64 0,.int .i64 127,.int .i64 223,.int .i64 246,.int .i64 248,.int .i64 255,.int .i64 257,.int .i64 303,.int .i64 768,.int .i64 879,.int .i64 945,.int .i64 969,.int .i64 1072,.int .i64 1119,.int .i64 12353,.int .i64 12438,.int .i64 12449,.int .i64 12538,.int .i64 19968,.int .i64 40959,.int .i64 44032,.int .i64 55203,.int .i64 127744,.int .i64 128511] _ rfl _ underlying241 rfl XP ?_))
 go_loopw [20] (λiv wr=>∃k:Nat,k<=12/\iv=.int .i64 k/\T=lX c (rl.drop k)/\r7 w wr) (λi _=>12-(intOf i).toNat)
 exact⟨0,M0,Oc,q.o,(gT _ _).alloc (ag _) _⟩
 obtain⟨k,hk,rfl,l,j⟩:=hrel;have HB:=F j;clear j;have g:=F l;clear l;have p:k=0\/k=1\/k=2\/k=3\/k=4\/k=5\/k=6\/k=7\/k=8\/k=9\/k=10\/k=11\/k=12:=M0;rcases p with rfl|rfl|rfl|rfl|rfl|rfl|rfl|rfl|rfl|rfl|rfl|rfl|rfl
 ·have a:T=lX c ((0,127)::rl.drop 1):=g.o
  by_cases h:0<=c/\c<=127
  ·rw[jI (r:=(0,127)) h]at a
   subst a
   go_wp2_with(first|(refine cP rfl 241 _ _ rfl _ _ _ rfl rfl IV ?_)|(go_at_call 263;first|(refine(gu _ _ _ _ M0).e ?_)|(refine(gq _ _ _ _ M0).e ?_)))
   go_ret;exact⟨rfl,by first|assumption|exact HB.o.alloc HB.o.size _⟩
  rw[jH (r:=(0,127)) h]at a;have f:=F a;clear a
  go_wp2_with(first|(refine cP rfl 241 _ _ rfl _ _ _ rfl rfl IV ?_)|(go_at_call 263;first|(refine(gu _ _ _ _ M0).e ?_)|(refine(gq _ _ _ _ M0).e ?_)))
  go_roundw
  exact⟨1,M0,Oc,f.o,by first|assumption|exact HB.o.alloc HB.o.size _⟩
  simp[intOf]
 ·have a:T=lX c ((223,246)::rl.drop 2):=g.o
  by_cases h:223<=c/\c<=246
  ·rw[jI (r:=(223,246)) h]at a
   subst a
   go_wp2_with(first|(refine cP rfl 241 _ _ rfl _ _ _ rfl rfl IW ?_)|(go_at_call 263;first|(refine(gu _ _ _ _ M0).e ?_)|(refine(gq _ _ _ _ M0).e ?_)))
   go_ret;exact⟨rfl,by first|assumption|exact HB.o.alloc HB.o.size _⟩
  rw[jH (r:=(223,246)) h]at a;have f:=F a;clear a
  go_wp2_with(first|(refine cP rfl 241 _ _ rfl _ _ _ rfl rfl IW ?_)|(go_at_call 263;first|(refine(gu _ _ _ _ M0).e ?_)|(refine(gq _ _ _ _ M0).e ?_)))
  go_roundw
  exact⟨2,M0,Oc,f.o,by first|assumption|exact HB.o.alloc HB.o.size _⟩
  simp[intOf]
 ·have a:T=lX c ((248,255)::rl.drop 3):=g.o
  by_cases h:248<=c/\c<=255
  ·rw[jI (r:=(248,255)) h]at a
   subst a
   go_wp2_with(first|(refine cP rfl 241 _ _ rfl _ _ _ rfl rfl IY ?_)|(go_at_call 263;first|(refine(gu _ _ _ _ M0).e ?_)|(refine(gq _ _ _ _ M0).e ?_)))
   go_ret;exact⟨rfl,by first|assumption|exact HB.o.alloc HB.o.size _⟩
  rw[jH (r:=(248,255)) h]at a;have f:=F a;clear a
  go_wp2_with(first|(refine cP rfl 241 _ _ rfl _ _ _ rfl rfl IY ?_)|(go_at_call 263;first|(refine(gu _ _ _ _ M0).e ?_)|(refine(gq _ _ _ _ M0).e ?_)))
  go_roundw
  exact⟨3,M0,Oc,f.o,by first|assumption|exact HB.o.alloc HB.o.size _⟩
  simp[intOf]
 ·have a:T=lX c ((257,303)::rl.drop 4):=g.o
  by_cases h:257<=c/\c<=303
  ·rw[jI (r:=(257,303)) h]at a
   subst a
   go_wp2_with(first|(refine cP rfl 241 _ _ rfl _ _ _ rfl rfl Ja ?_)|(go_at_call 263;first|(refine(gu _ _ _ _ M0).e ?_)|(refine(gq _ _ _ _ M0).e ?_)))
   go_ret;exact⟨rfl,by first|assumption|exact HB.o.alloc HB.o.size _⟩
  rw[jH (r:=(257,303)) h]at a;have f:=F a;clear a
  go_wp2_with(first|(refine cP rfl 241 _ _ rfl _ _ _ rfl rfl Ja ?_)|(go_at_call 263;first|(refine(gu _ _ _ _ M0).e ?_)|(refine(gq _ _ _ _ M0).e ?_)))
  go_roundw
  exact⟨4,M0,Oc,f.o,by first|assumption|exact HB.o.alloc HB.o.size _⟩
  simp[intOf]
 ·have a:T=lX c ((768,879)::rl.drop 5):=g.o
  by_cases h:768<=c/\c<=879
  ·rw[jI (r:=(768,879)) h]at a
   subst a
   go_wp2_with(first|(refine cP rfl 241 _ _ rfl _ _ _ rfl rfl Jb ?_)|(go_at_call 263;first|(refine(gu _ _ _ _ M0).e ?_)|(refine(gq _ _ _ _ M0).e ?_)))
   go_ret;exact⟨rfl,by first|assumption|exact HB.o.alloc HB.o.size _⟩
  rw[jH (r:=(768,879)) h]at a;have f:=F a;clear a
  go_wp2_with(first|(refine cP rfl 241 _ _ rfl _ _ _ rfl rfl Jb ?_)|(go_at_call 263;first|(refine(gu _ _ _ _ M0).e ?_)|(refine(gq _ _ _ _ M0).e ?_)))
  go_roundw
  exact⟨5,M0,Oc,f.o,by first|assumption|exact HB.o.alloc HB.o.size _⟩
  simp[intOf]
 ·have a:T=lX c ((945,969)::rl.drop 6):=g.o
  by_cases h:945<=c/\c<=969
  ·rw[jI (r:=(945,969)) h]at a
   subst a
   go_wp2_with(first|(refine cP rfl 241 _ _ rfl _ _ _ rfl rfl Jc ?_)|(go_at_call 263;first|(refine(gu _ _ _ _ M0).e ?_)|(refine(gq _ _ _ _ M0).e ?_)))
   go_ret;exact⟨rfl,by first|assumption|exact HB.o.alloc HB.o.size _⟩
  rw[jH (r:=(945,969)) h]at a;have f:=F a;clear a
  go_wp2_with(first|(refine cP rfl 241 _ _ rfl _ _ _ rfl rfl Jc ?_)|(go_at_call 263;first|(refine(gu _ _ _ _ M0).e ?_)|(refine(gq _ _ _ _ M0).e ?_)))
  go_roundw
  exact⟨6,M0,Oc,f.o,by first|assumption|exact HB.o.alloc HB.o.size _⟩
  simp[intOf]
 ·have a:T=lX c ((1072,1119)::rl.drop 7):=g.o
  by_cases h:1072<=c/\c<=1119
  ·rw[jI (r:=(1072,1119)) h]at a
   subst a
   go_wp2_with(first|(refine cP rfl 241 _ _ rfl _ _ _ rfl rfl Jd ?_)|(go_at_call 263;first|(refine(gu _ _ _ _ M0).e ?_)|(refine(gq _ _ _ _ M0).e ?_)))
   go_ret;exact⟨rfl,by first|assumption|exact HB.o.alloc HB.o.size _⟩
  rw[jH (r:=(1072,1119)) h]at a;have f:=F a;clear a
  go_wp2_with(first|(refine cP rfl 241 _ _ rfl _ _ _ rfl rfl Jd ?_)|(go_at_call 263;first|(refine(gu _ _ _ _ M0).e ?_)|(refine(gq _ _ _ _ M0).e ?_)))
  go_roundw
  exact⟨7,M0,Oc,f.o,by first|assumption|exact HB.o.alloc HB.o.size _⟩
  simp[intOf]
 ·have a:T=lX c ((12353,12438)::rl.drop 8):=g.o
  by_cases h:12353<=c/\c<=12438
  ·rw[jI (r:=(12353,12438)) h]at a
   subst a
   go_wp2_with(first|(refine cP rfl 241 _ _ rfl _ _ _ rfl rfl Je ?_)|(go_at_call 263;first|(refine(gu _ _ _ _ M0).e ?_)|(refine(gq _ _ _ _ M0).e ?_)))
   go_ret;exact⟨rfl,by first|assumption|exact HB.o.alloc HB.o.size _⟩
  rw[jH (r:=(12353,12438)) h]at a;have f:=F a;clear a
  go_wp2_with(first|(refine cP rfl 241 _ _ rfl _ _ _ rfl rfl Je ?_)|(go_at_call 263;first|(refine(gu _ _ _ _ M0).e ?_)|(refine(gq _ _ _ _ M0).e ?_)))
  go_roundw
  exact⟨8,M0,Oc,f.o,by first|assumption|exact HB.o.alloc HB.o.size _⟩
  simp[intOf]
 ·have a:T=lX c ((12449,12538)::rl.drop 9):=g.o
  by_cases h:12449<=c/\c<=12538
  ·rw[jI (r:=(12449,12538)) h]at a
   subst a
   go_wp2_with(first|(refine cP rfl 241 _ _ rfl _ _ _ rfl rfl Jf ?_)|(go_at_call 263;first|(refine(gu _ _ _ _ M0).e ?_)|(refine(gq _ _ _ _ M0).e ?_)))
   go_ret;exact⟨rfl,by first|assumption|exact HB.o.alloc HB.o.size _⟩
  rw[jH (r:=(12449,12538)) h]at a;have f:=F a;clear a
  go_wp2_with(first|(refine cP rfl 241 _ _ rfl _ _ _ rfl rfl Jf ?_)|(go_at_call 263;first|(refine(gu _ _ _ _ M0).e ?_)|(refine(gq _ _ _ _ M0).e ?_)))
  go_roundw
  exact⟨9,M0,Oc,f.o,by first|assumption|exact HB.o.alloc HB.o.size _⟩
  simp[intOf]
 ·have a:T=lX c ((19968,40959)::rl.drop 10):=g.o
  by_cases h:19968<=c/\c<=40959
  ·rw[jI (r:=(19968,40959)) h]at a
   subst a
   go_wp2_with(first|(refine cP rfl 241 _ _ rfl _ _ _ rfl rfl Jg ?_)|(go_at_call 263;first|(refine(gu _ _ _ _ M0).e ?_)|(refine(gq _ _ _ _ M0).e ?_)))
   go_ret;exact⟨rfl,by first|assumption|exact HB.o.alloc HB.o.size _⟩
  rw[jH (r:=(19968,40959)) h]at a;have f:=F a;clear a
  go_wp2_with(first|(refine cP rfl 241 _ _ rfl _ _ _ rfl rfl Jg ?_)|(go_at_call 263;first|(refine(gu _ _ _ _ M0).e ?_)|(refine(gq _ _ _ _ M0).e ?_)))
  go_roundw
  exact⟨10,M0,Oc,f.o,by first|assumption|exact HB.o.alloc HB.o.size _⟩
  simp[intOf]
 ·have a:T=lX c ((44032,55203)::rl.drop 11):=g.o
  by_cases h:44032<=c/\c<=55203
  ·rw[jI (r:=(44032,55203)) h]at a
   subst a
   go_wp2_with(first|(refine cP rfl 241 _ _ rfl _ _ _ rfl rfl CV ?_)|(go_at_call 263;first|(refine(gu _ _ _ _ M0).e ?_)|(refine(gq _ _ _ _ M0).e ?_)))
   go_ret;exact⟨rfl,by first|assumption|exact HB.o.alloc HB.o.size _⟩
  rw[jH (r:=(44032,55203)) h]at a;have f:=F a;clear a
  go_wp2_with(first|(refine cP rfl 241 _ _ rfl _ _ _ rfl rfl CV ?_)|(go_at_call 263;first|(refine(gu _ _ _ _ M0).e ?_)|(refine(gq _ _ _ _ M0).e ?_)))
  go_roundw
  exact⟨11,M0,Oc,f.o,by first|assumption|exact HB.o.alloc HB.o.size _⟩
  simp[intOf]
 ·have a:T=lX c ((127744,128511)::rl.drop 12):=g.o
  by_cases h:127744<=c/\c<=128511
  ·rw[jI (r:=(127744,128511)) h]at a
   subst a
   go_wp2_with(first|(refine cP rfl 241 _ _ rfl _ _ _ rfl rfl CW ?_)|(go_at_call 263;first|(refine(gu _ _ _ _ M0).e ?_)|(refine(gq _ _ _ _ M0).e ?_)))
   go_ret;exact⟨rfl,by first|assumption|exact HB.o.alloc HB.o.size _⟩
  rw[jH (r:=(127744,128511)) h]at a;have f:=F a;clear a
  go_wp2_with(first|(refine cP rfl 241 _ _ rfl _ _ _ rfl rfl CW ?_)|(go_at_call 263;first|(refine(gu _ _ _ _ M0).e ?_)|(refine(gq _ _ _ _ M0).e ?_)))
  go_roundw
  exact⟨12,M0,Oc,f.o,by first|assumption|exact HB.o.alloc HB.o.size _⟩
  simp[intOf]
 have s:T=false:=g.o;subst s;go_wp2_with fail;go_ret;exact⟨rfl,HB.o⟩

theorem Sj{c:Int}:(E (fp (oE c))).toList.isEmpty=decide (oE c=[]):=by
 rw[aB];cases h:oE c with
 |nil=>simp[fp]
 |cons x r =>
  rw[mH];have:=(oN x).1;cases he:enc x with
  |nil=>rw[he]at this;simp at this
  |cons y s=>simp
theorem VA{c:Int}(h:oE c ≠ []):gV c=(fp (oE c),2):=by unfold gV;rw[ge h]
theorem LG{c:Int}(h:oE c=[])(I:FN c=true):gV c=([],3):=by unfold gV;rw[gc (by simp[h]),ge I]
theorem Gt{c:Int}(h:oE c=[])(I:FN c=false)(a:Yc c=true):gV c=(enc c,1):=by unfold gV;rw[gc (by simp[h]),gc (by simp[I]),ge a]
theorem LH{c:Int}(h:oE c=[])(I:FN c=false)(a:Yc c=false):gV c=([],0):=by unfold gV;rw[gc (by simp[h]),gc (by simp[I]),gc (by simp[a])]
theorem uC{a:O}{k:Int}{t:O×Int}(h:t=(a,k)):Ending.returned (.tuple #[.string (E a),.int .i64 k])=.returned (.tuple #[S t.1,.int .i64 t.2]):=by subst h;rfl
theorem LJ(c:Int):(∃b,oE c ≠ []/\(E (fp (oE c))).toList.isEmpty=false/\b=fp (oE c)/\gV c=(b,2))\/(oE c=[]/\FN c=true/\gV c=([],3))\/(oE c=[]/\FN c=false/\Yc c=true/\gV c=(enc c,1))\/(oE c=[]/\FN c=false/\Yc c=false/\gV c=([],0)):=by
 by_cases h:oE c=[]
 ·right
  cases I:FN c
  ·right
   cases a:Yc c
   ·exact .inr ⟨h,rfl,rfl,LH h I a⟩
   exact .inl ⟨h,rfl,rfl,Gt h I a⟩
  exact .inl ⟨h,rfl,LG h I⟩
 exact .inl ⟨_,h,by rw[Sj];simp[h],rfl,VA h⟩
theorem Jm(c:Int)(w:H):bF prog 244 #[.int .i64 c] w (.tuple #[S (gV c).1,.int .i64 (gV c).2]):=by
 have d:=λW=>LS c W;have g:=λW=>Pv c W;have j:=λW=>ML c W;obtain⟨M,q⟩:=V (gV c);rw[<-q];rcases LJ c with⟨b,h,I,i,e⟩|⟨h,I,e⟩|⟨h,I,i,e⟩|⟨h,I,i,e⟩
 all_goals rw[<-q]at e
 ·rw[<-i]at d I
  have n:=F e;clear e q h i;have p:=F d;clear d g j;go_enter func244,ntmps244
  go_wp2_with(go_at_call 253;refine(p.o _).e ?_)
  go_ret2
  exact⟨uC n.o,gT _ _⟩
 ·rw[h]at d
  rw[I]at g;have s:(E (fp [])).toList.isEmpty=true:=by rw[aB];rfl
  have n:=F e;clear e q h I;have p:=F d;clear d;have r:=F g;clear g j;go_enter func244,ntmps244
  go_wp2_with(first|(go_at_call 253;refine(p.o _).e ?_)|(go_at_call 254;refine(r.o _).e ?_))
  go_ret2
  exact⟨uC (a:=[]) n.o,gT _ _⟩
 ·rw[h]at d
  rw[I]at g;rw[i]at j;have s:(E (fp [])).toList.isEmpty=true:=by rw[aB];rfl
  have n:=F e;clear e q h I i;have p:=F d;clear d;have r:=F g;clear g;have t:=F j;clear j;go_enter func244,ntmps244
  go_wp2_with(first|(go_at_call 253;refine(p.o _).e ?_)|(go_at_call 254;refine(r.o _).e ?_)|(go_at_call 255;refine(t.o _).k λk l=>?_)|(go_at_call 57;refine(fK _ _).e ?_))
  go_ret2
  exact⟨uC n.o,l.o⟩
 rw[h]at d;rw[I]at g;rw[i]at j;have s:(E (fp [])).toList.isEmpty=true:=by rw[aB];rfl
 have n:=F e;clear e q h I i;have p:=F d;clear d;have r:=F g;clear g;have t:=F j;clear j;go_enter func244,ntmps244
 go_wp2_with(first|(go_at_call 253;refine(p.o _).e ?_)|(go_at_call 254;refine(r.o _).e ?_)|(go_at_call 255;refine(t.o _).k λk l=>?_))
 go_ret2
 exact⟨uC (a:=[]) n.o,l.o⟩

theorem Wv(c:Int):(oE c).length<=3:=by
 rcases DU c with h|h|h|h|h|h|h|h|h|h|h|h|h <;>(obtain⟨_,h⟩:=h;first|(rw[h];simp)|(obtain⟨_,h⟩:=h;rw[h];simp))
def Q8(c:Int):Bool:=decide ((gV c).2=1/\c≠46)
def KS(c:Int):Bool:=decide (127<c)
def frs(l:List Int):Bool:=match l with | []=>false|x::_=>!decide (0x300<=x/\x<=0x36f)
def qZ(l:List Int):Bool:=frs l&&l.all Q8&&l.any KS
theorem Vt{l:List Int}{k:Nat}(h:k<l.length)(U:Q8 l[k]=false):qZ l=false:=by
 have:l.all Q8=false:=by
  rw[M5];exact⟨_,be h,by rw[U];simp⟩
 unfold qZ;rw[this];simp
theorem Vu{l:List Int}(h:l.all Q8=true):qZ l=(frs l&&l.any KS):=by unfold qZ;rw[h];simp
theorem Pr{l:List Int}(h:0<l.length):frs l=!decide ((0x300:Int)<=l[0]/\l[0]<=(0x36f:Int)):=by
 cases l with
 |nil=>simp at h
 |cons x r=>rfl
theorem xW{l:List Int}{k:Nat}{f:Int->Bool}(h:k<l.length)(a:(l.take k).all f=true)(U:f l[k]=true):(l.take (k+1)).all f=true:=by
 rw[aH h,Xe,a];simp[U]
theorem Kj{l:List Int}{k:Nat}{f:Int->Bool}(h:k<l.length):(l.take (k+1)).any f=((l.take k).any f||f l[k]):=by
 rw[aH h,List.any_append];simp
theorem a0v{c:Int}(h:(gV c).2≠1):Q8 c=false:=gh (λI=>h I.1)
theorem a0w:Q8 46=false:=gh (λI=>I.2 rfl)
theorem a43{c:Int}(h:(gV c).2=1)(I:c≠46):Q8 c=true:=gr ⟨h,I⟩
theorem sy(l:List Int)(v:Z)(w:H)(h:Sl w.heap.size w v (d8 l)) :
  bF prog 259 #[v] w (.bool (qZ l)):=by
 obtain⟨av,c,rfl⟩:=cQ h
 have N:l.length<=maxLen:=by
  obtain⟨c1,Y,I,_⟩:=h;have h3:(d8 l).length=l.length:=Oc;omega
 unfold maxLen at N;rw[show(d8 l).length=l.length by simp]at h⊢;have P:=wJ h;clear h;have u:=F P;clear P;obtain⟨T,n⟩:=V (qZ l);rw[<-n];have hbad:=λk (hk:k<l.length) (U:Q8 l[k]=false)=>n.trans (Vt hk U);have hend:=λ(h:l.all Q8=true)=>n.trans (Vu h);have HBAD:=F hbad;clear hbad;have M:=F hend;clear hend;by_cases h0:l.length=0
 ·obtain rfl:l=[]:=az h0
  have s:T=false:=n;subst s;clear n u HBAD M;simp only[aO];go_enter func259,ntmps259;go_wp2_with fail;go_ret;exact⟨rfl,gT _ _⟩
 have hp:0<l.length:=M0;obtain⟨x0,d⟩:=V (l[0]'hp);have t:=Pr hp;obtain⟨b,o,rfl,U,y⟩:=u.o 0 hp;rw[<-d]at t y;clear d;have PU:0x300<=x0/\x0<=0x36f->T=false:=λh=>by rw[n];unfold qZ;rw[t,gr h];simp
 obtain⟨L,HL⟩:=ey (l.length);rw[<-HL.o]at N hp⊢;have hL0:0<L:=hp;clear h0 hp;rw[dH]at y;have WX:=F t;clear t n;have UZ:=F PU;clear PU;have q0:((L:Int)==0)=false:=by simp;omega
 by_cases d:0x300<=x0/\x0<=0x36f
 ·have s:=UZ.o d
  subst s;go_enter func259,ntmps259
  go_wp2_with(go_at_call 263;refine(gu _ _ _ _ d).e ?_)
  go_ret;exact⟨rfl,gT _ _⟩
 have J:=F d;clear d;go_enter func259,ntmps259
 go_wp2_with(go_at_call 263;refine(gq _ _ _ _ J.o).e ?_)
 go_loopw [3,19] (λav iv wr=>∃k:Nat,k<=L/\iv=.int .i64 k/\av=.bool ((l.take k).any KS)/\(l.take k).all Q8=true/\r7 w wr) (λ_ i _=>L-(intOf i).toNat)
 exact⟨0,M0,Oc,Oc,Oc,gT _ _⟩
 obtain⟨k,hk,rfl,rfl,hall,Q⟩:=hrel;have HA:=F hall;clear hall;have HB:=F Q;clear Q;by_cases hlt:k<L
 ·have X:k<l.length:=by have:=HL.o;omega
  obtain⟨b',o',R,hb',hcell0⟩:=u.o k X;obtain⟨rfl,rfl⟩:b=b'/\o=o':=by simpa using R
  have hcell:wr.cell? ⟨b,o+k,none⟩=some (.int .i64 l[k]):=by rw[(HB.o).cell (p:=⟨b,o+k,none⟩) U,hcell0]
  clear hcell0 R hb' y;have hs1:=λh=>xW (f:=Q8) X HA.o h;have C:=Kj (f:=KS) X;have r:=HBAD.o k X;generalize l[k]=x at hcell hs1 C r;have z:=λW=>Jm x W;obtain⟨K,hK,B,hB⟩:=ac ((gV x).2) ((gV x).1);have hk1:=λh:K≠1=>r (a0v (by rw[<-hK];exact h));have hk2:=λh:x=46=>r (by rw[h];exact a0w);have hk3:=λ(h:K=1) (I:x≠46)=>hs1 (a43 (by rw[<-hK];exact h) I);rw[<-hK,<-hB]at z;clear r hs1 hK hB;have V7:=F z;clear z;have Tz:=F hk1;clear hk1;have SZ:=F hk2;clear hk2;have UF:=F hk3;clear hk3;have D:=F C;clear C;by_cases j:K=1
  ·by_cases q:x=46
   ·have s:=SZ.o q
    subst s;subst j;subst q
    go_wp2_with(go_at_call 244;refine(V7.o _).k λw3 a=>?_;have g:=F<|HB.o.trans (a.o.m HB.o.size);clear a)
    go_ret;exact⟨rfl,g.o⟩
   have CH:=UF.o j q;have HA2:=F CH;clear CH;have q1:(x==46)=false:=by simp[q]
   subst j;clear q;generalize (l.take k).any KS=m at D⊢
   have hcs:m=true\/(m=false/\127<x)\/(m=false/\x<=127):=by
    cases m
    ·right;simp only[true_and];omega
    exact .inl rfl
   rcases hcs with rfl|⟨rfl,s⟩|⟨rfl,s⟩
   all_goals
    go_wp2_with(go_at_call 244;refine(V7.o _).k λw3 a=>?_;have g:=F<|HB.o.trans (a.o.m HB.o.size);clear a)
    go_roundw
    exact⟨k+1,M0,Oc,by rw[D.o];unfold KS;simp <;>omega,HA2.o,g.o⟩
    exact aa
  have s:=Tz.o j;subst s;have q1:(K != 1)=true:=by simp[j]
  go_wp2_with(go_at_call 244;refine(V7.o _).k λw3 a=>?_;have g:=F<|HB.o.trans (a.o.m HB.o.size);clear a)
  go_ret;exact⟨rfl,g.o⟩
 obtain rfl:L=k:=M0;have hall:=HA.o;rw[aP (by have:=HL.o;omega)]at hall⊢;have n:=M.o hall;rw[WX.o,gh J.o]at n;have HT:=F n;clear n hall;go_wp2_with fail;go_ret;exact⟨eA (by rw[HT.o];simp),HB.o⟩

def b69(b:O):Bool:=b.all (λx=>decide (G x<0x80))
theorem Ll(b:O)(w:H)(y:b.length<=maxLen):pa prog 257 #[.string (E b)] w (.bool (b69 b)):=by
 unfold maxLen at y;obtain⟨s,l⟩:=V (E b);have t:s.size=b.length:=by rw[l,aF]
 obtain⟨T,g⟩:=V (b69 b);rw[<-l,<-g]
 have hbad:∀k (d:k<b.length),0x80<=G b[k]->T=false:=by
  intro k d h;rw[g];unfold b69;rw[M5];exact⟨_,be d,by simp;omega⟩
 have f:(∀k (d:k<b.length),G b[k]<0x80)->T=true:=by
  intro h;rw[g];unfold b69;rw[dl];intro x X;obtain⟨k,d,rfl⟩:=cC X;exact gr (h k d)
 clear g;obtain⟨L,v⟩:=ey (b.length);rw[<-v.o]at y t;have z:=F l;clear l;have HBAD:=F hbad;clear hbad;have B:=F f;clear f;go_enter func257,ntmps257;go_wp2_with fail
 go_loopw [6] (λiv wr=>∃k:Nat,k<=L/\iv=.int .i64 k/\(∀j (e:j<b.length),j<k->G b[j]<0x80)/\w=wr) (λi _=>L-(intOf i).toNat)
 exact⟨0,M0,Oc,λj _ h=>M0,rfl⟩
 obtain⟨k,d,rfl,hall,rfl⟩:=hrel;have u:=F hall;clear hall;by_cases hlt:k<L
 ·have X:k<b.length:=by have:=v.o;omega
  have a:k<s.size:=M0;have c:((s[k]'a).toNat:Int)=G b[k]:=cy z.o a X;have U:=HBAD.o k X
  have hstep:((s[k]'a).toNat:Int)<0x80->∀j (e:j<b.length),j<k+1->G b[j]<0x80:=by
   intro h j e I;by_cases r:j=k
   ·subst r;rw[<-c];exact h
   exact u.o j e M0
  rw[<-c]at U;clear c;have J:=F U;clear U;have m:=F hstep;clear hstep;have q:((s[k]'a).toNat:Int)<0x80\/0x80<=((s[k]'a).toNat:Int):=M0;rcases q with p|p
  ·go_wp2_with fail
   go_roundw
   exact⟨k+1,M0,Oc,m.o p,trivial⟩
   exact aa
  have C:=J.o p;subst C;go_wp2_with fail;go_ret;exact⟨rfl,rfl⟩
 have D:=B.o (λj e=>u.o j e (by have:=v.o;omega));subst D;go_wp2_with fail;go_ret;exact⟨rfl,rfl⟩
