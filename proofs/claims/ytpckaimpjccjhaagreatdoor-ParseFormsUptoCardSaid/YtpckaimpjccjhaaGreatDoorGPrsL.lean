import Derived.Test.YtpckaimpjccjhaaGreatDoorGAthW
set_option maxHeartbeats 40000000
namespace Go.Proofs.YtpckaimpjccjhaaGreatDoor
open Go.RowKit
set_option maxRecDepth 10000
theorem conv_lits {P : Program} {src dst e : TypeId} (hs : P.underlying src = some (.slice e)) (he : P.underlying e = some (.int .u8)) (hd : P.underlying dst = some .string)
  (w : World) (xs : List Int) (hb : ∀ x ∈ xs, 0 <= x ∧ x < 256) (n c : Nat) (hn : n = xs.length) (t : TypeId) (fr : Nat × Nat) :
  (convert src dst (.slice (some ⟨w.heap.size, 0, none⟩) n c)).run P (w.alloc (.cells (xs.map (Value.int .u8)).toArray t fr)) =
   .ok (.string (bs (xs.map fun x => UInt8.ofNat x.toNat))) (w.alloc (.cells (xs.map (Value.int .u8)).toArray t fr)) := by
 have h := run_convert_bytes_back (P := P) (w.alloc (.cells (xs.map (Value.int .u8)).toArray t fr)) src dst e ⟨w.heap.size, 0, none⟩ c (xs.map fun x => UInt8.ofNat x.toNat) hs he hd (fun j hj => by
  rw [addr_add, World.cell?_alloc_mark]
  have hj' : j < xs.length := by simpa using hj
  have := hb xs[j] (by simp)
  simp [List.getElem?_eq_getElem hj']
  omega)
 simp only [List.length_map] at h
 rw [hn]
 exact h
theorem conv1 {P : Program} {src dst e : TypeId} (hs : P.underlying src = some (.slice e)) (he : P.underlying e = some (.int .u8)) (hd : P.underlying dst = some .string)
  (a : Int) (ha : 0 <= a ∧ a < 256) (w : World) : (convert src dst (.slice (some ⟨w.heap.size, 0, none⟩) 1 1)).run P (w.alloc (.cells #[.int .u8 a] e)) = .ok (.string (bs [UInt8.ofNat a.toNat])) (w.alloc (.cells #[.int .u8 a] e)) :=
 conv_lits hs he hd w [a] (by simpa using ha) 1 1 rfl e (0, 0)
theorem sch_no {s : Bytes} (h : schN s = true) : (58 : UInt8) ∉ s ∧ (35 : UInt8) ∉ s ∧ (63 : UInt8) ∉ s := by
 have ha := sch_all h
 refine ⟨fun hm => ?_, fun hm => ?_, fun hm => ?_⟩
 ·exact (low_is (ha _ hm)).2.2.2.1 rfl
 ·exact (low_is (ha _ hm)).2.2.2.2.1 rfl
 ·exact (low_is (ha _ hm)).2.2.2.2.2.1 rfl
theorem trim_head (s : Bytes) : ∀ x, (trimF s).head? = some x -> ¬ b2 x <= 32 := by
 intro x h
 have h0 := dropW_head (fun c => decide (b2 c <= 32)) s
 unfold trimF at h
 obtain ⟨a, ha⟩ := dropW_suffix (fun c => decide (b2 c <= 32)) (s.dropWhile fun c => decide (b2 c <= 32)).reverse
 have hb := congrArg List.reverse ha
 rw [List.reverse_reverse, List.reverse_append] at hb
 have : (s.dropWhile fun c => decide (b2 c <= 32)).head? = some x := by
  rw [hb, List.head?_append, h]; rfl
 have := h0 x this
 simpa using this
theorem clean_head (s : Bytes) : ∀ x, (cleanF s).head? = some x -> ¬ b2 x <= 32 := by rw [clean_is]; exact trim_head _
theorem clean_tight (s : Bytes) : tightF (cleanF s) = cleanF s := by
 show List.filter notBr (List.filter notBr _) = List.filter notBr _
 rw [List.filter_filter]
 congr 1
 funext x
 simp
theorem let_k : ∀ k : Fin 256, schC (b2 (UInt8.ofNat k.val)) = true -> 32 < b2 (UInt8.ofNat k.val) := by decide +kernel
theorem schC_is {y : UInt8} (h : schC (b2 y) = true) : 32 < b2 y := all_bytes (P := fun y => schC (b2 y) = true -> 32 < b2 y) let_k y h

theorem trim_pad (x : Bytes) : trimF ([31, 32] ++ x ++ [32, 0]) = trimF x := by
 rw [trim_rt, trim_rt]
 have e1 : ([31, 32] ++ x ++ [32, 0]).dropWhile le32 = (x ++ [32, 0]).dropWhile le32 := by
  rw [List.append_assoc]
  show (31 :: 32 :: (x ++ [32, 0])).dropWhile le32 = _
  rw [List.dropWhile_cons_of_pos (by decide), List.dropWhile_cons_of_pos (by decide)]
 rw [e1, List.dropWhile_append]
 split
 ·next h =>
  have h2 : x.dropWhile le32 = [] := by simpa using h
  rw [h2]
  rfl
 ·have e2 : x.dropWhile le32 ++ [32, 0] = (x.dropWhile le32 ++ [32]) ++ [0] := by simp
  rw [e2, rt_snoc, if_pos (by decide), rt_snoc, if_pos (by decide)]
theorem tight_app (a b : Bytes) : tightF (a ++ b) = tightF a ++ tightF b := List.filter_append ..
theorem clean_pad (s : Bytes) : cleanF ([31, 32] ++ s ++ [32, 0]) = cleanF s := by
 rw [clean_is, clean_is, tight_app, tight_app]
 show trimF ([31, 32] ++ tightF s ++ [32, 0]) = _
 exact trim_pad _
theorem clean_mid (s : Bytes) (k : Nat) : cleanF ((cleanF s).take k ++ [9, 13, 10] ++ (cleanF s).drop k) = cleanF s := by
 have h := clean_tight s
 rw [clean_is ((cleanF s).take k ++ [9, 13, 10] ++ (cleanF s).drop k), tight_app, tight_app]
 show trimF (tightF ((cleanF s).take k) ++ [] ++ tightF ((cleanF s).drop k)) = _
 rw [List.append_nil, <- tight_app, List.take_append_drop, h]
 exact trim_same (clean_head s) (clean_last s)
def upB (x : UInt8) : UInt8 := if 97 <= b2 x ∧ b2 x <= 122 then UInt8.ofNat (b2 x - 32).toNat else x
theorem up_k : ∀ k : Fin 256, schC (b2 (UInt8.ofNat k.val)) = true -> schC (b2 (upB (lowB (UInt8.ofNat k.val)))) = true ∧ (letF (b2 (UInt8.ofNat k.val)) = true -> letF (b2 (upB (lowB (UInt8.ofNat k.val)))) = true) ∧ lowB (upB (lowB (UInt8.ofNat k.val))) = lowB (UInt8.ofNat k.val) := by decide +kernel
theorem up_is {x : UInt8} (h : schC (b2 x) = true) : schC (b2 (upB (lowB x))) = true ∧ (letF (b2 x) = true -> letF (b2 (upB (lowB x))) = true) ∧ lowB (upB (lowB x)) = lowB x :=
 all_bytes (P := fun x => schC (b2 x) = true -> schC (b2 (upB (lowB x))) = true ∧ (letF (b2 x) = true -> letF (b2 (upB (lowB x))) = true) ∧ lowB (upB (lowB x)) = lowB x) up_k x h
def upS (a : Bytes) : Bytes := (a.map lowB).map upB
theorem up_sch {a : Bytes} (h : schN a = true) : schN (upS a) = true ∧ (upS a).map lowB = a.map lowB := by
 have ha := sch_all h
 unfold upS
 refine ⟨?_, ?_⟩
 ·cases a with
  | nil => cases h
  | cons c t =>
   unfold schN at h
   rw [Bool.and_eq_true] at h
   show (letF (b2 (upB (lowB c))) && ((t.map lowB).map upB).all fun y => schC (b2 y)) = true
   rw [Bool.and_eq_true]
   refine ⟨(up_is (ha c (by simp))).2.1 h.1, List.all_eq_true.mpr fun y hy => ?_⟩
   obtain ⟨z, hz, rfl⟩ := List.mem_map.mp hy
   obtain ⟨x, hx, rfl⟩ := List.mem_map.mp hz
   exact (up_is (ha x (by simp [hx]))).1
 ·rw [List.map_map, List.map_map]
  refine List.map_congr_left fun x hx => ?_
  exact (up_is (ha x hx)).2.2
theorem cut1_app {c : UInt8} : ∀ {a : Bytes} (b : Bytes), c ∉ a -> cut1 c (a ++ b) = (a ++ (cut1 c b).1, (cut1 c b).2.1, (cut1 c b).2.2)
 | [], b, _ => rfl
 | x :: a, b, h => by
  have hx : x ≠ c := fun e => h (by simp [e])
  have ih := cut1_app b (fun hm : c ∈ a => h (by simp [hm]))
  show cut1 c (x :: (a ++ b)) = _
  rw [cut1, if_neg hx, ih]
  rfl
theorem split_sch {a d : Bytes} (h : schN a = true) :
  splitF (a ++ 58 :: d) = ⟨true, a.map lowB, (cut1 63 (cut1 35 d).1).1, (cut1 63 (cut1 35 d).1).2.2, (cut1 63 (cut1 35 d).1).2.1, (cut1 35 d).2.2, (cut1 35 d).2.1⟩ := by
 obtain ⟨n1, n2, n3⟩ := sch_no h
 have e : a ++ 58 :: d = (a ++ [58]) ++ d := by simp
 have m1 : (35 : UInt8) ∉ a ++ [58] := by simp [n2]
 have m2 : (63 : UInt8) ∉ a ++ [58] := by simp [n3]
 have k1 : cut1 35 (a ++ 58 :: d) = ((a ++ [58]) ++ (cut1 35 d).1, (cut1 35 d).2.1, (cut1 35 d).2.2) := by rw [e]; exact cut1_app d m1
 have k2 : cut1 63 ((a ++ [58]) ++ (cut1 35 d).1) = ((a ++ [58]) ++ (cut1 63 (cut1 35 d).1).1, (cut1 63 (cut1 35 d).1).2.1, (cut1 63 (cut1 35 d).1).2.2) := cut1_app _ m2
 have k3 : cut1 58 ((a ++ [58]) ++ (cut1 63 (cut1 35 d).1).1) = (a, (cut1 63 (cut1 35 d).1).1, true) := by
  rw [List.append_assoc, List.singleton_append]
  exact cut1_split _ _ n1
 unfold splitF
 simp only [k1, k2, k3]
 rw [if_pos ⟨by trivial, h⟩]
theorem split_has {c : Bytes} (h : (splitF c).hasS = true) : ∃ a d, schN a = true ∧ c = a ++ 58 :: d ∧ (splitF c).sch = a.map lowB := by
 have h1 := cut1_is 35 c
 have h2 := cut1_is 63 (cut1 35 c).1
 have h3 := cut1_is 58 (cut1 63 (cut1 35 c).1).1
 unfold splitF at h ⊢
 dsimp only at h ⊢
 split at h
 ·next hc =>
  rw [if_pos hc]
  rw [if_pos hc.1] at h3
  rw [h3] at h2
  rw [h2] at h1
  refine ⟨(cut1 58 (cut1 63 (cut1 35 c).1).1).1, ((cut1 58 (cut1 63 (cut1 35 c).1).1).2.1 ++ if (cut1 63 (cut1 35 c).1).2.2 = true then 63 :: (cut1 63 (cut1 35 c).1).2.1 else []) ++ if (cut1 35 c).2.2 = true then 35 :: (cut1 35 c).2.1 else [], hc.2, ?_, rfl⟩
  generalize (cut1 58 (cut1 63 (cut1 35 c).1).1).1 = A at h1 ⊢
  generalize (cut1 58 (cut1 63 (cut1 35 c).1).1).2.1 = B at h1 ⊢
  generalize (if (cut1 63 (cut1 35 c).1).2.2 = true then 63 :: (cut1 63 (cut1 35 c).1).2.1 else []) = C at h1 ⊢
  generalize (if (cut1 35 c).2.2 = true then 35 :: (cut1 35 c).2.1 else []) = E at h1 ⊢
  rw [h1]
  simp
 ·cases h
theorem notbr_le {y : UInt8} (h : 32 < b2 y) : notBr y = true := by
 cases hn : notBr y with
 | true => rfl
 | false =>
  have := notBr_le hn
  unfold le32 at this
  rw [decide_eq_true_eq] at this
  omega
theorem read_up {b : Url} {s : Bytes} (h : (splitF (cleanF s)).hasS = true) : readJ b (upS (splitF (cleanF s)).sch ++ (cleanF s).drop (upS (splitF (cleanF s)).sch).length) = readJ b s := by
 obtain ⟨a, d, ha, hc, hsc⟩ := split_has h
 have hla : (upS (a.map lowB)) = upS a := by
  have e : (a.map lowB).map lowB = a.map lowB := by
   rw [List.map_map]
   exact List.map_congr_left fun x hx => (low_is (sch_all ha x hx)).2.2.1
  unfold upS
  rw [e]
 rw [hsc, hla]
 have hlen : (upS a).length = a.length := by unfold upS; simp
 have hdr : (cleanF s).drop (upS a).length = 58 :: d := by rw [hlen, hc, List.drop_left]
 rw [hdr]
 have hup := up_sch ha
 have htight := clean_tight s
 have hbr : ∀ y ∈ cleanF s, notBr y = true := by
  intro y hy
  rw [<- htight] at hy
  exact (List.mem_filter.mp hy).2
 have hcl : cleanF (upS a ++ 58 :: d) = upS a ++ 58 :: d := by
  rw [clean_is]
  have e1 : tightF (upS a ++ 58 :: d) = upS a ++ 58 :: d := by
   refine List.filter_eq_self.mpr fun y hy => ?_
   rcases List.mem_append.mp hy with hy | hy
   ·exact notbr_le (schC_is (sch_all hup.1 y hy))
   ·exact hbr y (by rw [hc]; exact List.mem_append_right _ hy)
  rw [e1]
  refine trim_same ?_ ?_
  ·intro x hx
   cases hu : upS a with
   | nil => have := hup.1; rw [hu] at this; cases this
   | cons c t =>
    rw [hu] at hx
    simp only [List.cons_append, List.head?_cons, Option.some.injEq] at hx
    have := schC_is (sch_all hup.1 c (by rw [hu]; simp))
    rw [<- hx]
    omega
  ·intro x hx
   have h2 := clean_last s x
   rw [hc] at h2
   refine h2 ?_
   rw [List.getLast?_append] at hx ⊢
   have hs : ((58 :: d : Bytes).getLast?).isSome = true := by simp
   obtain ⟨z, hz⟩ := Option.isSome_iff_exists.mp hs
   rw [hz] at hx ⊢
   exact hx
 unfold readJ
 rw [hcl, split_sch hup.1, hup.2]
 have h4 : splitF (cleanF s) = splitF (a ++ 58 :: d) := by rw [hc]
 rw [h4, split_sch ha]
theorem read_pad (b : Url) (s : Bytes) : readJ b ([31, 32] ++ s ++ [32, 0]) = readJ b s := by unfold readJ; rw [clean_pad]
theorem read_mid (b : Url) (s : Bytes) (k : Nat) : readJ b ((cleanF s).take k ++ [9, 13, 10] ++ (cleanF s).drop k) = readJ b s := by unfold readJ; rw [clean_mid]
end Go.Proofs.YtpckaimpjccjhaaGreatDoor
