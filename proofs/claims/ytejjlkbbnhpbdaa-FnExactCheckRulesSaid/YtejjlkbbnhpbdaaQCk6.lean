/- The row of the law FnExactCheckRules: for every input the call returns true, and each argument reads behind it as it read before; no condition of ours. -/
import Derived.Test.YtejjlkbbnhpbdaaProg
import Derived.Below
import Derived.Deep.Draws
import Derived.Deep.AppendLies
import Derived.Maps.AppendAt
import Derived.OwnWalk
import Derived.Laws.BytesArg
import Derived.Laws.MakeOwn
import Derived.Laws.OwnMore
import Derived.Deep.OwnRows
import Derived.Tactics
import Derived.Lib.ConvBytes
import Derived.Laws.Slices
import Derived.WalkKit
import Derived.KernelRfl
import Derived.RowKit3
import Derived.Deep.LoopGhost
import Derived.Deep.QuietTactic
import Derived.BigQuiet
import Derived.WideLaws
import Derived.Deep.DeepCutAuto
import Derived.Deep.CutBlock
import Derived.Deep.RegionHeld3
import Derived.Laws.Rows
import Derived.Lib.AppendStr
import Derived.ArgAppend
import Derived.Laws.IdiomCopy
import Derived.OrdersHeld
import Derived.Laws.BitsLemmas
import Derived.RowKit
import Derived.Test.YtejjlkbbnhpbdaaQCk5
namespace Go.Proofs.Ytejjlkbbnhpbdaa.P
open Go.Proofs.YtejjlkbbnhpbdaaX
open Go.RowKit Go.Proofs.YtejjlkbbnhpbdaaW.PrintWords Go.Proofs.YtejjlkbbnhpbdaaW.PrintLast Go.Proofs.YtejjlkbbnhpbdaaW.PrintMore
attribute [local go_sem] max2_int min2_int max_two min_two max_three min_three max_four min_four
set_option linter.unusedVariables false
set_option linter.unusedSimpArgs false
def errW : Option Int → Value
 | none => .nilIface
 | some c => .iface 0 (.int .i64 c)
theorem errW_none : errW none = .nilIface := rfl
theorem errW_some (c : Int) : errW (some c) = .iface 0 (.int .i64 c) := rfl
theorem info3 : (Try.prog.info? 3).map (fun i => (i.zero, i.size, i.bytes)) = some (some (.int .i64 0), 1, 8) := by kernel_rfl
theorem info9 : (Try.prog.info? 9).map (fun i => (i.zero, i.size, i.bytes)) = some (some (.string ⟨#[]⟩), 1, 16) := by kernel_rfl
theorem info42 : (Try.prog.info? 42).map (fun i => (i.zero, i.size, i.bytes)) = some (some (.agg #[(.string ⟨#[]⟩), (.int .i64 0), (.slice none 0 0), (.slice none 0 0), (.slice none 0 0)]), 5, 96) := by kernel_rfl
theorem info46 : (Try.prog.info? 46).map (fun i => (i.zero, i.size, i.bytes)) = some (some (.agg #[(.int .i64 0), (.int .i64 0), (.string ⟨#[]⟩), (.slice none 0 0)]), 4, 56) := by kernel_rfl
theorem info59 : (Try.prog.info? 59).map (fun i => (i.zero, i.size, i.bytes)) = some (some (.agg #[(.bool false), (.string ⟨#[]⟩), (.slice none 0 0)]), 3, 48) := by kernel_rfl
theorem info68 : (Try.prog.info? 68).map (fun i => (i.zero, i.size, i.bytes)) = some (some (.agg #[(.int .i64 0), (.int .i64 0), (.string ⟨#[]⟩), (.int .i64 0), (.int .i64 0), (.string ⟨#[]⟩)]), 6, 64) := by kernel_rfl
theorem info72 : (Try.prog.info? 72).map (fun i => (i.zero, i.size, i.bytes)) = some (some (.agg #[(.int .i64 0), (.int .u8 0), (.string ⟨#[]⟩), (.int .i64 0), (.int .i64 0), (.string ⟨#[]⟩), (.int .i64 0), (.int .i64 0)]), 8, 80) := by kernel_rfl
structure S91 where
 f0 : Int
 f1 : Int
 f2 : ByteArray
def z91 : S91 := ⟨(0 : Int), (0 : Int), (⟨#[]⟩ : ByteArray)⟩
def k91 : Kd S91 := Kd.iso (Kd.pair (Kd.int .i64) (Kd.pair (Kd.int .i64) Kd.string)) (fun x : S91 => (x.f0, x.f1, x.f2))
theorem k91_open {w : World} {x : S91} {cs : List Value} (h : k91.K w x cs) : cs = [.int .i64 x.f0, .int .i64 x.f1, .string x.f2] := by
 obtain ⟨_, _, rfl, rfl, ⟨_, _, rfl, rfl, rfl⟩⟩ := h; exact rfl
structure S120 where
 f0 : Int
 f1 : Int
 f2 : ByteArray
 f3 : S91
def z120 : S120 := ⟨(0 : Int), (0 : Int), (⟨#[]⟩ : ByteArray), z91⟩
def k120 : Kd S120 := Kd.iso (Kd.pair (Kd.int .i64) (Kd.pair (Kd.int .i64) (Kd.pair Kd.string k91))) (fun x : S120 => (x.f0, x.f1, x.f2, x.f3))
theorem k120_open {w : World} {x : S120} {cs : List Value} (h : k120.K w x cs) : cs = [.int .i64 x.f0, .int .i64 x.f1, .string x.f2, .int .i64 x.f3.f0, .int .i64 x.f3.f1, .string x.f3.f2] := by
 obtain ⟨_, _, rfl, rfl, ⟨_, _, rfl, rfl, ⟨_, _, rfl, rfl, s3⟩⟩⟩ := h; obtain rfl := k91_open s3; exact rfl
def rd_T120 (xs : List S120) (i : Int) : S120 := xs.getD i.toNat z120
theorem at_T120 {w : World} {A : Option Addr} {n : Nat} {xs : List S120} (h : Kd.C k120 w A n xs) (i : Int) (h0 : 0 ≤ i) (h1 : i < n) : ∃ ad , A = some ad ∧ w.cell? (ad.add (i.toNat * 6)) = some (.int .i64 (rd_T120 xs i).f0) ∧ w.cell? ⟨(ad.add (i.toNat * 6)).block, (ad.add (i.toNat * 6)).off + 1, none⟩ = some (.int .i64 (rd_T120 xs i).f1) ∧ w.cell? ⟨(ad.add (i.toNat * 6)).block, (ad.add (i.toNat * 6)).off + 2, none⟩ = some (.string (rd_T120 xs i).f2) ∧ w.cell? ⟨(ad.add (i.toNat * 6)).block, (ad.add (i.toNat * 6)).off + 3, none⟩ = some (.int .i64 (rd_T120 xs i).f3.f0) ∧ w.cell? ⟨(ad.add (i.toNat * 6)).block, (ad.add (i.toNat * 6)).off + 4, none⟩ = some (.int .i64 (rd_T120 xs i).f3.f1) ∧ w.cell? ⟨(ad.add (i.toNat * 6)).block, (ad.add (i.toNat * 6)).off + 5, none⟩ = some (.string (rd_T120 xs i).f3.f2) := by
 obtain ⟨ad, c, e, _, hK, hc0⟩ := Kd.C_get h z120 i h0 h1; have hc : ∀ j u, c[j]? = some u → w.cell? (ad.add (i.toNat * 6 + j)) = some u := hc0
 obtain rfl := k120_open hK; exact ⟨ad, e, hc 0 _ rfl, by rw [← add_field _ _ 1 (by omega)]; exact hc 1 _ rfl, by rw [← add_field _ _ 2 (by omega)]; exact hc 2 _ rfl, by rw [← add_field _ _ 3 (by omega)]; exact hc 3 _ rfl, by rw [← add_field _ _ 4 (by omega)]; exact hc 4 _ rfl, by rw [← add_field _ _ 5 (by omega)]; exact hc 5 _ rfl⟩
structure S89 where
 f0 : Bool
 f1 : ByteArray
 f2 : (List S120)
def z89 : S89 := ⟨false, (⟨#[]⟩ : ByteArray), ([] : List S120)⟩
def k89 : Kd S89 := Kd.iso (Kd.pair Kd.bool (Kd.pair Kd.string (Kd.slice 120 k120))) (fun x : S89 => (x.f0, x.f1, x.f2))
theorem k89_open {w : World} {x : S89} {cs : List Value} (h : k89.K w x cs) : ∃ A2 c2, cs = [.bool x.f0, .string x.f1, .slice A2 x.f2.length c2] ∧ x.f2.length ≤ c2 ∧ k120.C w A2 x.f2.length x.f2 := by
 obtain ⟨_, _, rfl, rfl, ⟨_, _, rfl, rfl, ⟨A2, c2, rfl, l2, g2⟩⟩⟩ := h; exact ⟨A2, c2, rfl, l2, g2⟩
def rd_T89 (xs : List S89) (i : Int) : S89 := xs.getD i.toNat z89
theorem at_T89 {w : World} {A : Option Addr} {n : Nat} {xs : List S89} (h : Kd.C k89 w A n xs) (i : Int) (h0 : 0 ≤ i) (h1 : i < n) : ∃ ad A2 c2, A = some ad ∧ w.cell? (ad.add (i.toNat * 3)) = some (.bool (rd_T89 xs i).f0) ∧ w.cell? ⟨(ad.add (i.toNat * 3)).block, (ad.add (i.toNat * 3)).off + 1, none⟩ = some (.string (rd_T89 xs i).f1) ∧ w.cell? ⟨(ad.add (i.toNat * 3)).block, (ad.add (i.toNat * 3)).off + 2, none⟩ = some (.slice A2 (rd_T89 xs i).f2.length c2) ∧ (rd_T89 xs i).f2.length ≤ c2 ∧ k120.C w A2 (rd_T89 xs i).f2.length (rd_T89 xs i).f2 := by
 obtain ⟨ad, c, e, _, hK, hc0⟩ := Kd.C_get h z89 i h0 h1; have hc : ∀ j u, c[j]? = some u → w.cell? (ad.add (i.toNat * 3 + j)) = some u := hc0
 obtain ⟨A2, c2, rfl, l2, g2⟩ := k89_open hK; exact ⟨ad, A2, c2, e, hc 0 _ rfl, by rw [← add_field _ _ 1 (by omega)]; exact hc 1 _ rfl, by rw [← add_field _ _ 2 (by omega)]; exact hc 2 _ rfl, l2, g2⟩
structure S93 where
 f0 : Int
 f1 : Int
 f2 : ByteArray
 f3 : S91
 f4 : Int
 f5 : Int
def z93 : S93 := ⟨(0 : Int), (0 : Int), (⟨#[]⟩ : ByteArray), z91, (0 : Int), (0 : Int)⟩
def k93 : Kd S93 := Kd.iso (Kd.pair (Kd.int .i64) (Kd.pair (Kd.int .u8) (Kd.pair Kd.string (Kd.pair k91 (Kd.pair (Kd.int .i64) (Kd.int .i64)))))) (fun x : S93 => (x.f0, x.f1, x.f2, x.f3, x.f4, x.f5))
theorem k93_open {w : World} {x : S93} {cs : List Value} (h : k93.K w x cs) : cs = [.int .i64 x.f0, .int .u8 x.f1, .string x.f2, .int .i64 x.f3.f0, .int .i64 x.f3.f1, .string x.f3.f2, .int .i64 x.f4, .int .i64 x.f5] := by
 obtain ⟨_, _, rfl, rfl, ⟨_, _, rfl, rfl, ⟨_, _, rfl, rfl, ⟨_, _, rfl, s3, ⟨_, _, rfl, rfl, rfl⟩⟩⟩⟩⟩ := h; obtain rfl := k91_open s3; exact rfl
def rd_T93 (xs : List S93) (i : Int) : S93 := xs.getD i.toNat z93
theorem at_T93 {w : World} {A : Option Addr} {n : Nat} {xs : List S93} (h : Kd.C k93 w A n xs) (i : Int) (h0 : 0 ≤ i) (h1 : i < n) : ∃ ad , A = some ad ∧ w.cell? (ad.add (i.toNat * 8)) = some (.int .i64 (rd_T93 xs i).f0) ∧ w.cell? ⟨(ad.add (i.toNat * 8)).block, (ad.add (i.toNat * 8)).off + 1, none⟩ = some (.int .u8 (rd_T93 xs i).f1) ∧ w.cell? ⟨(ad.add (i.toNat * 8)).block, (ad.add (i.toNat * 8)).off + 2, none⟩ = some (.string (rd_T93 xs i).f2) ∧ w.cell? ⟨(ad.add (i.toNat * 8)).block, (ad.add (i.toNat * 8)).off + 3, none⟩ = some (.int .i64 (rd_T93 xs i).f3.f0) ∧ w.cell? ⟨(ad.add (i.toNat * 8)).block, (ad.add (i.toNat * 8)).off + 4, none⟩ = some (.int .i64 (rd_T93 xs i).f3.f1) ∧ w.cell? ⟨(ad.add (i.toNat * 8)).block, (ad.add (i.toNat * 8)).off + 5, none⟩ = some (.string (rd_T93 xs i).f3.f2) ∧ w.cell? ⟨(ad.add (i.toNat * 8)).block, (ad.add (i.toNat * 8)).off + 6, none⟩ = some (.int .i64 (rd_T93 xs i).f4) ∧ w.cell? ⟨(ad.add (i.toNat * 8)).block, (ad.add (i.toNat * 8)).off + 7, none⟩ = some (.int .i64 (rd_T93 xs i).f5) := by
 obtain ⟨ad, c, e, _, hK, hc0⟩ := Kd.C_get h z93 i h0 h1; have hc : ∀ j u, c[j]? = some u → w.cell? (ad.add (i.toNat * 8 + j)) = some u := hc0
 obtain rfl := k93_open hK; exact ⟨ad, e, hc 0 _ rfl, by rw [← add_field _ _ 1 (by omega)]; exact hc 1 _ rfl, by rw [← add_field _ _ 2 (by omega)]; exact hc 2 _ rfl, by rw [← add_field _ _ 3 (by omega)]; exact hc 3 _ rfl, by rw [← add_field _ _ 4 (by omega)]; exact hc 4 _ rfl, by rw [← add_field _ _ 5 (by omega)]; exact hc 5 _ rfl, by rw [← add_field _ _ 6 (by omega)]; exact hc 6 _ rfl, by rw [← add_field _ _ 7 (by omega)]; exact hc 7 _ rfl⟩
structure S95 where
 f0 : Int
 f1 : Int
 f2 : ByteArray
 f3 : (List Int)
def z95 : S95 := ⟨(0 : Int), (0 : Int), (⟨#[]⟩ : ByteArray), ([] : List Int)⟩
def k95 : Kd S95 := Kd.iso (Kd.pair (Kd.int .i64) (Kd.pair (Kd.int .i64) (Kd.pair Kd.string (Kd.slice 3 (Kd.int .i64))))) (fun x : S95 => (x.f0, x.f1, x.f2, x.f3))
theorem k95_open {w : World} {x : S95} {cs : List Value} (h : k95.K w x cs) : ∃ A3 c3, cs = [.int .i64 x.f0, .int .i64 x.f1, .string x.f2, .slice A3 x.f3.length c3] ∧ x.f3.length ≤ c3 ∧ (Kd.int .i64).C w A3 x.f3.length x.f3 := by
 obtain ⟨_, _, rfl, rfl, ⟨_, _, rfl, rfl, ⟨_, _, rfl, rfl, ⟨A3, c3, rfl, l3, g3⟩⟩⟩⟩ := h; exact ⟨A3, c3, rfl, l3, g3⟩
def rd_T95 (xs : List S95) (i : Int) : S95 := xs.getD i.toNat z95
theorem at_T95 {w : World} {A : Option Addr} {n : Nat} {xs : List S95} (h : Kd.C k95 w A n xs) (i : Int) (h0 : 0 ≤ i) (h1 : i < n) : ∃ ad A3 c3, A = some ad ∧ w.cell? (ad.add (i.toNat * 4)) = some (.int .i64 (rd_T95 xs i).f0) ∧ w.cell? ⟨(ad.add (i.toNat * 4)).block, (ad.add (i.toNat * 4)).off + 1, none⟩ = some (.int .i64 (rd_T95 xs i).f1) ∧ w.cell? ⟨(ad.add (i.toNat * 4)).block, (ad.add (i.toNat * 4)).off + 2, none⟩ = some (.string (rd_T95 xs i).f2) ∧ w.cell? ⟨(ad.add (i.toNat * 4)).block, (ad.add (i.toNat * 4)).off + 3, none⟩ = some (.slice A3 (rd_T95 xs i).f3.length c3) ∧ (rd_T95 xs i).f3.length ≤ c3 ∧ (Kd.int .i64).C w A3 (rd_T95 xs i).f3.length (rd_T95 xs i).f3 := by
 obtain ⟨ad, c, e, _, hK, hc0⟩ := Kd.C_get h z95 i h0 h1; have hc : ∀ j u, c[j]? = some u → w.cell? (ad.add (i.toNat * 4 + j)) = some u := hc0
 obtain ⟨A3, c3, rfl, l3, g3⟩ := k95_open hK; exact ⟨ad, A3, c3, e, hc 0 _ rfl, by rw [← add_field _ _ 1 (by omega)]; exact hc 1 _ rfl, by rw [← add_field _ _ 2 (by omega)]; exact hc 2 _ rfl, by rw [← add_field _ _ 3 (by omega)]; exact hc 3 _ rfl, l3, g3⟩
structure S37 where
 f0 : ByteArray
 f1 : Int
 f2 : (List S89)
 f3 : (List S93)
 f4 : (List S95)
def z37 : S37 := ⟨(⟨#[]⟩ : ByteArray), (0 : Int), ([] : List S89), ([] : List S93), ([] : List S95)⟩
def k37 : Kd S37 := Kd.iso (Kd.pair Kd.string (Kd.pair (Kd.int .i64) (Kd.pair (Kd.slice 89 k89) (Kd.pair (Kd.slice 93 k93) (Kd.slice 95 k95))))) (fun x : S37 => (x.f0, x.f1, x.f2, x.f3, x.f4))
theorem k37_open {w : World} {x : S37} {cs : List Value} (h : k37.K w x cs) : ∃ A2 c2 A3 c3 A4 c4, cs = [.string x.f0, .int .i64 x.f1, .slice A2 x.f2.length c2, .slice A3 x.f3.length c3, .slice A4 x.f4.length c4] ∧ x.f2.length ≤ c2 ∧ k89.C w A2 x.f2.length x.f2 ∧ x.f3.length ≤ c3 ∧ k93.C w A3 x.f3.length x.f3 ∧ x.f4.length ≤ c4 ∧ k95.C w A4 x.f4.length x.f4 := by
 obtain ⟨_, _, rfl, rfl, ⟨_, _, rfl, rfl, ⟨_, _, rfl, ⟨A2, c2, rfl, l2, g2⟩, ⟨_, _, rfl, ⟨A3, c3, rfl, l3, g3⟩, ⟨A4, c4, rfl, l4, g4⟩⟩⟩⟩⟩ := h; exact ⟨A2, c2, A3, c3, A4, c4, rfl, l2, g2, l3, g3, l4, g4⟩
def rd_T37 (xs : List S37) (i : Int) : S37 := xs.getD i.toNat z37
theorem at_T37 {w : World} {A : Option Addr} {n : Nat} {xs : List S37} (h : Kd.C k37 w A n xs) (i : Int) (h0 : 0 ≤ i) (h1 : i < n) : ∃ ad A2 c2 A3 c3 A4 c4, A = some ad ∧ w.cell? (ad.add (i.toNat * 5)) = some (.string (rd_T37 xs i).f0) ∧ w.cell? ⟨(ad.add (i.toNat * 5)).block, (ad.add (i.toNat * 5)).off + 1, none⟩ = some (.int .i64 (rd_T37 xs i).f1) ∧ w.cell? ⟨(ad.add (i.toNat * 5)).block, (ad.add (i.toNat * 5)).off + 2, none⟩ = some (.slice A2 (rd_T37 xs i).f2.length c2) ∧ w.cell? ⟨(ad.add (i.toNat * 5)).block, (ad.add (i.toNat * 5)).off + 3, none⟩ = some (.slice A3 (rd_T37 xs i).f3.length c3) ∧ w.cell? ⟨(ad.add (i.toNat * 5)).block, (ad.add (i.toNat * 5)).off + 4, none⟩ = some (.slice A4 (rd_T37 xs i).f4.length c4) ∧ (rd_T37 xs i).f2.length ≤ c2 ∧ k89.C w A2 (rd_T37 xs i).f2.length (rd_T37 xs i).f2 ∧ (rd_T37 xs i).f3.length ≤ c3 ∧ k93.C w A3 (rd_T37 xs i).f3.length (rd_T37 xs i).f3 ∧ (rd_T37 xs i).f4.length ≤ c4 ∧ k95.C w A4 (rd_T37 xs i).f4.length (rd_T37 xs i).f4 := by
 obtain ⟨ad, c, e, _, hK, hc0⟩ := Kd.C_get h z37 i h0 h1; have hc : ∀ j u, c[j]? = some u → w.cell? (ad.add (i.toNat * 5 + j)) = some u := hc0
 obtain ⟨A2, c2, A3, c3, A4, c4, rfl, l2, g2, l3, g3, l4, g4⟩ := k37_open hK; exact ⟨ad, A2, c2, A3, c3, A4, c4, e, hc 0 _ rfl, by rw [← add_field _ _ 1 (by omega)]; exact hc 1 _ rfl, by rw [← add_field _ _ 2 (by omega)]; exact hc 2 _ rfl, by rw [← add_field _ _ 3 (by omega)]; exact hc 3 _ rfl, by rw [← add_field _ _ 4 (by omega)]; exact hc 4 _ rfl, l2, g2, l3, g3, l4, g4⟩
structure S66 where
 f0 : Int
 f1 : Int
 f2 : ByteArray
def z66 : S66 := ⟨(0 : Int), (0 : Int), (⟨#[]⟩ : ByteArray)⟩
def k66 : Kd S66 := Kd.iso (Kd.pair (Kd.int .i64) (Kd.pair (Kd.int .i64) Kd.string)) (fun x : S66 => (x.f0, x.f1, x.f2))
theorem k66_open {w : World} {x : S66} {cs : List Value} (h : k66.K w x cs) : cs = [.int .i64 x.f0, .int .i64 x.f1, .string x.f2] := by
 obtain ⟨_, _, rfl, rfl, ⟨_, _, rfl, rfl, rfl⟩⟩ := h; exact rfl
theorem k66_openM {w : World} {base : Nat} {ok : Nat → Prop} {x : S66} {cs : List Value} (h : k66.M w base ok x cs) : cs = [.int .i64 x.f0, .int .i64 x.f1, .string x.f2] := by
 obtain ⟨_, _, rfl, rfl, ⟨_, _, rfl, rfl, rfl⟩⟩ := h; exact rfl
theorem k66_mkM (w : World) (base : Nat) (ok : Nat → Prop) (x : S66)  : k66.M w base ok x [.int .i64 x.f0, .int .i64 x.f1, .string x.f2] := ⟨[.int .i64 x.f0], [.int .i64 x.f1, .string x.f2], rfl, rfl, ⟨[.int .i64 x.f1], [.string x.f2], rfl, rfl, rfl⟩⟩
structure S68 where
 f0 : Int
 f1 : Int
 f2 : ByteArray
 f3 : S66
def z68 : S68 := ⟨(0 : Int), (0 : Int), (⟨#[]⟩ : ByteArray), z66⟩
def k68 : Kd S68 := Kd.iso (Kd.pair (Kd.int .i64) (Kd.pair (Kd.int .i64) (Kd.pair Kd.string k66))) (fun x : S68 => (x.f0, x.f1, x.f2, x.f3))
theorem k68_open {w : World} {x : S68} {cs : List Value} (h : k68.K w x cs) : cs = [.int .i64 x.f0, .int .i64 x.f1, .string x.f2, .int .i64 x.f3.f0, .int .i64 x.f3.f1, .string x.f3.f2] := by
 obtain ⟨_, _, rfl, rfl, ⟨_, _, rfl, rfl, ⟨_, _, rfl, rfl, s3⟩⟩⟩ := h; obtain rfl := k66_open s3; exact rfl
theorem k68_openM {w : World} {base : Nat} {ok : Nat → Prop} {x : S68} {cs : List Value} (h : k68.M w base ok x cs) : cs = [.int .i64 x.f0, .int .i64 x.f1, .string x.f2, .int .i64 x.f3.f0, .int .i64 x.f3.f1, .string x.f3.f2] := by
 obtain ⟨_, _, rfl, rfl, ⟨_, _, rfl, rfl, ⟨_, _, rfl, rfl, s3⟩⟩⟩ := h; obtain rfl := k66_openM s3; exact rfl
theorem k68_mkM (w : World) (base : Nat) (ok : Nat → Prop) (x : S68)  : k68.M w base ok x [.int .i64 x.f0, .int .i64 x.f1, .string x.f2, .int .i64 x.f3.f0, .int .i64 x.f3.f1, .string x.f3.f2] := ⟨[.int .i64 x.f0], [.int .i64 x.f1, .string x.f2, .int .i64 x.f3.f0, .int .i64 x.f3.f1, .string x.f3.f2], rfl, rfl, ⟨[.int .i64 x.f1], [.string x.f2, .int .i64 x.f3.f0, .int .i64 x.f3.f1, .string x.f3.f2], rfl, rfl, ⟨[.string x.f2], [.int .i64 x.f3.f0, .int .i64 x.f3.f1, .string x.f3.f2], rfl, rfl, (k66_mkM w base ok x.f3 )⟩⟩⟩
def rd_T68 (xs : List S68) (i : Int) : S68 := xs.getD i.toNat z68
theorem at_T68 {w : World} {A : Option Addr} {n : Nat} {xs : List S68} (h : Kd.C k68 w A n xs) (i : Int) (h0 : 0 ≤ i) (h1 : i < n) : ∃ ad , A = some ad ∧ w.cell? (ad.add (i.toNat * 6)) = some (.int .i64 (rd_T68 xs i).f0) ∧ w.cell? ⟨(ad.add (i.toNat * 6)).block, (ad.add (i.toNat * 6)).off + 1, none⟩ = some (.int .i64 (rd_T68 xs i).f1) ∧ w.cell? ⟨(ad.add (i.toNat * 6)).block, (ad.add (i.toNat * 6)).off + 2, none⟩ = some (.string (rd_T68 xs i).f2) ∧ w.cell? ⟨(ad.add (i.toNat * 6)).block, (ad.add (i.toNat * 6)).off + 3, none⟩ = some (.int .i64 (rd_T68 xs i).f3.f0) ∧ w.cell? ⟨(ad.add (i.toNat * 6)).block, (ad.add (i.toNat * 6)).off + 4, none⟩ = some (.int .i64 (rd_T68 xs i).f3.f1) ∧ w.cell? ⟨(ad.add (i.toNat * 6)).block, (ad.add (i.toNat * 6)).off + 5, none⟩ = some (.string (rd_T68 xs i).f3.f2) := by
 obtain ⟨ad, c, e, _, hK, hc0⟩ := Kd.C_get h z68 i h0 h1; have hc : ∀ j u, c[j]? = some u → w.cell? (ad.add (i.toNat * 6 + j)) = some u := hc0
 obtain rfl := k68_open hK; exact ⟨ad, e, hc 0 _ rfl, by rw [← add_field _ _ 1 (by omega)]; exact hc 1 _ rfl, by rw [← add_field _ _ 2 (by omega)]; exact hc 2 _ rfl, by rw [← add_field _ _ 3 (by omega)]; exact hc 3 _ rfl, by rw [← add_field _ _ 4 (by omega)]; exact hc 4 _ rfl, by rw [← add_field _ _ 5 (by omega)]; exact hc 5 _ rfl⟩
structure S72 where
 f0 : Int
 f1 : Int
 f2 : ByteArray
 f3 : S66
 f4 : Int
 f5 : Int
def z72 : S72 := ⟨(0 : Int), (0 : Int), (⟨#[]⟩ : ByteArray), z66, (0 : Int), (0 : Int)⟩
def k72 : Kd S72 := Kd.iso (Kd.pair (Kd.int .i64) (Kd.pair (Kd.int .u8) (Kd.pair Kd.string (Kd.pair k66 (Kd.pair (Kd.int .i64) (Kd.int .i64)))))) (fun x : S72 => (x.f0, x.f1, x.f2, x.f3, x.f4, x.f5))
theorem k72_open {w : World} {x : S72} {cs : List Value} (h : k72.K w x cs) : cs = [.int .i64 x.f0, .int .u8 x.f1, .string x.f2, .int .i64 x.f3.f0, .int .i64 x.f3.f1, .string x.f3.f2, .int .i64 x.f4, .int .i64 x.f5] := by
 obtain ⟨_, _, rfl, rfl, ⟨_, _, rfl, rfl, ⟨_, _, rfl, rfl, ⟨_, _, rfl, s3, ⟨_, _, rfl, rfl, rfl⟩⟩⟩⟩⟩ := h; obtain rfl := k66_open s3; exact rfl
theorem k72_openM {w : World} {base : Nat} {ok : Nat → Prop} {x : S72} {cs : List Value} (h : k72.M w base ok x cs) : cs = [.int .i64 x.f0, .int .u8 x.f1, .string x.f2, .int .i64 x.f3.f0, .int .i64 x.f3.f1, .string x.f3.f2, .int .i64 x.f4, .int .i64 x.f5] := by
 obtain ⟨_, _, rfl, rfl, ⟨_, _, rfl, rfl, ⟨_, _, rfl, rfl, ⟨_, _, rfl, s3, ⟨_, _, rfl, rfl, rfl⟩⟩⟩⟩⟩ := h; obtain rfl := k66_openM s3; exact rfl
theorem k72_mkM (w : World) (base : Nat) (ok : Nat → Prop) (x : S72)  : k72.M w base ok x [.int .i64 x.f0, .int .u8 x.f1, .string x.f2, .int .i64 x.f3.f0, .int .i64 x.f3.f1, .string x.f3.f2, .int .i64 x.f4, .int .i64 x.f5] := ⟨[.int .i64 x.f0], [.int .u8 x.f1, .string x.f2, .int .i64 x.f3.f0, .int .i64 x.f3.f1, .string x.f3.f2, .int .i64 x.f4, .int .i64 x.f5], rfl, rfl, ⟨[.int .u8 x.f1], [.string x.f2, .int .i64 x.f3.f0, .int .i64 x.f3.f1, .string x.f3.f2, .int .i64 x.f4, .int .i64 x.f5], rfl, rfl, ⟨[.string x.f2], [.int .i64 x.f3.f0, .int .i64 x.f3.f1, .string x.f3.f2, .int .i64 x.f4, .int .i64 x.f5], rfl, rfl, ⟨[.int .i64 x.f3.f0, .int .i64 x.f3.f1, .string x.f3.f2], [.int .i64 x.f4, .int .i64 x.f5], rfl, (k66_mkM w base ok x.f3 ), ⟨[.int .i64 x.f4], [.int .i64 x.f5], rfl, rfl, rfl⟩⟩⟩⟩⟩
def rd_T72 (xs : List S72) (i : Int) : S72 := xs.getD i.toNat z72
theorem at_T72 {w : World} {A : Option Addr} {n : Nat} {xs : List S72} (h : Kd.C k72 w A n xs) (i : Int) (h0 : 0 ≤ i) (h1 : i < n) : ∃ ad , A = some ad ∧ w.cell? (ad.add (i.toNat * 8)) = some (.int .i64 (rd_T72 xs i).f0) ∧ w.cell? ⟨(ad.add (i.toNat * 8)).block, (ad.add (i.toNat * 8)).off + 1, none⟩ = some (.int .u8 (rd_T72 xs i).f1) ∧ w.cell? ⟨(ad.add (i.toNat * 8)).block, (ad.add (i.toNat * 8)).off + 2, none⟩ = some (.string (rd_T72 xs i).f2) ∧ w.cell? ⟨(ad.add (i.toNat * 8)).block, (ad.add (i.toNat * 8)).off + 3, none⟩ = some (.int .i64 (rd_T72 xs i).f3.f0) ∧ w.cell? ⟨(ad.add (i.toNat * 8)).block, (ad.add (i.toNat * 8)).off + 4, none⟩ = some (.int .i64 (rd_T72 xs i).f3.f1) ∧ w.cell? ⟨(ad.add (i.toNat * 8)).block, (ad.add (i.toNat * 8)).off + 5, none⟩ = some (.string (rd_T72 xs i).f3.f2) ∧ w.cell? ⟨(ad.add (i.toNat * 8)).block, (ad.add (i.toNat * 8)).off + 6, none⟩ = some (.int .i64 (rd_T72 xs i).f4) ∧ w.cell? ⟨(ad.add (i.toNat * 8)).block, (ad.add (i.toNat * 8)).off + 7, none⟩ = some (.int .i64 (rd_T72 xs i).f5) := by
 obtain ⟨ad, c, e, _, hK, hc0⟩ := Kd.C_get h z72 i h0 h1; have hc : ∀ j u, c[j]? = some u → w.cell? (ad.add (i.toNat * 8 + j)) = some u := hc0
 obtain rfl := k72_open hK; exact ⟨ad, e, hc 0 _ rfl, by rw [← add_field _ _ 1 (by omega)]; exact hc 1 _ rfl, by rw [← add_field _ _ 2 (by omega)]; exact hc 2 _ rfl, by rw [← add_field _ _ 3 (by omega)]; exact hc 3 _ rfl, by rw [← add_field _ _ 4 (by omega)]; exact hc 4 _ rfl, by rw [← add_field _ _ 5 (by omega)]; exact hc 5 _ rfl, by rw [← add_field _ _ 6 (by omega)]; exact hc 6 _ rfl, by rw [← add_field _ _ 7 (by omega)]; exact hc 7 _ rfl⟩
structure S59 where
 f0 : Bool
 f1 : ByteArray
 f2 : (List S68)
def z59 : S59 := ⟨false, (⟨#[]⟩ : ByteArray), ([] : List S68)⟩
def k59 : Kd S59 := Kd.iso (Kd.pair Kd.bool (Kd.pair Kd.string (Kd.slice 68 k68))) (fun x : S59 => (x.f0, x.f1, x.f2))
theorem k59_open {w : World} {x : S59} {cs : List Value} (h : k59.K w x cs) : ∃ A2 c2, cs = [.bool x.f0, .string x.f1, .slice A2 x.f2.length c2] ∧ x.f2.length ≤ c2 ∧ k68.C w A2 x.f2.length x.f2 := by
 obtain ⟨_, _, rfl, rfl, ⟨_, _, rfl, rfl, ⟨A2, c2, rfl, l2, g2⟩⟩⟩ := h; exact ⟨A2, c2, rfl, l2, g2⟩
theorem k59_openM {w : World} {base : Nat} {ok : Nat → Prop} {x : S59} {cs : List Value} (h : k59.M w base ok x cs) : ∃ v2, cs = [.bool x.f0, .string x.f1, v2] ∧ k68.R 68 w base ok v2 x.f2 := by
 obtain ⟨_, _, rfl, rfl, ⟨_, _, rfl, rfl, ⟨v2, rfl, g2⟩⟩⟩ := h; exact ⟨v2, rfl, g2⟩
theorem k59_mkM (w : World) (base : Nat) (ok : Nat → Prop) (x : S59) {v2 : Value} (g2 : k68.R 68 w base ok v2 x.f2) : k59.M w base ok x [.bool x.f0, .string x.f1, v2] := ⟨[.bool x.f0], [.string x.f1, v2], rfl, rfl, ⟨[.string x.f1], [v2], rfl, rfl, ⟨v2, rfl, g2⟩⟩⟩
def rd_T59 (xs : List S59) (i : Int) : S59 := xs.getD i.toNat z59
theorem at_T59 {w : World} {A : Option Addr} {n : Nat} {xs : List S59} (h : Kd.C k59 w A n xs) (i : Int) (h0 : 0 ≤ i) (h1 : i < n) : ∃ ad A2 c2, A = some ad ∧ w.cell? (ad.add (i.toNat * 3)) = some (.bool (rd_T59 xs i).f0) ∧ w.cell? ⟨(ad.add (i.toNat * 3)).block, (ad.add (i.toNat * 3)).off + 1, none⟩ = some (.string (rd_T59 xs i).f1) ∧ w.cell? ⟨(ad.add (i.toNat * 3)).block, (ad.add (i.toNat * 3)).off + 2, none⟩ = some (.slice A2 (rd_T59 xs i).f2.length c2) ∧ (rd_T59 xs i).f2.length ≤ c2 ∧ k68.C w A2 (rd_T59 xs i).f2.length (rd_T59 xs i).f2 := by
 obtain ⟨ad, c, e, _, hK, hc0⟩ := Kd.C_get h z59 i h0 h1; have hc : ∀ j u, c[j]? = some u → w.cell? (ad.add (i.toNat * 3 + j)) = some u := hc0
 obtain ⟨A2, c2, rfl, l2, g2⟩ := k59_open hK; exact ⟨ad, A2, c2, e, hc 0 _ rfl, by rw [← add_field _ _ 1 (by omega)]; exact hc 1 _ rfl, by rw [← add_field _ _ 2 (by omega)]; exact hc 2 _ rfl, l2, g2⟩
structure S46 where
 f0 : Int
 f1 : Int
 f2 : ByteArray
 f3 : (List Int)
def z46 : S46 := ⟨(0 : Int), (0 : Int), (⟨#[]⟩ : ByteArray), ([] : List Int)⟩
def k46 : Kd S46 := Kd.iso (Kd.pair (Kd.int .i64) (Kd.pair (Kd.int .i64) (Kd.pair Kd.string (Kd.slice 3 (Kd.int .i64))))) (fun x : S46 => (x.f0, x.f1, x.f2, x.f3))
theorem k46_open {w : World} {x : S46} {cs : List Value} (h : k46.K w x cs) : ∃ A3 c3, cs = [.int .i64 x.f0, .int .i64 x.f1, .string x.f2, .slice A3 x.f3.length c3] ∧ x.f3.length ≤ c3 ∧ (Kd.int .i64).C w A3 x.f3.length x.f3 := by
 obtain ⟨_, _, rfl, rfl, ⟨_, _, rfl, rfl, ⟨_, _, rfl, rfl, ⟨A3, c3, rfl, l3, g3⟩⟩⟩⟩ := h; exact ⟨A3, c3, rfl, l3, g3⟩
theorem k46_openM {w : World} {base : Nat} {ok : Nat → Prop} {x : S46} {cs : List Value} (h : k46.M w base ok x cs) : ∃ v3, cs = [.int .i64 x.f0, .int .i64 x.f1, .string x.f2, v3] ∧ (Kd.int .i64).R 3 w base ok v3 x.f3 := by
 obtain ⟨_, _, rfl, rfl, ⟨_, _, rfl, rfl, ⟨_, _, rfl, rfl, ⟨v3, rfl, g3⟩⟩⟩⟩ := h; exact ⟨v3, rfl, g3⟩
theorem k46_mkM (w : World) (base : Nat) (ok : Nat → Prop) (x : S46) {v3 : Value} (g3 : (Kd.int .i64).R 3 w base ok v3 x.f3) : k46.M w base ok x [.int .i64 x.f0, .int .i64 x.f1, .string x.f2, v3] := ⟨[.int .i64 x.f0], [.int .i64 x.f1, .string x.f2, v3], rfl, rfl, ⟨[.int .i64 x.f1], [.string x.f2, v3], rfl, rfl, ⟨[.string x.f2], [v3], rfl, rfl, ⟨v3, rfl, g3⟩⟩⟩⟩
def rd_T46 (xs : List S46) (i : Int) : S46 := xs.getD i.toNat z46
theorem at_T46 {w : World} {A : Option Addr} {n : Nat} {xs : List S46} (h : Kd.C k46 w A n xs) (i : Int) (h0 : 0 ≤ i) (h1 : i < n) : ∃ ad A3 c3, A = some ad ∧ w.cell? (ad.add (i.toNat * 4)) = some (.int .i64 (rd_T46 xs i).f0) ∧ w.cell? ⟨(ad.add (i.toNat * 4)).block, (ad.add (i.toNat * 4)).off + 1, none⟩ = some (.int .i64 (rd_T46 xs i).f1) ∧ w.cell? ⟨(ad.add (i.toNat * 4)).block, (ad.add (i.toNat * 4)).off + 2, none⟩ = some (.string (rd_T46 xs i).f2) ∧ w.cell? ⟨(ad.add (i.toNat * 4)).block, (ad.add (i.toNat * 4)).off + 3, none⟩ = some (.slice A3 (rd_T46 xs i).f3.length c3) ∧ (rd_T46 xs i).f3.length ≤ c3 ∧ (Kd.int .i64).C w A3 (rd_T46 xs i).f3.length (rd_T46 xs i).f3 := by
 obtain ⟨ad, c, e, _, hK, hc0⟩ := Kd.C_get h z46 i h0 h1; have hc : ∀ j u, c[j]? = some u → w.cell? (ad.add (i.toNat * 4 + j)) = some u := hc0
 obtain ⟨A3, c3, rfl, l3, g3⟩ := k46_open hK; exact ⟨ad, A3, c3, e, hc 0 _ rfl, by rw [← add_field _ _ 1 (by omega)]; exact hc 1 _ rfl, by rw [← add_field _ _ 2 (by omega)]; exact hc 2 _ rfl, by rw [← add_field _ _ 3 (by omega)]; exact hc 3 _ rfl, l3, g3⟩
structure S42 where
 f0 : ByteArray
 f1 : Int
 f2 : (List S59)
 f3 : (List S72)
 f4 : (List S46)
def z42 : S42 := ⟨(⟨#[]⟩ : ByteArray), (0 : Int), ([] : List S59), ([] : List S72), ([] : List S46)⟩
def k42 : Kd S42 := Kd.iso (Kd.pair Kd.string (Kd.pair (Kd.int .i64) (Kd.pair (Kd.slice 59 k59) (Kd.pair (Kd.slice 72 k72) (Kd.slice 46 k46))))) (fun x : S42 => (x.f0, x.f1, x.f2, x.f3, x.f4))
theorem k42_open {w : World} {x : S42} {cs : List Value} (h : k42.K w x cs) : ∃ A2 c2 A3 c3 A4 c4, cs = [.string x.f0, .int .i64 x.f1, .slice A2 x.f2.length c2, .slice A3 x.f3.length c3, .slice A4 x.f4.length c4] ∧ x.f2.length ≤ c2 ∧ k59.C w A2 x.f2.length x.f2 ∧ x.f3.length ≤ c3 ∧ k72.C w A3 x.f3.length x.f3 ∧ x.f4.length ≤ c4 ∧ k46.C w A4 x.f4.length x.f4 := by
 obtain ⟨_, _, rfl, rfl, ⟨_, _, rfl, rfl, ⟨_, _, rfl, ⟨A2, c2, rfl, l2, g2⟩, ⟨_, _, rfl, ⟨A3, c3, rfl, l3, g3⟩, ⟨A4, c4, rfl, l4, g4⟩⟩⟩⟩⟩ := h; exact ⟨A2, c2, A3, c3, A4, c4, rfl, l2, g2, l3, g3, l4, g4⟩
theorem k42_openM {w : World} {base : Nat} {ok : Nat → Prop} {x : S42} {cs : List Value} (h : k42.M w base ok x cs) : ∃ v2 v3 v4, cs = [.string x.f0, .int .i64 x.f1, v2, v3, v4] ∧ k59.R 59 w base ok v2 x.f2 ∧ k72.R 72 w base ok v3 x.f3 ∧ k46.R 46 w base ok v4 x.f4 := by
 obtain ⟨_, _, rfl, rfl, ⟨_, _, rfl, rfl, ⟨_, _, rfl, ⟨v2, rfl, g2⟩, ⟨_, _, rfl, ⟨v3, rfl, g3⟩, ⟨v4, rfl, g4⟩⟩⟩⟩⟩ := h; exact ⟨v2, v3, v4, rfl, g2, g3, g4⟩
theorem k42_mkM (w : World) (base : Nat) (ok : Nat → Prop) (x : S42) {v2 : Value} (g2 : k59.R 59 w base ok v2 x.f2) {v3 : Value} (g3 : k72.R 72 w base ok v3 x.f3) {v4 : Value} (g4 : k46.R 46 w base ok v4 x.f4) : k42.M w base ok x [.string x.f0, .int .i64 x.f1, v2, v3, v4] := ⟨[.string x.f0], [.int .i64 x.f1, v2, v3, v4], rfl, rfl, ⟨[.int .i64 x.f1], [v2, v3, v4], rfl, rfl, ⟨[v2], [v3, v4], rfl, ⟨v2, rfl, g2⟩, ⟨[v3], [v4], rfl, ⟨v3, rfl, g3⟩, ⟨v4, rfl, g4⟩⟩⟩⟩⟩
def rd_T42 (xs : List S42) (i : Int) : S42 := xs.getD i.toNat z42
theorem at_T42 {w : World} {A : Option Addr} {n : Nat} {xs : List S42} (h : Kd.C k42 w A n xs) (i : Int) (h0 : 0 ≤ i) (h1 : i < n) : ∃ ad A2 c2 A3 c3 A4 c4, A = some ad ∧ w.cell? (ad.add (i.toNat * 5)) = some (.string (rd_T42 xs i).f0) ∧ w.cell? ⟨(ad.add (i.toNat * 5)).block, (ad.add (i.toNat * 5)).off + 1, none⟩ = some (.int .i64 (rd_T42 xs i).f1) ∧ w.cell? ⟨(ad.add (i.toNat * 5)).block, (ad.add (i.toNat * 5)).off + 2, none⟩ = some (.slice A2 (rd_T42 xs i).f2.length c2) ∧ w.cell? ⟨(ad.add (i.toNat * 5)).block, (ad.add (i.toNat * 5)).off + 3, none⟩ = some (.slice A3 (rd_T42 xs i).f3.length c3) ∧ w.cell? ⟨(ad.add (i.toNat * 5)).block, (ad.add (i.toNat * 5)).off + 4, none⟩ = some (.slice A4 (rd_T42 xs i).f4.length c4) ∧ (rd_T42 xs i).f2.length ≤ c2 ∧ k59.C w A2 (rd_T42 xs i).f2.length (rd_T42 xs i).f2 ∧ (rd_T42 xs i).f3.length ≤ c3 ∧ k72.C w A3 (rd_T42 xs i).f3.length (rd_T42 xs i).f3 ∧ (rd_T42 xs i).f4.length ≤ c4 ∧ k46.C w A4 (rd_T42 xs i).f4.length (rd_T42 xs i).f4 := by
 obtain ⟨ad, c, e, _, hK, hc0⟩ := Kd.C_get h z42 i h0 h1; have hc : ∀ j u, c[j]? = some u → w.cell? (ad.add (i.toNat * 5 + j)) = some u := hc0
 obtain ⟨A2, c2, A3, c3, A4, c4, rfl, l2, g2, l3, g3, l4, g4⟩ := k42_open hK; exact ⟨ad, A2, c2, A3, c3, A4, c4, e, hc 0 _ rfl, by rw [← add_field _ _ 1 (by omega)]; exact hc 1 _ rfl, by rw [← add_field _ _ 2 (by omega)]; exact hc 2 _ rfl, by rw [← add_field _ _ 3 (by omega)]; exact hc 3 _ rfl, by rw [← add_field _ _ 4 (by omega)]; exact hc 4 _ rfl, l2, g2, l3, g3, l4, g4⟩
end Go.Proofs.Ytejjlkbbnhpbdaa.P
namespace Go.Proofs.Ytejjlkbbnhpbdaa.P
open Go.Proofs.YtejjlkbbnhpbdaaX
open Go.RowKit Go.Proofs.YtejjlkbbnhpbdaaW.PrintWords Go.Proofs.YtejjlkbbnhpbdaaW.PrintLast Go.Proofs.YtejjlkbbnhpbdaaW.PrintMore
attribute [local go_sem] max2_int min2_int max_two min_two max_three min_three max_four min_four
set_option linter.unusedVariables false
set_option linter.unusedSimpArgs false
def laws_szValue.f (a0_0 : Int) (a0_1 : Int) (a0_2 : ByteArray) (a1 : Int) : Option (Int) := if (wrap64 (a1 - (a0_2.size : Int))) < 0 then (some (-1)) else (some (wrap64 (a1 - (a0_2.size : Int))))
set_option maxHeartbeats 8000000 in
set_option maxRecDepth 100000 in
theorem laws_szValue.calls (a0_0 : Int) (a0_1 : Int) (a0_2 : ByteArray) (a1 : Int) (r : Int) (w : World) (h : laws_szValue.f a0_0 a0_1 a0_2 a1 = some r) :
  Calls Try.prog 61 #[.agg #[.int .i64 a0_0, .int .i64 a0_1, .string a0_2], .int .i64 a1] w fun e w' => e = .returned (.int .i64 r) ∧ Below w.heap.size w w' := by
 have hu91 := Try.underlying91; have HB := a_ (Below.refl w.heap.size w); have H : (if (wrap64 (a1 - (a0_2.size : Int))) < 0 then (some (-1)) else (some (wrap64 (a1 - (a0_2.size : Int))))) = some r := h
 clear h; by_cases c3 : (wrap64 (a1 - (a0_2.size : Int))) < 0
 ·rw [if_pos c3] at H; have c3b0 := decide_eq_true c3; clear c3; obtain rfl := Option.some.inj H; go_enter Try.func61, Try.ntmps61; go_wp2_with (first | ((with_reducible refine gate_dst (N := 2) rfl ?_); refine bx_ 2 #[.int .i64 a0_0, .int .i64 a0_1, .string a0_2] 91 ?_; intro gb101 hg w4 hbox hb; have BK101 := a_ (hbox); have GE101 := mg_ HB hg; replace HB := ms_ HB hb; clear hb hbox hg; obtain ⟨z5_0, z5_1, z5_2, zf5_0, zf5_1, zf5_2⟩ := cz3 BK101)); go_ret; exact ⟨me_, mb_ HB⟩
 ·rw [if_neg c3] at H; have c3b0 := decide_eq_false c3; clear c3; obtain rfl := Option.some.inj H; go_enter Try.func61, Try.ntmps61; go_wp2_with (first | ((with_reducible refine gate_dst (N := 2) rfl ?_); refine bx_ 2 #[.int .i64 a0_0, .int .i64 a0_1, .string a0_2] 91 ?_; intro gb101 hg w6 hbox hb; have BK101 := a_ (hbox); have GE101 := mg_ HB hg; replace HB := ms_ HB hb; clear hb hbox hg; obtain ⟨z7_0, z7_1, z7_2, zf7_0, zf7_1, zf7_2⟩ := cz3 BK101)); go_ret; exact ⟨me_, mb_ HB⟩
def laws_szTerm.f (a0_0 : Int) (a0_1 : Int) (a0_2 : ByteArray) (a0_3 : Int) (a0_4 : Int) (a0_5 : ByteArray) (a1 : Int) : Option (Int) := if (wrap64 (a1 - (a0_2.size : Int))) < 0 then (some (-1)) else ((laws_szValue.f a0_3 a0_4 a0_5 (wrap64 (a1 - (a0_2.size : Int)))).bind fun t103 => (if t103 < 0 then (some (-1)) else (some t103)))
set_option maxHeartbeats 8000000 in
set_option maxRecDepth 100000 in
theorem laws_szTerm.calls (a0_0 : Int) (a0_1 : Int) (a0_2 : ByteArray) (a0_3 : Int) (a0_4 : Int) (a0_5 : ByteArray) (a1 : Int) (r : Int) (w : World) (h : laws_szTerm.f a0_0 a0_1 a0_2 a0_3 a0_4 a0_5 a1 = some r) :
  Calls Try.prog 71 #[.agg #[.int .i64 a0_0, .int .i64 a0_1, .string a0_2, .int .i64 a0_3, .int .i64 a0_4, .string a0_5], .int .i64 a1] w fun e w' => e = .returned (.int .i64 r) ∧ Below w.heap.size w w' := by
 have hu120 := Try.underlying120; have hu91 := Try.underlying91; have HB := a_ (Below.refl w.heap.size w); have H : (if (wrap64 (a1 - (a0_2.size : Int))) < 0 then (some (-1)) else ((laws_szValue.f a0_3 a0_4 a0_5 (wrap64 (a1 - (a0_2.size : Int)))).bind fun t103 => (if t103 < 0 then (some (-1)) else (some t103)))) = some r := h
 clear h; by_cases c3 : (wrap64 (a1 - (a0_2.size : Int))) < 0
 ·rw [if_pos c3] at H; have c3b0 := decide_eq_true c3; clear c3; obtain rfl := Option.some.inj H; go_enter Try.func71, Try.ntmps71; go_wp2_with (first | ((with_reducible refine gate_dst (N := 2) rfl ?_); refine bx_ 2 #[.int .i64 a0_0, .int .i64 a0_1, .string a0_2, .int .i64 a0_3, .int .i64 a0_4, .string a0_5] 120 ?_; intro gb102 hg w4 hbox hb; have BK102 := a_ (hbox); have GE102 := mg_ HB hg; replace HB := ms_ HB hb; clear hb hbox hg; obtain ⟨z5_0, z5_1, z5_2, z5_3, z5_4, z5_5, zf5_0, zf5_1, zf5_2, zf5_3, zf5_4, zf5_5⟩ := cz6 BK102)); go_ret; exact ⟨me_, mb_ HB⟩
 ·rw [if_neg c3] at H; have c3b0 := decide_eq_false c3; clear c3; replace H := Option.bind_eq_some_iff.mp H; obtain ⟨t103, A60, H⟩ := H; have A6 := a_ A60; clear A60; by_cases c7 : t103 < 0
  ·rw [if_pos c7] at H; have c7b0 := decide_eq_true c7; clear c7; obtain rfl := Option.some.inj H; go_enter Try.func71, Try.ntmps71; go_wp2_with (first | ((with_reducible refine gate_dst (N := 2) rfl ?_); refine bx_ 2 #[.int .i64 a0_0, .int .i64 a0_1, .string a0_2, .int .i64 a0_3, .int .i64 a0_4, .string a0_5] 120 ?_; intro gb102 hg w8 hbox hb; have BK102 := a_ (hbox); have GE102 := mg_ HB hg; replace HB := ms_ HB hb; clear hb hbox hg; obtain ⟨z9_0, z9_1, z9_2, z9_3, z9_4, z9_5, zf9_0, zf9_1, zf9_2, zf9_3, zf9_4, zf9_5⟩ := cz6 BK102) | ((with_reducible refine gate_callee (f := 61) rfl ?_); refine goesL_ (some 15) rfl rfl Try.func61 (by kernel_rfl) rfl #[.agg #[.int .i64 a0_3, .int .i64 a0_4, .string a0_5], .int .i64 (wrap64 (a1 - (a0_2.size : Int)))] rfl mw_ ?_; (with_reducible refine (laws_szValue.calls a0_3 a0_4 a0_5 (wrap64 (a1 - (a0_2.size : Int))) t103 _ A6.out).mono ?_); rintro e w10 ⟨rfl, hb⟩; refine ⟨_, rfl, ?_⟩; replace BK102 := mk_ BK102 hb; replace HB := ms_ HB hb; (try clear hb); (try clear hb2); (try clear hk); (try clear hi))); go_ret; exact ⟨me_, mb_ HB⟩
  ·rw [if_neg c7] at H; have c7b0 := decide_eq_false c7; clear c7; obtain rfl := Option.some.inj H; go_enter Try.func71, Try.ntmps71; go_wp2_with (first | ((with_reducible refine gate_dst (N := 2) rfl ?_); refine bx_ 2 #[.int .i64 a0_0, .int .i64 a0_1, .string a0_2, .int .i64 a0_3, .int .i64 a0_4, .string a0_5] 120 ?_; intro gb102 hg w11 hbox hb; have BK102 := a_ (hbox); have GE102 := mg_ HB hg; replace HB := ms_ HB hb; clear hb hbox hg; obtain ⟨z12_0, z12_1, z12_2, z12_3, z12_4, z12_5, zf12_0, zf12_1, zf12_2, zf12_3, zf12_4, zf12_5⟩ := cz6 BK102) | ((with_reducible refine gate_callee (f := 61) rfl ?_); refine goesL_ (some 15) rfl rfl Try.func61 (by kernel_rfl) rfl #[.agg #[.int .i64 a0_3, .int .i64 a0_4, .string a0_5], .int .i64 (wrap64 (a1 - (a0_2.size : Int)))] rfl mw_ ?_; (with_reducible refine (laws_szValue.calls a0_3 a0_4 a0_5 (wrap64 (a1 - (a0_2.size : Int))) t103 _ A6.out).mono ?_); rintro e w13 ⟨rfl, hb⟩; refine ⟨_, rfl, ?_⟩; replace BK102 := mk_ BK102 hb; replace HB := ms_ HB hb; (try clear hb); (try clear hb2); (try clear hk); (try clear hi))); go_ret; exact ⟨me_, mb_ HB⟩
def laws_szTermS.l0 : Nat → List (S120) → Int → Int → Option (Int)
 | 0, _, _, _ => none
 | k + 1, x0, x1, x5 => if x5 < (x0.length : Int) then (if 0 ≤ x5 then ((laws_szTerm.f ((rd_T120 x0 x5).f0) ((rd_T120 x0 x5).f1) ((rd_T120 x0 x5).f2) ((rd_T120 x0 x5).f3.f0) ((rd_T120 x0 x5).f3.f1) ((rd_T120 x0 x5).f3.f2) x1).bind fun t105 => (if t105 < 0 then (some (-1)) else (laws_szTermS.l0 k x0 t105 (wrap64 (x5 + 1))))) else (none)) else (some x1)
def laws_szTermS.f (k : Nat) (l0 : List (S120)) (a1 : Int) : Option (Int) := if (wrap64 (a1 - (l0.length : Int))) < 0 then (some (-1)) else (laws_szTermS.l0 k l0 (wrap64 (a1 - (l0.length : Int))) 0)
theorem laws_szTermS.mono_l : ∀ k, (∀ y0 y1 y2, LeO (laws_szTermS.l0 k y0 y1 y2) (laws_szTermS.l0 (k + 1) y0 y1 y2))
 | 0 => fun _ _ _ r h => by simp [laws_szTermS.l0] at h
 | k + 1 => by
  have ih0 := laws_szTermS.mono_l k
  ·intro y0 y1 y2; unfold laws_szTermS.l0
   repeat' with_reducible first | apply ih0 | apply LeO.refl | apply LeO.none | refine LeO.ite ?_ ?_ | refine LeO.bind ?_ (fun _ => ?_)
theorem laws_szTermS.mono : ∀ a0 a1 k, LeO (laws_szTermS.f k a0 a1) (laws_szTermS.f (k + 1) a0 a1) := by
 intro a0 a1 k; have ih0 := laws_szTermS.mono_l k; unfold laws_szTermS.f
 repeat' with_reducible first | apply ih0 | apply LeO.refl | apply LeO.none | refine LeO.ite ?_ ?_ | refine LeO.bind ?_ (fun _ => ?_)
set_option maxHeartbeats 8000000 in
set_option maxRecDepth 100000 in
theorem laws_szTermS.calls (k : Nat) (A0 : Option Addr) (c0 : Nat) (l0 : List (S120)) (a1 : Int) (r : Int) (w : World) (hr0 : Kd.C k120 w A0 l0.length l0) (hc0 : l0.length ≤ c0) (h : laws_szTermS.f k l0 a1 = some r) :
  Calls Try.prog 60 #[.slice A0 l0.length c0, .int .i64 a1] w fun e w' => e = .returned (.int .i64 r) ∧ Below w.heap.size w w' := by
 have hu120 := Try.underlying120; have HR0 := a_ hr0; have HC0 := a_ hc0; clear hr0 hc0; have HB := a_ (Below.refl w.heap.size w); have H : (if (wrap64 (a1 - (l0.length : Int))) < 0 then (some (-1)) else (laws_szTermS.l0 k l0 (wrap64 (a1 - (l0.length : Int))) 0)) = some r := h
 clear h; by_cases c3 : (wrap64 (a1 - (l0.length : Int))) < 0
 ·rw [if_pos c3] at H; have c3b0 := decide_eq_true c3; clear c3; obtain rfl := Option.some.inj H; go_enter Try.func60, Try.ntmps60; go_wp2; go_ret; exact ⟨me_, mb_ HB⟩
 ·rw [if_neg c3] at H; have c3b0 := decide_eq_false c3; clear c3; have H' := a_ H; clear H; go_enter Try.func60, Try.ntmps60; go_wp2; go_loopg [1, 5] k (fun kq v1 v5 w' => ∃ (x1_1 : Int) (x5_1 : Int), v1 = .int .i64 x1_1 ∧ v5 = .int .i64 x5_1 ∧ Aside0 (laws_szTermS.l0 kq l0 x1_1 x5_1 = some r) ∧ Aside0 (kq ≤ k) ∧ Aside0 (Below w.heap.size w w'))
  case atStart => exact ⟨(wrap64 (a1 - (l0.length : Int))), (0), mq_, mq_, H', ⟨Nat.le_refl _⟩, ⟨mb_ HB⟩⟩
  clear H'; (try clear c3b0); obtain ⟨x1_1, x5_1, rfl, rfl, HA, HK1, HB⟩ := hrel; obtain _ | k1 := gk
  ·exact absurd HA.out (by simp [laws_szTermS.l0])
  have H := HA.out; clear HA; simp only [laws_szTermS.l0] at H; by_cases c4 : x5_1 < (l0.length : Int)
  ·rw [if_pos c4] at H; have c4b0 := decide_eq_true c4; clear c4; by_cases c5 : 0 ≤ x5_1
   case neg => rw [if_neg c5] at H; cases H
   rw [if_pos c5] at H; have c5b0 := decide_eq_true c5; clear c5; replace H := Option.bind_eq_some_iff.mp H; obtain ⟨t105, A60, H⟩ := H; have A6 := a_ A60; clear A60; by_cases c7 : t105 < 0
   ·rw [if_pos c7] at H; have c7b0 := decide_eq_true c7; clear c7; obtain rfl := Option.some.inj H; have p104 : 0 ≤ (x5_1 : Int) := md_
    have q104 : x5_1 < (l0.length : Int) := md_
    obtain ⟨ad104, e104, hx104_0, hx104_1, hx104_2, hx104_3, hx104_4, hx104_5⟩ := at_T120 HR0.out x5_1 p104 q104; cases e104; replace hx104_0 := mx_ HB hx104_0; replace hx104_1 := mx_ HB hx104_1; replace hx104_2 := mx_ HB hx104_2; replace hx104_3 := mx_ HB hx104_3; replace hx104_4 := mx_ HB hx104_4; replace hx104_5 := mx_ HB hx104_5; replace p104 := eq_true p104; replace q104 := eq_true q104; go_wp2_with (first | ((with_reducible refine gate_callee (f := 71) rfl ?_); refine goesL_ (some 23) rfl rfl Try.func71 (by kernel_rfl) rfl #[.agg #[.int .i64 ((rd_T120 l0 x5_1).f0), .int .i64 ((rd_T120 l0 x5_1).f1), .string ((rd_T120 l0 x5_1).f2), .int .i64 ((rd_T120 l0 x5_1).f3.f0), .int .i64 ((rd_T120 l0 x5_1).f3.f1), .string ((rd_T120 l0 x5_1).f3.f2)], .int .i64 x1_1] rfl mw_ ?_; (with_reducible refine (laws_szTerm.calls ((rd_T120 l0 x5_1).f0) ((rd_T120 l0 x5_1).f1) ((rd_T120 l0 x5_1).f2) ((rd_T120 l0 x5_1).f3.f0) ((rd_T120 l0 x5_1).f3.f1) ((rd_T120 l0 x5_1).f3.f2) x1_1 t105 _ A6.out).mono ?_); rintro e w8 ⟨rfl, hb⟩; refine ⟨_, rfl, ?_⟩; replace HB := ms_ HB hb; (try clear hb); (try clear hb2); (try clear hk); (try clear hi))); go_ret; exact ⟨me_, mb_ HB⟩
   ·rw [if_neg c7] at H; have c7b0 := decide_eq_false c7; clear c7; have H' := a_ H; clear H; have p104 : 0 ≤ (x5_1 : Int) := md_
    have q104 : x5_1 < (l0.length : Int) := md_
    obtain ⟨ad104, e104, hx104_0, hx104_1, hx104_2, hx104_3, hx104_4, hx104_5⟩ := at_T120 HR0.out x5_1 p104 q104; cases e104; replace hx104_0 := mx_ HB hx104_0; replace hx104_1 := mx_ HB hx104_1; replace hx104_2 := mx_ HB hx104_2; replace hx104_3 := mx_ HB hx104_3; replace hx104_4 := mx_ HB hx104_4; replace hx104_5 := mx_ HB hx104_5; replace p104 := eq_true p104; replace q104 := eq_true q104; go_wp2_with (first | ((with_reducible refine gate_callee (f := 71) rfl ?_); refine goesL_ (some 23) rfl rfl Try.func71 (by kernel_rfl) rfl #[.agg #[.int .i64 ((rd_T120 l0 x5_1).f0), .int .i64 ((rd_T120 l0 x5_1).f1), .string ((rd_T120 l0 x5_1).f2), .int .i64 ((rd_T120 l0 x5_1).f3.f0), .int .i64 ((rd_T120 l0 x5_1).f3.f1), .string ((rd_T120 l0 x5_1).f3.f2)], .int .i64 x1_1] rfl mw_ ?_; (with_reducible refine (laws_szTerm.calls ((rd_T120 l0 x5_1).f0) ((rd_T120 l0 x5_1).f1) ((rd_T120 l0 x5_1).f2) ((rd_T120 l0 x5_1).f3.f0) ((rd_T120 l0 x5_1).f3.f1) ((rd_T120 l0 x5_1).f3.f2) x1_1 t105 _ A6.out).mono ?_); rintro e w9 ⟨rfl, hb⟩; refine ⟨_, rfl, ?_⟩; replace HB := ms_ HB hb; (try clear hb); (try clear hb2); (try clear hk); (try clear hi))); go_roundg k1
    case measure => have := HK1.out; omega
    case rel => exact ⟨(t105), (wrap64 (x5_1 + 1)), mq_, mq_, H', ⟨by have := HK1.out; omega⟩, ⟨mb_ HB⟩⟩
  ·rw [if_neg c4] at H; have c4b0 := decide_eq_false c4; clear c4; obtain rfl := Option.some.inj H; go_wp2; go_ret; exact ⟨me_, mb_ HB⟩
def laws_szPattern.f (k : Nat) (a0_0 : Bool) (a0_1 : ByteArray) (l0_2 : List (S120)) (a1 : Int) : Option (Int) := if (wrap64 (a1 - (a0_1.size : Int))) < 0 then (some (-1)) else ((laws_szTermS.f k l0_2 (wrap64 (a1 - (a0_1.size : Int)))).bind fun t107 => (if t107 < 0 then (some (-1)) else (some t107)))
theorem laws_szPattern.mono : ∀ a0 a1 a2 a3 k, LeO (laws_szPattern.f k a0 a1 a2 a3) (laws_szPattern.f (k + 1) a0 a1 a2 a3) := by
 intro a0 a1 a2 a3 k; unfold laws_szPattern.f
 repeat' with_reducible first | apply laws_szTermS.mono | apply LeO.refl | apply LeO.none | refine LeO.ite ?_ ?_ | refine LeO.bind ?_ (fun _ => ?_)
set_option maxHeartbeats 8000000 in
set_option maxRecDepth 100000 in
theorem laws_szPattern.calls (k : Nat) (a0_0 : Bool) (a0_1 : ByteArray) (A0_2 : Option Addr) (c0_2 : Nat) (l0_2 : List (S120)) (a1 : Int) (r : Int) (w : World) (hr0_2 : Kd.C k120 w A0_2 l0_2.length l0_2) (hc0_2 : l0_2.length ≤ c0_2) (h : laws_szPattern.f k a0_0 a0_1 l0_2 a1 = some r) :
  Calls Try.prog 39 #[.agg #[.bool a0_0, .string a0_1, .slice A0_2 l0_2.length c0_2], .int .i64 a1] w fun e w' => e = .returned (.int .i64 r) ∧ Below w.heap.size w w' := by
 have hu89 := Try.underlying89; have HR0_2 := a_ hr0_2; have HC0_2 := a_ hc0_2; clear hr0_2 hc0_2; have HB := a_ (Below.refl w.heap.size w); have H : (if (wrap64 (a1 - (a0_1.size : Int))) < 0 then (some (-1)) else ((laws_szTermS.f k l0_2 (wrap64 (a1 - (a0_1.size : Int)))).bind fun t107 => (if t107 < 0 then (some (-1)) else (some t107)))) = some r := h
 clear h; by_cases c3 : (wrap64 (a1 - (a0_1.size : Int))) < 0
 ·rw [if_pos c3] at H; have c3b0 := decide_eq_true c3; clear c3; obtain rfl := Option.some.inj H; go_enter Try.func39, Try.ntmps39; go_wp2_with (first | ((with_reducible refine gate_dst (N := 2) rfl ?_); refine bx_ 2 #[.bool a0_0, .string a0_1, .slice A0_2 l0_2.length c0_2] 89 ?_; intro gb106 hg w4 hbox hb; have BK106 := a_ (hbox); have GE106 := mg_ HB hg; replace HB := ms_ HB hb; clear hb hbox hg; obtain ⟨z5_0, z5_1, z5_2, zf5_0, zf5_1, zf5_2⟩ := cz3 BK106)); go_ret; exact ⟨me_, mb_ HB⟩
 ·rw [if_neg c3] at H; have c3b0 := decide_eq_false c3; clear c3; replace H := Option.bind_eq_some_iff.mp H; obtain ⟨t107, A60, H⟩ := H; have A6 := a_ A60; clear A60; by_cases c7 : t107 < 0
  ·rw [if_pos c7] at H; have c7b0 := decide_eq_true c7; clear c7; obtain rfl := Option.some.inj H; go_enter Try.func39, Try.ntmps39; go_wp2_with (first | ((with_reducible refine gate_dst (N := 2) rfl ?_); refine bx_ 2 #[.bool a0_0, .string a0_1, .slice A0_2 l0_2.length c0_2] 89 ?_; intro gb106 hg w8 hbox hb; have BK106 := a_ (hbox); have GE106 := mg_ HB hg; replace HB := ms_ HB hb; clear hb hbox hg; obtain ⟨z9_0, z9_1, z9_2, zf9_0, zf9_1, zf9_2⟩ := cz3 BK106) | ((with_reducible refine gate_callee (f := 60) rfl ?_); refine goesL_ (some 15) rfl rfl Try.func60 (by kernel_rfl) rfl #[.slice A0_2 l0_2.length c0_2, .int .i64 (wrap64 (a1 - (a0_1.size : Int)))] rfl mw_ ?_; (with_reducible refine (laws_szTermS.calls k _ _ l0_2 (wrap64 (a1 - (a0_1.size : Int))) t107 _ ?side1 ?side2 A6.out).mono ?_); (case side1 => repeat (first | exact (Kd.C_below HR0_2.out HB.out) | (with_reducible refine Kd.C_alloc ?_ _) | (with_reducible refine Kd.C_drewN ?_ _) | (with_reducible refine Kd.C_drew ?_))); (case side2 => exact HC0_2.out); rintro e w10 ⟨rfl, hb⟩; refine ⟨_, rfl, ?_⟩; replace BK106 := mk_ BK106 hb; replace HB := ms_ HB hb; (try clear hb); (try clear hb2); (try clear hk); (try clear hi))); go_ret; exact ⟨me_, mb_ HB⟩
  ·rw [if_neg c7] at H; have c7b0 := decide_eq_false c7; clear c7; obtain rfl := Option.some.inj H; go_enter Try.func39, Try.ntmps39; go_wp2_with (first | ((with_reducible refine gate_dst (N := 2) rfl ?_); refine bx_ 2 #[.bool a0_0, .string a0_1, .slice A0_2 l0_2.length c0_2] 89 ?_; intro gb106 hg w11 hbox hb; have BK106 := a_ (hbox); have GE106 := mg_ HB hg; replace HB := ms_ HB hb; clear hb hbox hg; obtain ⟨z12_0, z12_1, z12_2, zf12_0, zf12_1, zf12_2⟩ := cz3 BK106) | ((with_reducible refine gate_callee (f := 60) rfl ?_); refine goesL_ (some 15) rfl rfl Try.func60 (by kernel_rfl) rfl #[.slice A0_2 l0_2.length c0_2, .int .i64 (wrap64 (a1 - (a0_1.size : Int)))] rfl mw_ ?_; (with_reducible refine (laws_szTermS.calls k _ _ l0_2 (wrap64 (a1 - (a0_1.size : Int))) t107 _ ?side1 ?side2 A6.out).mono ?_); (case side1 => repeat (first | exact (Kd.C_below HR0_2.out HB.out) | (with_reducible refine Kd.C_alloc ?_ _) | (with_reducible refine Kd.C_drewN ?_ _) | (with_reducible refine Kd.C_drew ?_))); (case side2 => exact HC0_2.out); rintro e w13 ⟨rfl, hb⟩; refine ⟨_, rfl, ?_⟩; replace BK106 := mk_ BK106 hb; replace HB := ms_ HB hb; (try clear hb); (try clear hb2); (try clear hk); (try clear hi))); go_ret; exact ⟨me_, mb_ HB⟩
def laws_szPatternS.l0 : Nat → List (S89) → Int → Int → Option (Int)
 | 0, _, _, _ => none
 | k + 1, x0, x1, x5 => if x5 < (x0.length : Int) then (if 0 ≤ x5 then ((laws_szPattern.f k ((rd_T89 x0 x5).f0) ((rd_T89 x0 x5).f1) ((rd_T89 x0 x5).f2) x1).bind fun t109 => (if t109 < 0 then (some (-1)) else (laws_szPatternS.l0 k x0 t109 (wrap64 (x5 + 1))))) else (none)) else (some x1)
def laws_szPatternS.f (k : Nat) (l0 : List (S89)) (a1 : Int) : Option (Int) := if (wrap64 (a1 - (l0.length : Int))) < 0 then (some (-1)) else (laws_szPatternS.l0 k l0 (wrap64 (a1 - (l0.length : Int))) 0)
theorem laws_szPatternS.mono_l : ∀ k, (∀ y0 y1 y2, LeO (laws_szPatternS.l0 k y0 y1 y2) (laws_szPatternS.l0 (k + 1) y0 y1 y2))
 | 0 => fun _ _ _ r h => by simp [laws_szPatternS.l0] at h
 | k + 1 => by
  have ih0 := laws_szPatternS.mono_l k
  ·intro y0 y1 y2; unfold laws_szPatternS.l0
   repeat' with_reducible first | apply ih0 | apply laws_szPattern.mono | apply LeO.refl | apply LeO.none | refine LeO.ite ?_ ?_ | refine LeO.bind ?_ (fun _ => ?_)
theorem laws_szPatternS.mono : ∀ a0 a1 k, LeO (laws_szPatternS.f k a0 a1) (laws_szPatternS.f (k + 1) a0 a1) := by
 intro a0 a1 k; have ih0 := laws_szPatternS.mono_l k; unfold laws_szPatternS.f
 repeat' with_reducible first | apply ih0 | apply laws_szPattern.mono | apply LeO.refl | apply LeO.none | refine LeO.ite ?_ ?_ | refine LeO.bind ?_ (fun _ => ?_)
set_option maxHeartbeats 8000000 in
set_option maxRecDepth 100000 in
theorem laws_szPatternS.calls (k : Nat) (A0 : Option Addr) (c0 : Nat) (l0 : List (S89)) (a1 : Int) (r : Int) (w : World) (hr0 : Kd.C k89 w A0 l0.length l0) (hc0 : l0.length ≤ c0) (h : laws_szPatternS.f k l0 a1 = some r) :
  Calls Try.prog 20 #[.slice A0 l0.length c0, .int .i64 a1] w fun e w' => e = .returned (.int .i64 r) ∧ Below w.heap.size w w' := by
 have hu89 := Try.underlying89; have HR0 := a_ hr0; have HC0 := a_ hc0; clear hr0 hc0; have HB := a_ (Below.refl w.heap.size w); have H : (if (wrap64 (a1 - (l0.length : Int))) < 0 then (some (-1)) else (laws_szPatternS.l0 k l0 (wrap64 (a1 - (l0.length : Int))) 0)) = some r := h
 clear h; by_cases c3 : (wrap64 (a1 - (l0.length : Int))) < 0
 ·rw [if_pos c3] at H; have c3b0 := decide_eq_true c3; clear c3; obtain rfl := Option.some.inj H; go_enter Try.func20, Try.ntmps20; go_wp2; go_ret; exact ⟨me_, mb_ HB⟩
 ·rw [if_neg c3] at H; have c3b0 := decide_eq_false c3; clear c3; have H' := a_ H; clear H; go_enter Try.func20, Try.ntmps20; go_wp2; go_loopg [1, 5] k (fun kq v1 v5 w' => ∃ (x1_1 : Int) (x5_1 : Int), v1 = .int .i64 x1_1 ∧ v5 = .int .i64 x5_1 ∧ Aside0 (laws_szPatternS.l0 kq l0 x1_1 x5_1 = some r) ∧ Aside0 (kq ≤ k) ∧ Aside0 (Below w.heap.size w w'))
  case atStart => exact ⟨(wrap64 (a1 - (l0.length : Int))), (0), mq_, mq_, H', ⟨Nat.le_refl _⟩, ⟨mb_ HB⟩⟩
  clear H'; (try clear c3b0); obtain ⟨x1_1, x5_1, rfl, rfl, HA, HK1, HB⟩ := hrel; obtain _ | k1 := gk
  ·exact absurd HA.out (by simp [laws_szPatternS.l0])
  have H := HA.out; clear HA; simp only [laws_szPatternS.l0] at H; by_cases c4 : x5_1 < (l0.length : Int)
  ·rw [if_pos c4] at H; have c4b0 := decide_eq_true c4; clear c4; by_cases c5 : 0 ≤ x5_1
   case neg => rw [if_neg c5] at H; cases H
   rw [if_pos c5] at H; have c5b0 := decide_eq_true c5; clear c5; replace H := Option.bind_eq_some_iff.mp H; obtain ⟨t109, A60, H⟩ := H; have A6 := a_ A60; clear A60; by_cases c7 : t109 < 0
   ·rw [if_pos c7] at H; have c7b0 := decide_eq_true c7; clear c7; obtain rfl := Option.some.inj H; have p108 : 0 ≤ (x5_1 : Int) := md_
    have q108 : x5_1 < (l0.length : Int) := md_
    obtain ⟨ad108, A108_2, c108_2, e108, hx108_0, hx108_1, hx108_2, hl108_2, hi108_2⟩ := at_T89 HR0.out x5_1 p108 q108; cases e108; replace hx108_0 := mx_ HB hx108_0; replace hx108_1 := mx_ HB hx108_1; replace hx108_2 := mx_ HB hx108_2; have HR108_2 := a_ hi108_2; have HC108_2 := a_ hl108_2; clear hi108_2 hl108_2; replace p108 := eq_true p108; replace q108 := eq_true q108; go_wp2_with (first | ((with_reducible refine gate_callee (f := 39) rfl ?_); refine goesL_ (some 23) rfl rfl Try.func39 (by kernel_rfl) rfl #[.agg #[.bool ((rd_T89 l0 x5_1).f0), .string ((rd_T89 l0 x5_1).f1), .slice A108_2 ((rd_T89 l0 x5_1).f2).length c108_2], .int .i64 x1_1] rfl mw_ ?_; (with_reducible refine (laws_szPattern.calls k1 ((rd_T89 l0 x5_1).f0) ((rd_T89 l0 x5_1).f1) _ _ ((rd_T89 l0 x5_1).f2) x1_1 t109 _ ?side1 ?side2 A6.out).mono ?_); (case side1 => repeat (first | exact (Kd.C_below HR108_2.out HB.out) | (with_reducible refine Kd.C_alloc ?_ _) | (with_reducible refine Kd.C_drewN ?_ _) | (with_reducible refine Kd.C_drew ?_))); (case side2 => exact HC108_2.out); rintro e w8 ⟨rfl, hb⟩; refine ⟨_, rfl, ?_⟩; replace HB := ms_ HB hb; (try clear hb); (try clear hb2); (try clear hk); (try clear hi))); go_ret; exact ⟨me_, mb_ HB⟩
   ·rw [if_neg c7] at H; have c7b0 := decide_eq_false c7; clear c7; have H' := a_ H; clear H; have p108 : 0 ≤ (x5_1 : Int) := md_
    have q108 : x5_1 < (l0.length : Int) := md_
    obtain ⟨ad108, A108_2, c108_2, e108, hx108_0, hx108_1, hx108_2, hl108_2, hi108_2⟩ := at_T89 HR0.out x5_1 p108 q108; cases e108; replace hx108_0 := mx_ HB hx108_0; replace hx108_1 := mx_ HB hx108_1; replace hx108_2 := mx_ HB hx108_2; have HR108_2 := a_ hi108_2; have HC108_2 := a_ hl108_2; clear hi108_2 hl108_2; replace p108 := eq_true p108; replace q108 := eq_true q108; go_wp2_with (first | ((with_reducible refine gate_callee (f := 39) rfl ?_); refine goesL_ (some 23) rfl rfl Try.func39 (by kernel_rfl) rfl #[.agg #[.bool ((rd_T89 l0 x5_1).f0), .string ((rd_T89 l0 x5_1).f1), .slice A108_2 ((rd_T89 l0 x5_1).f2).length c108_2], .int .i64 x1_1] rfl mw_ ?_; (with_reducible refine (laws_szPattern.calls k1 ((rd_T89 l0 x5_1).f0) ((rd_T89 l0 x5_1).f1) _ _ ((rd_T89 l0 x5_1).f2) x1_1 t109 _ ?side1 ?side2 A6.out).mono ?_); (case side1 => repeat (first | exact (Kd.C_below HR108_2.out HB.out) | (with_reducible refine Kd.C_alloc ?_ _) | (with_reducible refine Kd.C_drewN ?_ _) | (with_reducible refine Kd.C_drew ?_))); (case side2 => exact HC108_2.out); rintro e w9 ⟨rfl, hb⟩; refine ⟨_, rfl, ?_⟩; replace HB := ms_ HB hb; (try clear hb); (try clear hb2); (try clear hk); (try clear hi))); go_roundg k1
    case measure => have := HK1.out; omega
    case rel => exact ⟨(t109), (wrap64 (x5_1 + 1)), mq_, mq_, H', ⟨by have := HK1.out; omega⟩, ⟨mb_ HB⟩⟩
  ·rw [if_neg c4] at H; have c4b0 := decide_eq_false c4; clear c4; obtain rfl := Option.some.inj H; go_wp2; go_ret; exact ⟨me_, mb_ HB⟩
def laws_szExpr.f (a0_0 : Int) (a0_1 : Int) (a0_2 : ByteArray) (a0_3 : Int) (a0_4 : Int) (a0_5 : ByteArray) (a0_6 : Int) (a0_7 : Int) (a1 : Int) : Option (Int) := if (wrap64 (a1 - (a0_2.size : Int))) < 0 then (some (-1)) else ((laws_szValue.f a0_3 a0_4 a0_5 (wrap64 (a1 - (a0_2.size : Int)))).bind fun t111 => (if t111 < 0 then (some (-1)) else (some t111)))
set_option maxHeartbeats 8000000 in
set_option maxRecDepth 100000 in
theorem laws_szExpr.calls (a0_0 : Int) (a0_1 : Int) (a0_2 : ByteArray) (a0_3 : Int) (a0_4 : Int) (a0_5 : ByteArray) (a0_6 : Int) (a0_7 : Int) (a1 : Int) (r : Int) (w : World) (h : laws_szExpr.f a0_0 a0_1 a0_2 a0_3 a0_4 a0_5 a0_6 a0_7 a1 = some r) :
  Calls Try.prog 40 #[.agg #[.int .i64 a0_0, .int .u8 a0_1, .string a0_2, .int .i64 a0_3, .int .i64 a0_4, .string a0_5, .int .i64 a0_6, .int .i64 a0_7], .int .i64 a1] w fun e w' => e = .returned (.int .i64 r) ∧ Below w.heap.size w w' := by
 have hu93 := Try.underlying93; have hu91 := Try.underlying91; have HB := a_ (Below.refl w.heap.size w); have H : (if (wrap64 (a1 - (a0_2.size : Int))) < 0 then (some (-1)) else ((laws_szValue.f a0_3 a0_4 a0_5 (wrap64 (a1 - (a0_2.size : Int)))).bind fun t111 => (if t111 < 0 then (some (-1)) else (some t111)))) = some r := h
 clear h; by_cases c3 : (wrap64 (a1 - (a0_2.size : Int))) < 0
 ·rw [if_pos c3] at H; have c3b0 := decide_eq_true c3; clear c3; obtain rfl := Option.some.inj H; go_enter Try.func40, Try.ntmps40; go_wp2_with (first | ((with_reducible refine gate_dst (N := 2) rfl ?_); refine bx_ 2 #[.int .i64 a0_0, .int .u8 a0_1, .string a0_2, .int .i64 a0_3, .int .i64 a0_4, .string a0_5, .int .i64 a0_6, .int .i64 a0_7] 93 ?_; intro gb110 hg w4 hbox hb; have BK110 := a_ (hbox); have GE110 := mg_ HB hg; replace HB := ms_ HB hb; clear hb hbox hg; obtain ⟨z5_0, z5_1, z5_2, z5_3, z5_4, z5_5, z5_6, z5_7, zf5_0, zf5_1, zf5_2, zf5_3, zf5_4, zf5_5, zf5_6, zf5_7⟩ := cz8 BK110)); go_ret; exact ⟨me_, mb_ HB⟩
 ·rw [if_neg c3] at H; have c3b0 := decide_eq_false c3; clear c3; replace H := Option.bind_eq_some_iff.mp H; obtain ⟨t111, A60, H⟩ := H; have A6 := a_ A60; clear A60; by_cases c7 : t111 < 0
  ·rw [if_pos c7] at H; have c7b0 := decide_eq_true c7; clear c7; obtain rfl := Option.some.inj H; go_enter Try.func40, Try.ntmps40; go_wp2_with (first | ((with_reducible refine gate_dst (N := 2) rfl ?_); refine bx_ 2 #[.int .i64 a0_0, .int .u8 a0_1, .string a0_2, .int .i64 a0_3, .int .i64 a0_4, .string a0_5, .int .i64 a0_6, .int .i64 a0_7] 93 ?_; intro gb110 hg w8 hbox hb; have BK110 := a_ (hbox); have GE110 := mg_ HB hg; replace HB := ms_ HB hb; clear hb hbox hg; obtain ⟨z9_0, z9_1, z9_2, z9_3, z9_4, z9_5, z9_6, z9_7, zf9_0, zf9_1, zf9_2, zf9_3, zf9_4, zf9_5, zf9_6, zf9_7⟩ := cz8 BK110) | ((with_reducible refine gate_callee (f := 61) rfl ?_); refine goesL_ (some 15) rfl rfl Try.func61 (by kernel_rfl) rfl #[.agg #[.int .i64 a0_3, .int .i64 a0_4, .string a0_5], .int .i64 (wrap64 (a1 - (a0_2.size : Int)))] rfl mw_ ?_; (with_reducible refine (laws_szValue.calls a0_3 a0_4 a0_5 (wrap64 (a1 - (a0_2.size : Int))) t111 _ A6.out).mono ?_); rintro e w10 ⟨rfl, hb⟩; refine ⟨_, rfl, ?_⟩; replace BK110 := mk_ BK110 hb; replace HB := ms_ HB hb; (try clear hb); (try clear hb2); (try clear hk); (try clear hi))); go_ret; exact ⟨me_, mb_ HB⟩
  ·rw [if_neg c7] at H; have c7b0 := decide_eq_false c7; clear c7; obtain rfl := Option.some.inj H; go_enter Try.func40, Try.ntmps40; go_wp2_with (first | ((with_reducible refine gate_dst (N := 2) rfl ?_); refine bx_ 2 #[.int .i64 a0_0, .int .u8 a0_1, .string a0_2, .int .i64 a0_3, .int .i64 a0_4, .string a0_5, .int .i64 a0_6, .int .i64 a0_7] 93 ?_; intro gb110 hg w11 hbox hb; have BK110 := a_ (hbox); have GE110 := mg_ HB hg; replace HB := ms_ HB hb; clear hb hbox hg; obtain ⟨z12_0, z12_1, z12_2, z12_3, z12_4, z12_5, z12_6, z12_7, zf12_0, zf12_1, zf12_2, zf12_3, zf12_4, zf12_5, zf12_6, zf12_7⟩ := cz8 BK110) | ((with_reducible refine gate_callee (f := 61) rfl ?_); refine goesL_ (some 15) rfl rfl Try.func61 (by kernel_rfl) rfl #[.agg #[.int .i64 a0_3, .int .i64 a0_4, .string a0_5], .int .i64 (wrap64 (a1 - (a0_2.size : Int)))] rfl mw_ ?_; (with_reducible refine (laws_szValue.calls a0_3 a0_4 a0_5 (wrap64 (a1 - (a0_2.size : Int))) t111 _ A6.out).mono ?_); rintro e w13 ⟨rfl, hb⟩; refine ⟨_, rfl, ?_⟩; replace BK110 := mk_ BK110 hb; replace HB := ms_ HB hb; (try clear hb); (try clear hb2); (try clear hk); (try clear hi))); go_ret; exact ⟨me_, mb_ HB⟩
def laws_szExprS.l0 : Nat → List (S93) → Int → Int → Option (Int)
 | 0, _, _, _ => none
 | k + 1, x0, x1, x5 => if x5 < (x0.length : Int) then (if 0 ≤ x5 then ((laws_szExpr.f ((rd_T93 x0 x5).f0) ((rd_T93 x0 x5).f1) ((rd_T93 x0 x5).f2) ((rd_T93 x0 x5).f3.f0) ((rd_T93 x0 x5).f3.f1) ((rd_T93 x0 x5).f3.f2) ((rd_T93 x0 x5).f4) ((rd_T93 x0 x5).f5) x1).bind fun t113 => (if t113 < 0 then (some (-1)) else (laws_szExprS.l0 k x0 t113 (wrap64 (x5 + 1))))) else (none)) else (some x1)
def laws_szExprS.f (k : Nat) (l0 : List (S93)) (a1 : Int) : Option (Int) := if (wrap64 (a1 - (l0.length : Int))) < 0 then (some (-1)) else (laws_szExprS.l0 k l0 (wrap64 (a1 - (l0.length : Int))) 0)
theorem laws_szExprS.mono_l : ∀ k, (∀ y0 y1 y2, LeO (laws_szExprS.l0 k y0 y1 y2) (laws_szExprS.l0 (k + 1) y0 y1 y2))
 | 0 => fun _ _ _ r h => by simp [laws_szExprS.l0] at h
 | k + 1 => by
  have ih0 := laws_szExprS.mono_l k
  ·intro y0 y1 y2; unfold laws_szExprS.l0
   repeat' with_reducible first | apply ih0 | apply LeO.refl | apply LeO.none | refine LeO.ite ?_ ?_ | refine LeO.bind ?_ (fun _ => ?_)
theorem laws_szExprS.mono : ∀ a0 a1 k, LeO (laws_szExprS.f k a0 a1) (laws_szExprS.f (k + 1) a0 a1) := by
 intro a0 a1 k; have ih0 := laws_szExprS.mono_l k; unfold laws_szExprS.f
 repeat' with_reducible first | apply ih0 | apply LeO.refl | apply LeO.none | refine LeO.ite ?_ ?_ | refine LeO.bind ?_ (fun _ => ?_)
set_option maxHeartbeats 8000000 in
set_option maxRecDepth 100000 in
theorem laws_szExprS.calls (k : Nat) (A0 : Option Addr) (c0 : Nat) (l0 : List (S93)) (a1 : Int) (r : Int) (w : World) (hr0 : Kd.C k93 w A0 l0.length l0) (hc0 : l0.length ≤ c0) (h : laws_szExprS.f k l0 a1 = some r) :
  Calls Try.prog 21 #[.slice A0 l0.length c0, .int .i64 a1] w fun e w' => e = .returned (.int .i64 r) ∧ Below w.heap.size w w' := by
 have hu93 := Try.underlying93; have HR0 := a_ hr0; have HC0 := a_ hc0; clear hr0 hc0; have HB := a_ (Below.refl w.heap.size w); have H : (if (wrap64 (a1 - (l0.length : Int))) < 0 then (some (-1)) else (laws_szExprS.l0 k l0 (wrap64 (a1 - (l0.length : Int))) 0)) = some r := h
 clear h; by_cases c3 : (wrap64 (a1 - (l0.length : Int))) < 0
 ·rw [if_pos c3] at H; have c3b0 := decide_eq_true c3; clear c3; obtain rfl := Option.some.inj H; go_enter Try.func21, Try.ntmps21; go_wp2; go_ret; exact ⟨me_, mb_ HB⟩
 ·rw [if_neg c3] at H; have c3b0 := decide_eq_false c3; clear c3; have H' := a_ H; clear H; go_enter Try.func21, Try.ntmps21; go_wp2; go_loopg [1, 5] k (fun kq v1 v5 w' => ∃ (x1_1 : Int) (x5_1 : Int), v1 = .int .i64 x1_1 ∧ v5 = .int .i64 x5_1 ∧ Aside0 (laws_szExprS.l0 kq l0 x1_1 x5_1 = some r) ∧ Aside0 (kq ≤ k) ∧ Aside0 (Below w.heap.size w w'))
  case atStart => exact ⟨(wrap64 (a1 - (l0.length : Int))), (0), mq_, mq_, H', ⟨Nat.le_refl _⟩, ⟨mb_ HB⟩⟩
  clear H'; (try clear c3b0); obtain ⟨x1_1, x5_1, rfl, rfl, HA, HK1, HB⟩ := hrel; obtain _ | k1 := gk
  ·exact absurd HA.out (by simp [laws_szExprS.l0])
  have H := HA.out; clear HA; simp only [laws_szExprS.l0] at H; by_cases c4 : x5_1 < (l0.length : Int)
  ·rw [if_pos c4] at H; have c4b0 := decide_eq_true c4; clear c4; by_cases c5 : 0 ≤ x5_1
   case neg => rw [if_neg c5] at H; cases H
   rw [if_pos c5] at H; have c5b0 := decide_eq_true c5; clear c5; replace H := Option.bind_eq_some_iff.mp H; obtain ⟨t113, A60, H⟩ := H; have A6 := a_ A60; clear A60; by_cases c7 : t113 < 0
   ·rw [if_pos c7] at H; have c7b0 := decide_eq_true c7; clear c7; obtain rfl := Option.some.inj H; have p112 : 0 ≤ (x5_1 : Int) := md_
    have q112 : x5_1 < (l0.length : Int) := md_
    obtain ⟨ad112, e112, hx112_0, hx112_1, hx112_2, hx112_3, hx112_4, hx112_5, hx112_6, hx112_7⟩ := at_T93 HR0.out x5_1 p112 q112; cases e112; replace hx112_0 := mx_ HB hx112_0; replace hx112_1 := mx_ HB hx112_1; replace hx112_2 := mx_ HB hx112_2; replace hx112_3 := mx_ HB hx112_3; replace hx112_4 := mx_ HB hx112_4; replace hx112_5 := mx_ HB hx112_5; replace hx112_6 := mx_ HB hx112_6; replace hx112_7 := mx_ HB hx112_7; replace p112 := eq_true p112; replace q112 := eq_true q112; go_wp2_with (first | ((with_reducible refine gate_callee (f := 40) rfl ?_); refine goesL_ (some 23) rfl rfl Try.func40 (by kernel_rfl) rfl #[.agg #[.int .i64 ((rd_T93 l0 x5_1).f0), .int .u8 ((rd_T93 l0 x5_1).f1), .string ((rd_T93 l0 x5_1).f2), .int .i64 ((rd_T93 l0 x5_1).f3.f0), .int .i64 ((rd_T93 l0 x5_1).f3.f1), .string ((rd_T93 l0 x5_1).f3.f2), .int .i64 ((rd_T93 l0 x5_1).f4), .int .i64 ((rd_T93 l0 x5_1).f5)], .int .i64 x1_1] rfl mw_ ?_; (with_reducible refine (laws_szExpr.calls ((rd_T93 l0 x5_1).f0) ((rd_T93 l0 x5_1).f1) ((rd_T93 l0 x5_1).f2) ((rd_T93 l0 x5_1).f3.f0) ((rd_T93 l0 x5_1).f3.f1) ((rd_T93 l0 x5_1).f3.f2) ((rd_T93 l0 x5_1).f4) ((rd_T93 l0 x5_1).f5) x1_1 t113 _ A6.out).mono ?_); rintro e w8 ⟨rfl, hb⟩; refine ⟨_, rfl, ?_⟩; replace HB := ms_ HB hb; (try clear hb); (try clear hb2); (try clear hk); (try clear hi))); go_ret; exact ⟨me_, mb_ HB⟩
   ·rw [if_neg c7] at H; have c7b0 := decide_eq_false c7; clear c7; have H' := a_ H; clear H; have p112 : 0 ≤ (x5_1 : Int) := md_
    have q112 : x5_1 < (l0.length : Int) := md_
    obtain ⟨ad112, e112, hx112_0, hx112_1, hx112_2, hx112_3, hx112_4, hx112_5, hx112_6, hx112_7⟩ := at_T93 HR0.out x5_1 p112 q112; cases e112; replace hx112_0 := mx_ HB hx112_0; replace hx112_1 := mx_ HB hx112_1; replace hx112_2 := mx_ HB hx112_2; replace hx112_3 := mx_ HB hx112_3; replace hx112_4 := mx_ HB hx112_4; replace hx112_5 := mx_ HB hx112_5; replace hx112_6 := mx_ HB hx112_6; replace hx112_7 := mx_ HB hx112_7; replace p112 := eq_true p112; replace q112 := eq_true q112; go_wp2_with (first | ((with_reducible refine gate_callee (f := 40) rfl ?_); refine goesL_ (some 23) rfl rfl Try.func40 (by kernel_rfl) rfl #[.agg #[.int .i64 ((rd_T93 l0 x5_1).f0), .int .u8 ((rd_T93 l0 x5_1).f1), .string ((rd_T93 l0 x5_1).f2), .int .i64 ((rd_T93 l0 x5_1).f3.f0), .int .i64 ((rd_T93 l0 x5_1).f3.f1), .string ((rd_T93 l0 x5_1).f3.f2), .int .i64 ((rd_T93 l0 x5_1).f4), .int .i64 ((rd_T93 l0 x5_1).f5)], .int .i64 x1_1] rfl mw_ ?_; (with_reducible refine (laws_szExpr.calls ((rd_T93 l0 x5_1).f0) ((rd_T93 l0 x5_1).f1) ((rd_T93 l0 x5_1).f2) ((rd_T93 l0 x5_1).f3.f0) ((rd_T93 l0 x5_1).f3.f1) ((rd_T93 l0 x5_1).f3.f2) ((rd_T93 l0 x5_1).f4) ((rd_T93 l0 x5_1).f5) x1_1 t113 _ A6.out).mono ?_); rintro e w9 ⟨rfl, hb⟩; refine ⟨_, rfl, ?_⟩; replace HB := ms_ HB hb; (try clear hb); (try clear hb2); (try clear hk); (try clear hi))); go_roundg k1
    case measure => have := HK1.out; omega
    case rel => exact ⟨(t113), (wrap64 (x5_1 + 1)), mq_, mq_, H', ⟨by have := HK1.out; omega⟩, ⟨mb_ HB⟩⟩
  ·rw [if_neg c4] at H; have c4b0 := decide_eq_false c4; clear c4; obtain rfl := Option.some.inj H; go_wp2; go_ret; exact ⟨me_, mb_ HB⟩
def laws_szIntS.f (l0 : List Int) (a1 : Int) : Option (Int) := if (wrap64 (a1 - (l0.length : Int))) < 0 then (some (-1)) else (some (wrap64 (a1 - (l0.length : Int))))
set_option maxHeartbeats 8000000 in
set_option maxRecDepth 100000 in
theorem laws_szIntS.calls (A0 : Option Addr) (c0 : Nat) (l0 : List Int) (a1 : Int) (r : Int) (w : World) (hr0 : Kd.C (Kd.int .i64) w A0 l0.length l0) (hc0 : l0.length ≤ c0) (h : laws_szIntS.f l0 a1 = some r) :
  Calls Try.prog 62 #[.slice A0 l0.length c0, .int .i64 a1] w fun e w' => e = .returned (.int .i64 r) ∧ Drawn0 w w' := by
 have HR0 := a_ hr0; have HC0 := a_ hc0; clear hr0 hc0; have H : (if (wrap64 (a1 - (l0.length : Int))) < 0 then (some (-1)) else (some (wrap64 (a1 - (l0.length : Int))))) = some r := h
 clear h; by_cases c3 : (wrap64 (a1 - (l0.length : Int))) < 0
 ·rw [if_pos c3] at H; have c3b0 := decide_eq_true c3; clear c3; obtain rfl := Option.some.inj H; go_enter Try.func62, Try.ntmps62; go_wp2; go_ret; exact ⟨by first | rfl | (simp; done) | (simp [*]; done), by repeat (first | exact Drawn0.refl _ | apply Drawn0.step)⟩
 ·rw [if_neg c3] at H; have c3b0 := decide_eq_false c3; clear c3; obtain rfl := Option.some.inj H; go_enter Try.func62, Try.ntmps62; go_wp2; go_ret; exact ⟨by first | rfl | (simp; done) | (simp [*]; done), by repeat (first | exact Drawn0.refl _ | apply Drawn0.step)⟩
def laws_szAction.f (a0_0 : Int) (a0_1 : Int) (a0_2 : ByteArray) (l0_3 : List Int) (a1 : Int) : Option (Int) := if (wrap64 (a1 - (a0_2.size : Int))) < 0 then (some (-1)) else ((laws_szIntS.f l0_3 (wrap64 (a1 - (a0_2.size : Int)))).bind fun t115 => (if t115 < 0 then (some (-1)) else (some t115)))
set_option maxHeartbeats 8000000 in
set_option maxRecDepth 100000 in
theorem laws_szAction.calls (a0_0 : Int) (a0_1 : Int) (a0_2 : ByteArray) (A0_3 : Option Addr) (c0_3 : Nat) (l0_3 : List Int) (a1 : Int) (r : Int) (w : World) (hr0_3 : Kd.C (Kd.int .i64) w A0_3 l0_3.length l0_3) (hc0_3 : l0_3.length ≤ c0_3) (h : laws_szAction.f a0_0 a0_1 a0_2 l0_3 a1 = some r) :
  Calls Try.prog 41 #[.agg #[.int .i64 a0_0, .int .i64 a0_1, .string a0_2, .slice A0_3 l0_3.length c0_3], .int .i64 a1] w fun e w' => e = .returned (.int .i64 r) ∧ Below w.heap.size w w' := by
 have hu95 := Try.underlying95; have HR0_3 := a_ hr0_3; have HC0_3 := a_ hc0_3; clear hr0_3 hc0_3; have HB := a_ (Below.refl w.heap.size w); have H : (if (wrap64 (a1 - (a0_2.size : Int))) < 0 then (some (-1)) else ((laws_szIntS.f l0_3 (wrap64 (a1 - (a0_2.size : Int)))).bind fun t115 => (if t115 < 0 then (some (-1)) else (some t115)))) = some r := h
 clear h; by_cases c3 : (wrap64 (a1 - (a0_2.size : Int))) < 0
 ·rw [if_pos c3] at H; have c3b0 := decide_eq_true c3; clear c3; obtain rfl := Option.some.inj H; go_enter Try.func41, Try.ntmps41; go_wp2_with (first | ((with_reducible refine gate_dst (N := 2) rfl ?_); refine bx_ 2 #[.int .i64 a0_0, .int .i64 a0_1, .string a0_2, .slice A0_3 l0_3.length c0_3] 95 ?_; intro gb114 hg w4 hbox hb; have BK114 := a_ (hbox); have GE114 := mg_ HB hg; replace HB := ms_ HB hb; clear hb hbox hg; obtain ⟨z5_0, z5_1, z5_2, z5_3, zf5_0, zf5_1, zf5_2, zf5_3⟩ := cz4 BK114)); go_ret; exact ⟨me_, mb_ HB⟩
 ·rw [if_neg c3] at H; have c3b0 := decide_eq_false c3; clear c3; replace H := Option.bind_eq_some_iff.mp H; obtain ⟨t115, A60, H⟩ := H; have A6 := a_ A60; clear A60; by_cases c7 : t115 < 0
  ·rw [if_pos c7] at H; have c7b0 := decide_eq_true c7; clear c7; obtain rfl := Option.some.inj H; go_enter Try.func41, Try.ntmps41; go_wp2_with (first | ((with_reducible refine gate_dst (N := 2) rfl ?_); refine bx_ 2 #[.int .i64 a0_0, .int .i64 a0_1, .string a0_2, .slice A0_3 l0_3.length c0_3] 95 ?_; intro gb114 hg w8 hbox hb; have BK114 := a_ (hbox); have GE114 := mg_ HB hg; replace HB := ms_ HB hb; clear hb hbox hg; obtain ⟨z9_0, z9_1, z9_2, z9_3, zf9_0, zf9_1, zf9_2, zf9_3⟩ := cz4 BK114) | ((with_reducible refine gate_callee (f := 62) rfl ?_); refine goesL_ (some 15) rfl rfl Try.func62 (by kernel_rfl) rfl #[.slice A0_3 l0_3.length c0_3, .int .i64 (wrap64 (a1 - (a0_2.size : Int)))] rfl mw_ ?_; (with_reducible refine (laws_szIntS.calls _ _ l0_3 (wrap64 (a1 - (a0_2.size : Int))) t115 _ ?side1 ?side2 A6.out).mono ?_); (case side1 => repeat (first | exact (Kd.C_below HR0_3.out HB.out) | (with_reducible refine Kd.C_alloc ?_ _) | (with_reducible refine Kd.C_drewN ?_ _) | (with_reducible refine Kd.C_drew ?_))); (case side2 => exact HC0_3.out); rintro e w' ⟨rfl, ⟨nd, rfl⟩⟩; refine ⟨_, rfl, ?_⟩)); go_ret; exact ⟨me_, mb_ HB⟩
  ·rw [if_neg c7] at H; have c7b0 := decide_eq_false c7; clear c7; obtain rfl := Option.some.inj H; go_enter Try.func41, Try.ntmps41; go_wp2_with (first | ((with_reducible refine gate_dst (N := 2) rfl ?_); refine bx_ 2 #[.int .i64 a0_0, .int .i64 a0_1, .string a0_2, .slice A0_3 l0_3.length c0_3] 95 ?_; intro gb114 hg w10 hbox hb; have BK114 := a_ (hbox); have GE114 := mg_ HB hg; replace HB := ms_ HB hb; clear hb hbox hg; obtain ⟨z11_0, z11_1, z11_2, z11_3, zf11_0, zf11_1, zf11_2, zf11_3⟩ := cz4 BK114) | ((with_reducible refine gate_callee (f := 62) rfl ?_); refine goesL_ (some 15) rfl rfl Try.func62 (by kernel_rfl) rfl #[.slice A0_3 l0_3.length c0_3, .int .i64 (wrap64 (a1 - (a0_2.size : Int)))] rfl mw_ ?_; (with_reducible refine (laws_szIntS.calls _ _ l0_3 (wrap64 (a1 - (a0_2.size : Int))) t115 _ ?side1 ?side2 A6.out).mono ?_); (case side1 => repeat (first | exact (Kd.C_below HR0_3.out HB.out) | (with_reducible refine Kd.C_alloc ?_ _) | (with_reducible refine Kd.C_drewN ?_ _) | (with_reducible refine Kd.C_drew ?_))); (case side2 => exact HC0_3.out); rintro e w' ⟨rfl, ⟨nd, rfl⟩⟩; refine ⟨_, rfl, ?_⟩)); go_ret; exact ⟨me_, mb_ HB⟩
end Go.Proofs.Ytejjlkbbnhpbdaa.P
namespace Go.Proofs.Ytejjlkbbnhpbdaa.P
open Go.Proofs.YtejjlkbbnhpbdaaX
open Go.RowKit Go.Proofs.YtejjlkbbnhpbdaaW.PrintWords Go.Proofs.YtejjlkbbnhpbdaaW.PrintLast Go.Proofs.YtejjlkbbnhpbdaaW.PrintMore
attribute [local go_sem] max2_int min2_int max_two min_two max_three min_three max_four min_four
set_option linter.unusedVariables false
set_option linter.unusedSimpArgs false
def laws_szActionS.l0 : Nat → List (S95) → Int → Int → Option (Int)
 | 0, _, _, _ => none
 | k + 1, x0, x1, x5 => if x5 < (x0.length : Int) then (if 0 ≤ x5 then ((laws_szAction.f ((rd_T95 x0 x5).f0) ((rd_T95 x0 x5).f1) ((rd_T95 x0 x5).f2) ((rd_T95 x0 x5).f3) x1).bind fun t117 => (if t117 < 0 then (some (-1)) else (laws_szActionS.l0 k x0 t117 (wrap64 (x5 + 1))))) else (none)) else (some x1)
def laws_szActionS.f (k : Nat) (l0 : List (S95)) (a1 : Int) : Option (Int) := if (wrap64 (a1 - (l0.length : Int))) < 0 then (some (-1)) else (laws_szActionS.l0 k l0 (wrap64 (a1 - (l0.length : Int))) 0)
theorem laws_szActionS.mono_l : ∀ k, (∀ y0 y1 y2, LeO (laws_szActionS.l0 k y0 y1 y2) (laws_szActionS.l0 (k + 1) y0 y1 y2))
 | 0 => fun _ _ _ r h => by simp [laws_szActionS.l0] at h
 | k + 1 => by
  have ih0 := laws_szActionS.mono_l k
  ·intro y0 y1 y2; unfold laws_szActionS.l0
   repeat' with_reducible first | apply ih0 | apply LeO.refl | apply LeO.none | refine LeO.ite ?_ ?_ | refine LeO.bind ?_ (fun _ => ?_)
theorem laws_szActionS.mono : ∀ a0 a1 k, LeO (laws_szActionS.f k a0 a1) (laws_szActionS.f (k + 1) a0 a1) := by
 intro a0 a1 k; have ih0 := laws_szActionS.mono_l k; unfold laws_szActionS.f
 repeat' with_reducible first | apply ih0 | apply LeO.refl | apply LeO.none | refine LeO.ite ?_ ?_ | refine LeO.bind ?_ (fun _ => ?_)
set_option maxHeartbeats 8000000 in
set_option maxRecDepth 100000 in
theorem laws_szActionS.calls (k : Nat) (A0 : Option Addr) (c0 : Nat) (l0 : List (S95)) (a1 : Int) (r : Int) (w : World) (hr0 : Kd.C k95 w A0 l0.length l0) (hc0 : l0.length ≤ c0) (h : laws_szActionS.f k l0 a1 = some r) :
  Calls Try.prog 22 #[.slice A0 l0.length c0, .int .i64 a1] w fun e w' => e = .returned (.int .i64 r) ∧ Below w.heap.size w w' := by
 have hu95 := Try.underlying95; have HR0 := a_ hr0; have HC0 := a_ hc0; clear hr0 hc0; have HB := a_ (Below.refl w.heap.size w); have H : (if (wrap64 (a1 - (l0.length : Int))) < 0 then (some (-1)) else (laws_szActionS.l0 k l0 (wrap64 (a1 - (l0.length : Int))) 0)) = some r := h
 clear h; by_cases c3 : (wrap64 (a1 - (l0.length : Int))) < 0
 ·rw [if_pos c3] at H; have c3b0 := decide_eq_true c3; clear c3; obtain rfl := Option.some.inj H; go_enter Try.func22, Try.ntmps22; go_wp2; go_ret; exact ⟨me_, mb_ HB⟩
 ·rw [if_neg c3] at H; have c3b0 := decide_eq_false c3; clear c3; have H' := a_ H; clear H; go_enter Try.func22, Try.ntmps22; go_wp2; go_loopg [1, 5] k (fun kq v1 v5 w' => ∃ (x1_1 : Int) (x5_1 : Int), v1 = .int .i64 x1_1 ∧ v5 = .int .i64 x5_1 ∧ Aside0 (laws_szActionS.l0 kq l0 x1_1 x5_1 = some r) ∧ Aside0 (kq ≤ k) ∧ Aside0 (Below w.heap.size w w'))
  case atStart => exact ⟨(wrap64 (a1 - (l0.length : Int))), (0), mq_, mq_, H', ⟨Nat.le_refl _⟩, ⟨mb_ HB⟩⟩
  clear H'; (try clear c3b0); obtain ⟨x1_1, x5_1, rfl, rfl, HA, HK1, HB⟩ := hrel; obtain _ | k1 := gk
  ·exact absurd HA.out (by simp [laws_szActionS.l0])
  have H := HA.out; clear HA; simp only [laws_szActionS.l0] at H; by_cases c4 : x5_1 < (l0.length : Int)
  ·rw [if_pos c4] at H; have c4b0 := decide_eq_true c4; clear c4; by_cases c5 : 0 ≤ x5_1
   case neg => rw [if_neg c5] at H; cases H
   rw [if_pos c5] at H; have c5b0 := decide_eq_true c5; clear c5; replace H := Option.bind_eq_some_iff.mp H; obtain ⟨t117, A60, H⟩ := H; have A6 := a_ A60; clear A60; by_cases c7 : t117 < 0
   ·rw [if_pos c7] at H; have c7b0 := decide_eq_true c7; clear c7; obtain rfl := Option.some.inj H; have p116 : 0 ≤ (x5_1 : Int) := md_
    have q116 : x5_1 < (l0.length : Int) := md_
    obtain ⟨ad116, A116_3, c116_3, e116, hx116_0, hx116_1, hx116_2, hx116_3, hl116_3, hi116_3⟩ := at_T95 HR0.out x5_1 p116 q116; cases e116; replace hx116_0 := mx_ HB hx116_0; replace hx116_1 := mx_ HB hx116_1; replace hx116_2 := mx_ HB hx116_2; replace hx116_3 := mx_ HB hx116_3; have HR116_3 := a_ hi116_3; have HC116_3 := a_ hl116_3; clear hi116_3 hl116_3; replace p116 := eq_true p116; replace q116 := eq_true q116; go_wp2_with (first | ((with_reducible refine gate_callee (f := 41) rfl ?_); refine goesL_ (some 23) rfl rfl Try.func41 (by kernel_rfl) rfl #[.agg #[.int .i64 ((rd_T95 l0 x5_1).f0), .int .i64 ((rd_T95 l0 x5_1).f1), .string ((rd_T95 l0 x5_1).f2), .slice A116_3 ((rd_T95 l0 x5_1).f3).length c116_3], .int .i64 x1_1] rfl mw_ ?_; (with_reducible refine (laws_szAction.calls ((rd_T95 l0 x5_1).f0) ((rd_T95 l0 x5_1).f1) ((rd_T95 l0 x5_1).f2) _ _ ((rd_T95 l0 x5_1).f3) x1_1 t117 _ ?side1 ?side2 A6.out).mono ?_); (case side1 => repeat (first | exact (Kd.C_below HR116_3.out HB.out) | (with_reducible refine Kd.C_alloc ?_ _) | (with_reducible refine Kd.C_drewN ?_ _) | (with_reducible refine Kd.C_drew ?_))); (case side2 => exact HC116_3.out); rintro e w8 ⟨rfl, hb⟩; refine ⟨_, rfl, ?_⟩; replace HB := ms_ HB hb; (try clear hb); (try clear hb2); (try clear hk); (try clear hi))); go_ret; exact ⟨me_, mb_ HB⟩
   ·rw [if_neg c7] at H; have c7b0 := decide_eq_false c7; clear c7; have H' := a_ H; clear H; have p116 : 0 ≤ (x5_1 : Int) := md_
    have q116 : x5_1 < (l0.length : Int) := md_
    obtain ⟨ad116, A116_3, c116_3, e116, hx116_0, hx116_1, hx116_2, hx116_3, hl116_3, hi116_3⟩ := at_T95 HR0.out x5_1 p116 q116; cases e116; replace hx116_0 := mx_ HB hx116_0; replace hx116_1 := mx_ HB hx116_1; replace hx116_2 := mx_ HB hx116_2; replace hx116_3 := mx_ HB hx116_3; have HR116_3 := a_ hi116_3; have HC116_3 := a_ hl116_3; clear hi116_3 hl116_3; replace p116 := eq_true p116; replace q116 := eq_true q116; go_wp2_with (first | ((with_reducible refine gate_callee (f := 41) rfl ?_); refine goesL_ (some 23) rfl rfl Try.func41 (by kernel_rfl) rfl #[.agg #[.int .i64 ((rd_T95 l0 x5_1).f0), .int .i64 ((rd_T95 l0 x5_1).f1), .string ((rd_T95 l0 x5_1).f2), .slice A116_3 ((rd_T95 l0 x5_1).f3).length c116_3], .int .i64 x1_1] rfl mw_ ?_; (with_reducible refine (laws_szAction.calls ((rd_T95 l0 x5_1).f0) ((rd_T95 l0 x5_1).f1) ((rd_T95 l0 x5_1).f2) _ _ ((rd_T95 l0 x5_1).f3) x1_1 t117 _ ?side1 ?side2 A6.out).mono ?_); (case side1 => repeat (first | exact (Kd.C_below HR116_3.out HB.out) | (with_reducible refine Kd.C_alloc ?_ _) | (with_reducible refine Kd.C_drewN ?_ _) | (with_reducible refine Kd.C_drew ?_))); (case side2 => exact HC116_3.out); rintro e w9 ⟨rfl, hb⟩; refine ⟨_, rfl, ?_⟩; replace HB := ms_ HB hb; (try clear hb); (try clear hb2); (try clear hk); (try clear hi))); go_roundg k1
    case measure => have := HK1.out; omega
    case rel => exact ⟨(t117), (wrap64 (x5_1 + 1)), mq_, mq_, H', ⟨by have := HK1.out; omega⟩, ⟨mb_ HB⟩⟩
  ·rw [if_neg c4] at H; have c4b0 := decide_eq_false c4; clear c4; obtain rfl := Option.some.inj H; go_wp2; go_ret; exact ⟨me_, mb_ HB⟩
def laws_szRule.f (k : Nat) (a0_0 : ByteArray) (a0_1 : Int) (l0_2 : List (S89)) (l0_3 : List (S93)) (l0_4 : List (S95)) (a1 : Int) : Option (Int) := if (wrap64 (a1 - (a0_0.size : Int))) < 0 then (some (-1)) else ((laws_szPatternS.f k l0_2 (wrap64 (a1 - (a0_0.size : Int)))).bind fun t119 => (if t119 < 0 then (some (-1)) else ((laws_szExprS.f k l0_3 t119).bind fun t120 => (if t120 < 0 then (some (-1)) else ((laws_szActionS.f k l0_4 t120).bind fun t121 => (if t121 < 0 then (some (-1)) else (some t121)))))))
theorem laws_szRule.mono : ∀ a0 a1 a2 a3 a4 a5 k, LeO (laws_szRule.f k a0 a1 a2 a3 a4 a5) (laws_szRule.f (k + 1) a0 a1 a2 a3 a4 a5) := by
 intro a0 a1 a2 a3 a4 a5 k; unfold laws_szRule.f
 repeat' with_reducible first | apply laws_szActionS.mono | apply laws_szExprS.mono | apply laws_szPatternS.mono | apply LeO.refl | apply LeO.none | refine LeO.ite ?_ ?_ | refine LeO.bind ?_ (fun _ => ?_)
set_option maxHeartbeats 8000000 in
set_option maxRecDepth 100000 in
theorem laws_szRule.calls (k : Nat) (a0_0 : ByteArray) (a0_1 : Int) (A0_2 : Option Addr) (c0_2 : Nat) (l0_2 : List (S89)) (A0_3 : Option Addr) (c0_3 : Nat) (l0_3 : List (S93)) (A0_4 : Option Addr) (c0_4 : Nat) (l0_4 : List (S95)) (a1 : Int) (r : Int) (w : World) (hr0_2 : Kd.C k89 w A0_2 l0_2.length l0_2) (hc0_2 : l0_2.length ≤ c0_2) (hr0_3 : Kd.C k93 w A0_3 l0_3.length l0_3) (hc0_3 : l0_3.length ≤ c0_3) (hr0_4 : Kd.C k95 w A0_4 l0_4.length l0_4) (hc0_4 : l0_4.length ≤ c0_4) (h : laws_szRule.f k a0_0 a0_1 l0_2 l0_3 l0_4 a1 = some r) :
  Calls Try.prog 10 #[.agg #[.string a0_0, .int .i64 a0_1, .slice A0_2 l0_2.length c0_2, .slice A0_3 l0_3.length c0_3, .slice A0_4 l0_4.length c0_4], .int .i64 a1] w fun e w' => e = .returned (.int .i64 r) ∧ Below w.heap.size w w' := by
 have hu37 := Try.underlying37; have HR0_2 := a_ hr0_2; have HC0_2 := a_ hc0_2; clear hr0_2 hc0_2; have HR0_3 := a_ hr0_3; have HC0_3 := a_ hc0_3; clear hr0_3 hc0_3; have HR0_4 := a_ hr0_4; have HC0_4 := a_ hc0_4; clear hr0_4 hc0_4; have HB := a_ (Below.refl w.heap.size w); have H : (if (wrap64 (a1 - (a0_0.size : Int))) < 0 then (some (-1)) else ((laws_szPatternS.f k l0_2 (wrap64 (a1 - (a0_0.size : Int)))).bind fun t119 => (if t119 < 0 then (some (-1)) else ((laws_szExprS.f k l0_3 t119).bind fun t120 => (if t120 < 0 then (some (-1)) else ((laws_szActionS.f k l0_4 t120).bind fun t121 => (if t121 < 0 then (some (-1)) else (some t121)))))))) = some r := h
 clear h; by_cases c3 : (wrap64 (a1 - (a0_0.size : Int))) < 0
 ·rw [if_pos c3] at H; have c3b0 := decide_eq_true c3; clear c3; obtain rfl := Option.some.inj H; go_enter Try.func10, Try.ntmps10; go_wp2_with (first | ((with_reducible refine gate_dst (N := 2) rfl ?_); refine bx_ 2 #[.string a0_0, .int .i64 a0_1, .slice A0_2 l0_2.length c0_2, .slice A0_3 l0_3.length c0_3, .slice A0_4 l0_4.length c0_4] 37 ?_; intro gb118 hg w4 hbox hb; have BK118 := a_ (hbox); have GE118 := mg_ HB hg; replace HB := ms_ HB hb; clear hb hbox hg; obtain ⟨z5_0, z5_1, z5_2, z5_3, z5_4, zf5_0, zf5_1, zf5_2, zf5_3, zf5_4⟩ := cz5 BK118)); go_ret; exact ⟨me_, mb_ HB⟩
 ·rw [if_neg c3] at H; have c3b0 := decide_eq_false c3; clear c3; replace H := Option.bind_eq_some_iff.mp H; obtain ⟨t119, A60, H⟩ := H; have A6 := a_ A60; clear A60; by_cases c7 : t119 < 0
  ·rw [if_pos c7] at H; have c7b0 := decide_eq_true c7; clear c7; obtain rfl := Option.some.inj H; go_enter Try.func10, Try.ntmps10; go_wp2_with (first | ((with_reducible refine gate_dst (N := 2) rfl ?_); refine bx_ 2 #[.string a0_0, .int .i64 a0_1, .slice A0_2 l0_2.length c0_2, .slice A0_3 l0_3.length c0_3, .slice A0_4 l0_4.length c0_4] 37 ?_; intro gb118 hg w8 hbox hb; have BK118 := a_ (hbox); have GE118 := mg_ HB hg; replace HB := ms_ HB hb; clear hb hbox hg; obtain ⟨z9_0, z9_1, z9_2, z9_3, z9_4, zf9_0, zf9_1, zf9_2, zf9_3, zf9_4⟩ := cz5 BK118) | ((with_reducible refine gate_callee (f := 20) rfl ?_); refine goesL_ (some 15) rfl rfl Try.func20 (by kernel_rfl) rfl #[.slice A0_2 l0_2.length c0_2, .int .i64 (wrap64 (a1 - (a0_0.size : Int)))] rfl mw_ ?_; (with_reducible refine (laws_szPatternS.calls k _ _ l0_2 (wrap64 (a1 - (a0_0.size : Int))) t119 _ ?side1 ?side2 A6.out).mono ?_); (case side1 => repeat (first | exact (Kd.C_below HR0_2.out HB.out) | (with_reducible refine Kd.C_alloc ?_ _) | (with_reducible refine Kd.C_drewN ?_ _) | (with_reducible refine Kd.C_drew ?_))); (case side2 => exact HC0_2.out); rintro e w10 ⟨rfl, hb⟩; refine ⟨_, rfl, ?_⟩; replace BK118 := mk_ BK118 hb; replace HB := ms_ HB hb; (try clear hb); (try clear hb2); (try clear hk); (try clear hi))); go_ret; exact ⟨me_, mb_ HB⟩
  ·rw [if_neg c7] at H; have c7b0 := decide_eq_false c7; clear c7; replace H := Option.bind_eq_some_iff.mp H; obtain ⟨t120, A110, H⟩ := H; have A11 := a_ A110; clear A110; by_cases c12 : t120 < 0
   ·rw [if_pos c12] at H; have c12b0 := decide_eq_true c12; clear c12; obtain rfl := Option.some.inj H; go_enter Try.func10, Try.ntmps10; go_wp2_with (first | ((with_reducible refine gate_dst (N := 2) rfl ?_); refine bx_ 2 #[.string a0_0, .int .i64 a0_1, .slice A0_2 l0_2.length c0_2, .slice A0_3 l0_3.length c0_3, .slice A0_4 l0_4.length c0_4] 37 ?_; intro gb118 hg w13 hbox hb; have BK118 := a_ (hbox); have GE118 := mg_ HB hg; replace HB := ms_ HB hb; clear hb hbox hg; obtain ⟨z14_0, z14_1, z14_2, z14_3, z14_4, zf14_0, zf14_1, zf14_2, zf14_3, zf14_4⟩ := cz5 BK118) | ((with_reducible refine gate_callee (f := 20) rfl ?_); refine goesL_ (some 15) rfl rfl Try.func20 (by kernel_rfl) rfl #[.slice A0_2 l0_2.length c0_2, .int .i64 (wrap64 (a1 - (a0_0.size : Int)))] rfl mw_ ?_; (with_reducible refine (laws_szPatternS.calls k _ _ l0_2 (wrap64 (a1 - (a0_0.size : Int))) t119 _ ?side1 ?side2 A6.out).mono ?_); (case side1 => repeat (first | exact (Kd.C_below HR0_2.out HB.out) | (with_reducible refine Kd.C_alloc ?_ _) | (with_reducible refine Kd.C_drewN ?_ _) | (with_reducible refine Kd.C_drew ?_))); (case side2 => exact HC0_2.out); rintro e w15 ⟨rfl, hb⟩; refine ⟨_, rfl, ?_⟩; replace BK118 := mk_ BK118 hb; replace HB := ms_ HB hb; (try clear hb); (try clear hb2); (try clear hk); (try clear hi); obtain ⟨z16_0, z16_1, z16_2, z16_3, z16_4, zf16_0, zf16_1, zf16_2, zf16_3, zf16_4⟩ := cz5 BK118) | ((with_reducible refine gate_callee (f := 21) rfl ?_); refine goesL_ (some 21) rfl rfl Try.func21 (by kernel_rfl) rfl #[.slice A0_3 l0_3.length c0_3, .int .i64 t119] rfl mw_ ?_; (with_reducible refine (laws_szExprS.calls k _ _ l0_3 t119 t120 _ ?side1 ?side2 A11.out).mono ?_); (case side1 => repeat (first | exact (Kd.C_below HR0_3.out HB.out) | (with_reducible refine Kd.C_alloc ?_ _) | (with_reducible refine Kd.C_drewN ?_ _) | (with_reducible refine Kd.C_drew ?_))); (case side2 => exact HC0_3.out); rintro e w17 ⟨rfl, hb⟩; refine ⟨_, rfl, ?_⟩; replace BK118 := mk_ BK118 hb; replace HB := ms_ HB hb; (try clear hb); (try clear hb2); (try clear hk); (try clear hi))); go_ret; exact ⟨me_, mb_ HB⟩
   ·rw [if_neg c12] at H; have c12b0 := decide_eq_false c12; clear c12; replace H := Option.bind_eq_some_iff.mp H; obtain ⟨t121, A180, H⟩ := H; have A18 := a_ A180; clear A180; by_cases c19 : t121 < 0
    ·rw [if_pos c19] at H; have c19b0 := decide_eq_true c19; clear c19; obtain rfl := Option.some.inj H; go_enter Try.func10, Try.ntmps10; go_wp2_with (first | ((with_reducible refine gate_dst (N := 2) rfl ?_); refine bx_ 2 #[.string a0_0, .int .i64 a0_1, .slice A0_2 l0_2.length c0_2, .slice A0_3 l0_3.length c0_3, .slice A0_4 l0_4.length c0_4] 37 ?_; intro gb118 hg w20 hbox hb; have BK118 := a_ (hbox); have GE118 := mg_ HB hg; replace HB := ms_ HB hb; clear hb hbox hg; obtain ⟨z21_0, z21_1, z21_2, z21_3, z21_4, zf21_0, zf21_1, zf21_2, zf21_3, zf21_4⟩ := cz5 BK118) | ((with_reducible refine gate_callee (f := 20) rfl ?_); refine goesL_ (some 15) rfl rfl Try.func20 (by kernel_rfl) rfl #[.slice A0_2 l0_2.length c0_2, .int .i64 (wrap64 (a1 - (a0_0.size : Int)))] rfl mw_ ?_; (with_reducible refine (laws_szPatternS.calls k _ _ l0_2 (wrap64 (a1 - (a0_0.size : Int))) t119 _ ?side1 ?side2 A6.out).mono ?_); (case side1 => repeat (first | exact (Kd.C_below HR0_2.out HB.out) | (with_reducible refine Kd.C_alloc ?_ _) | (with_reducible refine Kd.C_drewN ?_ _) | (with_reducible refine Kd.C_drew ?_))); (case side2 => exact HC0_2.out); rintro e w22 ⟨rfl, hb⟩; refine ⟨_, rfl, ?_⟩; replace BK118 := mk_ BK118 hb; replace HB := ms_ HB hb; (try clear hb); (try clear hb2); (try clear hk); (try clear hi); obtain ⟨z23_0, z23_1, z23_2, z23_3, z23_4, zf23_0, zf23_1, zf23_2, zf23_3, zf23_4⟩ := cz5 BK118) | ((with_reducible refine gate_callee (f := 21) rfl ?_); refine goesL_ (some 21) rfl rfl Try.func21 (by kernel_rfl) rfl #[.slice A0_3 l0_3.length c0_3, .int .i64 t119] rfl mw_ ?_; (with_reducible refine (laws_szExprS.calls k _ _ l0_3 t119 t120 _ ?side1 ?side2 A11.out).mono ?_); (case side1 => repeat (first | exact (Kd.C_below HR0_3.out HB.out) | (with_reducible refine Kd.C_alloc ?_ _) | (with_reducible refine Kd.C_drewN ?_ _) | (with_reducible refine Kd.C_drew ?_))); (case side2 => exact HC0_3.out); rintro e w24 ⟨rfl, hb⟩; refine ⟨_, rfl, ?_⟩; replace BK118 := mk_ BK118 hb; replace HB := ms_ HB hb; (try clear hb); (try clear hb2); (try clear hk); (try clear hi); obtain ⟨z25_0, z25_1, z25_2, z25_3, z25_4, zf25_0, zf25_1, zf25_2, zf25_3, zf25_4⟩ := cz5 BK118) | ((with_reducible refine gate_callee (f := 22) rfl ?_); refine goesL_ (some 27) rfl rfl Try.func22 (by kernel_rfl) rfl #[.slice A0_4 l0_4.length c0_4, .int .i64 t120] rfl mw_ ?_; (with_reducible refine (laws_szActionS.calls k _ _ l0_4 t120 t121 _ ?side1 ?side2 A18.out).mono ?_); (case side1 => repeat (first | exact (Kd.C_below HR0_4.out HB.out) | (with_reducible refine Kd.C_alloc ?_ _) | (with_reducible refine Kd.C_drewN ?_ _) | (with_reducible refine Kd.C_drew ?_))); (case side2 => exact HC0_4.out); rintro e w26 ⟨rfl, hb⟩; refine ⟨_, rfl, ?_⟩; replace BK118 := mk_ BK118 hb; replace HB := ms_ HB hb; (try clear hb); (try clear hb2); (try clear hk); (try clear hi))); go_ret; exact ⟨me_, mb_ HB⟩
    ·rw [if_neg c19] at H; have c19b0 := decide_eq_false c19; clear c19; obtain rfl := Option.some.inj H; go_enter Try.func10, Try.ntmps10; go_wp2_with (first | ((with_reducible refine gate_dst (N := 2) rfl ?_); refine bx_ 2 #[.string a0_0, .int .i64 a0_1, .slice A0_2 l0_2.length c0_2, .slice A0_3 l0_3.length c0_3, .slice A0_4 l0_4.length c0_4] 37 ?_; intro gb118 hg w27 hbox hb; have BK118 := a_ (hbox); have GE118 := mg_ HB hg; replace HB := ms_ HB hb; clear hb hbox hg; obtain ⟨z28_0, z28_1, z28_2, z28_3, z28_4, zf28_0, zf28_1, zf28_2, zf28_3, zf28_4⟩ := cz5 BK118) | ((with_reducible refine gate_callee (f := 20) rfl ?_); refine goesL_ (some 15) rfl rfl Try.func20 (by kernel_rfl) rfl #[.slice A0_2 l0_2.length c0_2, .int .i64 (wrap64 (a1 - (a0_0.size : Int)))] rfl mw_ ?_; (with_reducible refine (laws_szPatternS.calls k _ _ l0_2 (wrap64 (a1 - (a0_0.size : Int))) t119 _ ?side1 ?side2 A6.out).mono ?_); (case side1 => repeat (first | exact (Kd.C_below HR0_2.out HB.out) | (with_reducible refine Kd.C_alloc ?_ _) | (with_reducible refine Kd.C_drewN ?_ _) | (with_reducible refine Kd.C_drew ?_))); (case side2 => exact HC0_2.out); rintro e w29 ⟨rfl, hb⟩; refine ⟨_, rfl, ?_⟩; replace BK118 := mk_ BK118 hb; replace HB := ms_ HB hb; (try clear hb); (try clear hb2); (try clear hk); (try clear hi); obtain ⟨z30_0, z30_1, z30_2, z30_3, z30_4, zf30_0, zf30_1, zf30_2, zf30_3, zf30_4⟩ := cz5 BK118) | ((with_reducible refine gate_callee (f := 21) rfl ?_); refine goesL_ (some 21) rfl rfl Try.func21 (by kernel_rfl) rfl #[.slice A0_3 l0_3.length c0_3, .int .i64 t119] rfl mw_ ?_; (with_reducible refine (laws_szExprS.calls k _ _ l0_3 t119 t120 _ ?side1 ?side2 A11.out).mono ?_); (case side1 => repeat (first | exact (Kd.C_below HR0_3.out HB.out) | (with_reducible refine Kd.C_alloc ?_ _) | (with_reducible refine Kd.C_drewN ?_ _) | (with_reducible refine Kd.C_drew ?_))); (case side2 => exact HC0_3.out); rintro e w31 ⟨rfl, hb⟩; refine ⟨_, rfl, ?_⟩; replace BK118 := mk_ BK118 hb; replace HB := ms_ HB hb; (try clear hb); (try clear hb2); (try clear hk); (try clear hi); obtain ⟨z32_0, z32_1, z32_2, z32_3, z32_4, zf32_0, zf32_1, zf32_2, zf32_3, zf32_4⟩ := cz5 BK118) | ((with_reducible refine gate_callee (f := 22) rfl ?_); refine goesL_ (some 27) rfl rfl Try.func22 (by kernel_rfl) rfl #[.slice A0_4 l0_4.length c0_4, .int .i64 t120] rfl mw_ ?_; (with_reducible refine (laws_szActionS.calls k _ _ l0_4 t120 t121 _ ?side1 ?side2 A18.out).mono ?_); (case side1 => repeat (first | exact (Kd.C_below HR0_4.out HB.out) | (with_reducible refine Kd.C_alloc ?_ _) | (with_reducible refine Kd.C_drewN ?_ _) | (with_reducible refine Kd.C_drew ?_))); (case side2 => exact HC0_4.out); rintro e w33 ⟨rfl, hb⟩; refine ⟨_, rfl, ?_⟩; replace BK118 := mk_ BK118 hb; replace HB := ms_ HB hb; (try clear hb); (try clear hb2); (try clear hk); (try clear hi))); go_ret; exact ⟨me_, mb_ HB⟩
def laws_szRuleS.l0 : Nat → List (S37) → Int → Int → Option (Int)
 | 0, _, _, _ => none
 | k + 1, x0, x1, x5 => if x5 < (x0.length : Int) then (if 0 ≤ x5 then ((laws_szRule.f k ((rd_T37 x0 x5).f0) ((rd_T37 x0 x5).f1) ((rd_T37 x0 x5).f2) ((rd_T37 x0 x5).f3) ((rd_T37 x0 x5).f4) x1).bind fun t123 => (if t123 < 0 then (some (-1)) else (laws_szRuleS.l0 k x0 t123 (wrap64 (x5 + 1))))) else (none)) else (some x1)
def laws_szRuleS.f (k : Nat) (l0 : List (S37)) (a1 : Int) : Option (Int) := if (wrap64 (a1 - (l0.length : Int))) < 0 then (some (-1)) else (laws_szRuleS.l0 k l0 (wrap64 (a1 - (l0.length : Int))) 0)
theorem laws_szRuleS.mono_l : ∀ k, (∀ y0 y1 y2, LeO (laws_szRuleS.l0 k y0 y1 y2) (laws_szRuleS.l0 (k + 1) y0 y1 y2))
 | 0 => fun _ _ _ r h => by simp [laws_szRuleS.l0] at h
 | k + 1 => by
  have ih0 := laws_szRuleS.mono_l k
  ·intro y0 y1 y2; unfold laws_szRuleS.l0
   repeat' with_reducible first | apply ih0 | apply laws_szRule.mono | apply LeO.refl | apply LeO.none | refine LeO.ite ?_ ?_ | refine LeO.bind ?_ (fun _ => ?_)
theorem laws_szRuleS.mono : ∀ a0 a1 k, LeO (laws_szRuleS.f k a0 a1) (laws_szRuleS.f (k + 1) a0 a1) := by
 intro a0 a1 k; have ih0 := laws_szRuleS.mono_l k; unfold laws_szRuleS.f
 repeat' with_reducible first | apply ih0 | apply laws_szRule.mono | apply LeO.refl | apply LeO.none | refine LeO.ite ?_ ?_ | refine LeO.bind ?_ (fun _ => ?_)
set_option maxHeartbeats 8000000 in
set_option maxRecDepth 100000 in
theorem laws_szRuleS.calls (k : Nat) (A0 : Option Addr) (c0 : Nat) (l0 : List (S37)) (a1 : Int) (r : Int) (w : World) (hr0 : Kd.C k37 w A0 l0.length l0) (hc0 : l0.length ≤ c0) (h : laws_szRuleS.f k l0 a1 = some r) :
  Calls Try.prog 4 #[.slice A0 l0.length c0, .int .i64 a1] w fun e w' => e = .returned (.int .i64 r) ∧ Below w.heap.size w w' := by
 have hu37 := Try.underlying37; have HR0 := a_ hr0; have HC0 := a_ hc0; clear hr0 hc0; have HB := a_ (Below.refl w.heap.size w); have H : (if (wrap64 (a1 - (l0.length : Int))) < 0 then (some (-1)) else (laws_szRuleS.l0 k l0 (wrap64 (a1 - (l0.length : Int))) 0)) = some r := h
 clear h; by_cases c3 : (wrap64 (a1 - (l0.length : Int))) < 0
 ·rw [if_pos c3] at H; have c3b0 := decide_eq_true c3; clear c3; obtain rfl := Option.some.inj H; go_enter Try.func4, Try.ntmps4; go_wp2; go_ret; exact ⟨me_, mb_ HB⟩
 ·rw [if_neg c3] at H; have c3b0 := decide_eq_false c3; clear c3; have H' := a_ H; clear H; go_enter Try.func4, Try.ntmps4; go_wp2; go_loopg [1, 5] k (fun kq v1 v5 w' => ∃ (x1_1 : Int) (x5_1 : Int), v1 = .int .i64 x1_1 ∧ v5 = .int .i64 x5_1 ∧ Aside0 (laws_szRuleS.l0 kq l0 x1_1 x5_1 = some r) ∧ Aside0 (kq ≤ k) ∧ Aside0 (Below w.heap.size w w'))
  case atStart => exact ⟨(wrap64 (a1 - (l0.length : Int))), (0), mq_, mq_, H', ⟨Nat.le_refl _⟩, ⟨mb_ HB⟩⟩
  clear H'; (try clear c3b0); obtain ⟨x1_1, x5_1, rfl, rfl, HA, HK1, HB⟩ := hrel; obtain _ | k1 := gk
  ·exact absurd HA.out (by simp [laws_szRuleS.l0])
  have H := HA.out; clear HA; simp only [laws_szRuleS.l0] at H; by_cases c4 : x5_1 < (l0.length : Int)
  ·rw [if_pos c4] at H; have c4b0 := decide_eq_true c4; clear c4; by_cases c5 : 0 ≤ x5_1
   case neg => rw [if_neg c5] at H; cases H
   rw [if_pos c5] at H; have c5b0 := decide_eq_true c5; clear c5; replace H := Option.bind_eq_some_iff.mp H; obtain ⟨t123, A60, H⟩ := H; have A6 := a_ A60; clear A60; by_cases c7 : t123 < 0
   ·rw [if_pos c7] at H; have c7b0 := decide_eq_true c7; clear c7; obtain rfl := Option.some.inj H; have p122 : 0 ≤ (x5_1 : Int) := md_
    have q122 : x5_1 < (l0.length : Int) := md_
    obtain ⟨ad122, A122_2, c122_2, A122_3, c122_3, A122_4, c122_4, e122, hx122_0, hx122_1, hx122_2, hx122_3, hx122_4, hl122_2, hi122_2, hl122_3, hi122_3, hl122_4, hi122_4⟩ := at_T37 HR0.out x5_1 p122 q122; cases e122; replace hx122_0 := mx_ HB hx122_0; replace hx122_1 := mx_ HB hx122_1; replace hx122_2 := mx_ HB hx122_2; replace hx122_3 := mx_ HB hx122_3; replace hx122_4 := mx_ HB hx122_4; have HR122_2 := a_ hi122_2; have HC122_2 := a_ hl122_2; clear hi122_2 hl122_2; have HR122_3 := a_ hi122_3; have HC122_3 := a_ hl122_3; clear hi122_3 hl122_3; have HR122_4 := a_ hi122_4; have HC122_4 := a_ hl122_4; clear hi122_4 hl122_4; replace p122 := eq_true p122; replace q122 := eq_true q122; go_wp2_with (first | ((with_reducible refine gate_callee (f := 10) rfl ?_); refine goesL_ (some 23) rfl rfl Try.func10 (by kernel_rfl) rfl #[.agg #[.string ((rd_T37 l0 x5_1).f0), .int .i64 ((rd_T37 l0 x5_1).f1), .slice A122_2 ((rd_T37 l0 x5_1).f2).length c122_2, .slice A122_3 ((rd_T37 l0 x5_1).f3).length c122_3, .slice A122_4 ((rd_T37 l0 x5_1).f4).length c122_4], .int .i64 x1_1] rfl mw_ ?_; (with_reducible refine (laws_szRule.calls k1 ((rd_T37 l0 x5_1).f0) ((rd_T37 l0 x5_1).f1) _ _ ((rd_T37 l0 x5_1).f2) _ _ ((rd_T37 l0 x5_1).f3) _ _ ((rd_T37 l0 x5_1).f4) x1_1 t123 _ ?side1 ?side2 ?side3 ?side4 ?side5 ?side6 A6.out).mono ?_); (case side1 => repeat (first | exact (Kd.C_below HR122_2.out HB.out) | (with_reducible refine Kd.C_alloc ?_ _) | (with_reducible refine Kd.C_drewN ?_ _) | (with_reducible refine Kd.C_drew ?_))); (case side2 => exact HC122_2.out); (case side3 => repeat (first | exact (Kd.C_below HR122_3.out HB.out) | (with_reducible refine Kd.C_alloc ?_ _) | (with_reducible refine Kd.C_drewN ?_ _) | (with_reducible refine Kd.C_drew ?_))); (case side4 => exact HC122_3.out); (case side5 => repeat (first | exact (Kd.C_below HR122_4.out HB.out) | (with_reducible refine Kd.C_alloc ?_ _) | (with_reducible refine Kd.C_drewN ?_ _) | (with_reducible refine Kd.C_drew ?_))); (case side6 => exact HC122_4.out); rintro e w8 ⟨rfl, hb⟩; refine ⟨_, rfl, ?_⟩; replace HB := ms_ HB hb; (try clear hb); (try clear hb2); (try clear hk); (try clear hi))); go_ret; exact ⟨me_, mb_ HB⟩
   ·rw [if_neg c7] at H; have c7b0 := decide_eq_false c7; clear c7; have H' := a_ H; clear H; have p122 : 0 ≤ (x5_1 : Int) := md_
    have q122 : x5_1 < (l0.length : Int) := md_
    obtain ⟨ad122, A122_2, c122_2, A122_3, c122_3, A122_4, c122_4, e122, hx122_0, hx122_1, hx122_2, hx122_3, hx122_4, hl122_2, hi122_2, hl122_3, hi122_3, hl122_4, hi122_4⟩ := at_T37 HR0.out x5_1 p122 q122; cases e122; replace hx122_0 := mx_ HB hx122_0; replace hx122_1 := mx_ HB hx122_1; replace hx122_2 := mx_ HB hx122_2; replace hx122_3 := mx_ HB hx122_3; replace hx122_4 := mx_ HB hx122_4; have HR122_2 := a_ hi122_2; have HC122_2 := a_ hl122_2; clear hi122_2 hl122_2; have HR122_3 := a_ hi122_3; have HC122_3 := a_ hl122_3; clear hi122_3 hl122_3; have HR122_4 := a_ hi122_4; have HC122_4 := a_ hl122_4; clear hi122_4 hl122_4; replace p122 := eq_true p122; replace q122 := eq_true q122; go_wp2_with (first | ((with_reducible refine gate_callee (f := 10) rfl ?_); refine goesL_ (some 23) rfl rfl Try.func10 (by kernel_rfl) rfl #[.agg #[.string ((rd_T37 l0 x5_1).f0), .int .i64 ((rd_T37 l0 x5_1).f1), .slice A122_2 ((rd_T37 l0 x5_1).f2).length c122_2, .slice A122_3 ((rd_T37 l0 x5_1).f3).length c122_3, .slice A122_4 ((rd_T37 l0 x5_1).f4).length c122_4], .int .i64 x1_1] rfl mw_ ?_; (with_reducible refine (laws_szRule.calls k1 ((rd_T37 l0 x5_1).f0) ((rd_T37 l0 x5_1).f1) _ _ ((rd_T37 l0 x5_1).f2) _ _ ((rd_T37 l0 x5_1).f3) _ _ ((rd_T37 l0 x5_1).f4) x1_1 t123 _ ?side1 ?side2 ?side3 ?side4 ?side5 ?side6 A6.out).mono ?_); (case side1 => repeat (first | exact (Kd.C_below HR122_2.out HB.out) | (with_reducible refine Kd.C_alloc ?_ _) | (with_reducible refine Kd.C_drewN ?_ _) | (with_reducible refine Kd.C_drew ?_))); (case side2 => exact HC122_2.out); (case side3 => repeat (first | exact (Kd.C_below HR122_3.out HB.out) | (with_reducible refine Kd.C_alloc ?_ _) | (with_reducible refine Kd.C_drewN ?_ _) | (with_reducible refine Kd.C_drew ?_))); (case side4 => exact HC122_3.out); (case side5 => repeat (first | exact (Kd.C_below HR122_4.out HB.out) | (with_reducible refine Kd.C_alloc ?_ _) | (with_reducible refine Kd.C_drewN ?_ _) | (with_reducible refine Kd.C_drew ?_))); (case side6 => exact HC122_4.out); rintro e w9 ⟨rfl, hb⟩; refine ⟨_, rfl, ?_⟩; replace HB := ms_ HB hb; (try clear hb); (try clear hb2); (try clear hk); (try clear hi))); go_roundg k1
    case measure => have := HK1.out; omega
    case rel => exact ⟨(t123), (wrap64 (x5_1 + 1)), mq_, mq_, H', ⟨by have := HK1.out; omega⟩, ⟨mb_ HB⟩⟩
  ·rw [if_neg c4] at H; have c4b0 := decide_eq_false c4; clear c4; obtain rfl := Option.some.inj H; go_wp2; go_ret; exact ⟨me_, mb_ HB⟩
end Go.Proofs.Ytejjlkbbnhpbdaa.P
namespace Go.Proofs.Ytejjlkbbnhpbdaa.P
open Go.Proofs.YtejjlkbbnhpbdaaX
open Go.RowKit Go.Proofs.YtejjlkbbnhpbdaaW.PrintWords Go.Proofs.YtejjlkbbnhpbdaaW.PrintLast Go.Proofs.YtejjlkbbnhpbdaaW.PrintMore
attribute [local go_sem] max2_int min2_int max_two min_two max_three min_three max_four min_four
set_option linter.unusedVariables false
set_option linter.unusedSimpArgs false
theorem eqA66 (d : Nat) (w : World) (x0 y0 : Int) (x1 y1 : Int) (x2 y2 : ByteArray) :
  (Op.equalIn (d + 2) 66 (.agg #[.int .i64 x0, .int .i64 x1, .string x2]) (.agg #[.int .i64 y0, .int .i64 y1, .string y2])).run Try.prog w = .ok (x0 == y0 && (x1 == y1 && (x2.toList == y2.toList))) w := by
 refine eqA_of Try.underlying66 (by kernel_rfl) ?_; refine eqf_cons (by rfl) (by go_simp; rfl) (by go_simp; rfl) (by go_simp) ?_; refine eqf_cons (by rfl) (by go_simp; rfl) (by go_simp; rfl) (by go_simp) ?_; exact eqf_last (by rfl) (by go_simp; rfl) (by go_simp; rfl) (by go_simp)
end Go.Proofs.Ytejjlkbbnhpbdaa.P
namespace Go.Proofs.Ytejjlkbbnhpbdaa.P
open Go.Proofs.YtejjlkbbnhpbdaaX
open Go.RowKit Go.Proofs.YtejjlkbbnhpbdaaW.PrintWords Go.Proofs.YtejjlkbbnhpbdaaW.PrintLast Go.Proofs.YtejjlkbbnhpbdaaW.PrintMore
attribute [local go_sem] max2_int min2_int max_two min_two max_three min_three max_four min_four
set_option linter.unusedVariables false
set_option linter.unusedSimpArgs false
attribute [local go_sem high] eqA66
mutual
def spec_l1GoodSym.j0 : Nat → ByteArray → Bool → Option (Bool)
 | 0, _, _ => none
 | k + 1, x0, x22 => if x22 = true then (some false) else (spec_l1GoodSym.l0 k x0 0)
def spec_l1GoodSym.l0 : Nat → ByteArray → Int → Option (Bool)
 | 0, _, _ => none
 | k + 1, x0, x3 => if x3 < (x0.size : Int) then (if 0 ≤ x3 then (if (bt x0 x3) ≥ 97 then (if (bt x0 x3) ≤ 122 then (spec_l1GoodSym.l0 k x0 (wrap64 (x3 + 1))) else (if (bt x0 x3) ≥ 48 then (if (bt x0 x3) ≤ 57 then (spec_l1GoodSym.l0 k x0 (wrap64 (x3 + 1))) else (if ((bt x0 x3) = 45) then (spec_l1GoodSym.l0 k x0 (wrap64 (x3 + 1))) else (some false))) else (if ((bt x0 x3) = 45) then (spec_l1GoodSym.l0 k x0 (wrap64 (x3 + 1))) else (some false)))) else (if (bt x0 x3) ≥ 48 then (if (bt x0 x3) ≤ 57 then (spec_l1GoodSym.l0 k x0 (wrap64 (x3 + 1))) else (if ((bt x0 x3) = 45) then (spec_l1GoodSym.l0 k x0 (wrap64 (x3 + 1))) else (some false))) else (if ((bt x0 x3) = 45) then (spec_l1GoodSym.l0 k x0 (wrap64 (x3 + 1))) else (some false)))) else (none)) else (some true)
end
def spec_l1GoodSym.f (k : Nat) (a0 : ByteArray) : Option (Bool) := if (a0.size : Int) < 1 then (spec_l1GoodSym.j0 k a0 true) else (if (a0.size : Int) > 20 then (spec_l1GoodSym.j0 k a0 true) else (if 0 < (a0.size : Int) then (if (bt a0 0) < 97 then (spec_l1GoodSym.j0 k a0 true) else (spec_l1GoodSym.j0 k a0 (decide ((bt a0 0) > 122)))) else (none)))
theorem spec_l1GoodSym.mono_l : ∀ k, (∀ y0 y1, LeO (spec_l1GoodSym.j0 k y0 y1) (spec_l1GoodSym.j0 (k + 1) y0 y1)) ∧ (∀ y0 y1, LeO (spec_l1GoodSym.l0 k y0 y1) (spec_l1GoodSym.l0 (k + 1) y0 y1))
 | 0 => ⟨fun _ _ r h => by simp [spec_l1GoodSym.j0] at h, fun _ _ r h => by simp [spec_l1GoodSym.l0] at h⟩
 | k + 1 => by
  obtain ⟨ih0, ih1⟩ := spec_l1GoodSym.mono_l k; refine ⟨?_, ?_⟩
  ·intro y0 y1; unfold spec_l1GoodSym.j0
   repeat' with_reducible first | apply ih0 | apply ih1 | apply LeO.refl | apply LeO.none | refine LeO.ite ?_ ?_ | refine LeO.bind ?_ (fun _ => ?_)
  ·intro y0 y1; unfold spec_l1GoodSym.l0
   repeat' with_reducible first | apply ih0 | apply ih1 | apply LeO.refl | apply LeO.none | refine LeO.ite ?_ ?_ | refine LeO.bind ?_ (fun _ => ?_)
theorem spec_l1GoodSym.mono : ∀ a0 k, LeO (spec_l1GoodSym.f k a0) (spec_l1GoodSym.f (k + 1) a0) := by
 intro a0 k; obtain ⟨ih0, ih1⟩ := spec_l1GoodSym.mono_l k; unfold spec_l1GoodSym.f
 repeat' with_reducible first | apply ih0 | apply ih1 | apply LeO.refl | apply LeO.none | refine LeO.ite ?_ ?_ | refine LeO.bind ?_ (fun _ => ?_)
set_option maxHeartbeats 8000000 in
set_option maxRecDepth 100000 in
theorem spec_l1GoodSym.calls (k : Nat) (a0 : ByteArray) (r : Bool) (w : World) (h : spec_l1GoodSym.f k a0 = some r) :
  Calls Try.prog 23 #[.string a0] w fun e w' => e = .returned (.bool r) ∧ Drawn0 w w' := by
 have H : (if (a0.size : Int) < 1 then (spec_l1GoodSym.j0 k a0 true) else (if (a0.size : Int) > 20 then (spec_l1GoodSym.j0 k a0 true) else (if 0 < (a0.size : Int) then (if (bt a0 0) < 97 then (spec_l1GoodSym.j0 k a0 true) else (spec_l1GoodSym.j0 k a0 (decide ((bt a0 0) > 122)))) else (none)))) = some r := h
 clear h; have HC2 := a_ H; clear H; go_enter Try.func23, Try.ntmps23; go_upto_region 1 with (fail); go_cut [22] (fun v22 wc => ∃ (kq : Nat) (x22_1 : Bool), v22 = .bool x22_1 ∧ Aside0 (spec_l1GoodSym.j0 kq a0 x22_1 = some r) ∧ Aside0 (kq ≤ k) ∧ Drawn0 w wc)
 case first =>
  have H := HC2.out; clear HC2; by_cases c3 : (a0.size : Int) < 1
  ·rw [if_pos c3] at H; have c3b0 := decide_eq_true c3; have c3b1 : decide (a0.size < 1) = true := decide_eq_true (by omega)
   clear c3; (first | rw [c3b0] | (simp only [i64_w, i32_w]; rw [c3b0]) | skip); have H' := a_ H; clear H; go_wp2; go_meet
   case rel => exact ⟨_, (true), mq_, H', ⟨by first | omega | exact Nat.le_refl _⟩, by repeat (first | exact Drawn0.refl _ | apply Drawn0.step)⟩
  ·rw [if_neg c3] at H; have c3b0 := decide_eq_false c3; have c3b1 : decide (a0.size < 1) = false := decide_eq_false (by omega)
   clear c3; (first | rw [c3b0] | (simp only [i64_w, i32_w]; rw [c3b0]) | skip); by_cases c4 : (a0.size : Int) > 20
   ·rw [if_pos c4] at H; have c4b0 := decide_eq_true c4; have c4b1 : decide (20 < a0.size) = true := decide_eq_true (by omega)
    clear c4; have H' := a_ H; clear H; go_wp2; go_meet
    case rel => exact ⟨_, (true), mq_, H', ⟨by first | omega | exact Nat.le_refl _⟩, by repeat (first | exact Drawn0.refl _ | apply Drawn0.step)⟩
   ·rw [if_neg c4] at H; have c4b0 := decide_eq_false c4; have c4b1 : decide (20 < a0.size) = false := decide_eq_false (by omega)
    clear c4; by_cases c5 : 0 < (a0.size : Int)
    case neg => rw [if_neg c5] at H; cases H
    rw [if_pos c5] at H; have c5b0 := decide_eq_true c5; have c5b1 : decide (0 < a0.size) = true := decide_eq_true (by omega)
    clear c5; by_cases c7 : (bt a0 0) < 97
    ·rw [if_pos c7] at H; have c7b0 := decide_eq_true c7; clear c7; have H' := a_ H; clear H; have p6 : 0 ≤ (0 : Int) := (by omega)
     have q6 : 0 < a0.size := (by have : (0 : Int) < (a0.size : Int) := md_; omega)
     have hx6 : ∀ h : 0 < a0.size, ((a0[0]'h).toNat : Int) = bt a0 0 := bt_at a0 0
     clear p6; have qi6 : (0 < (a0.size : Int)) = True := eq_true (md_)
     replace q6 := eq_true q6; go_wp2; go_meet
     case rel => exact ⟨_, (true), mq_, H', ⟨by first | omega | exact Nat.le_refl _⟩, by repeat (first | exact Drawn0.refl _ | apply Drawn0.step)⟩
    ·rw [if_neg c7] at H; have c7b0 := decide_eq_false c7; clear c7; have H' := a_ H; clear H; have p6 : 0 ≤ (0 : Int) := (by omega)
     have q6 : 0 < a0.size := (by have : (0 : Int) < (a0.size : Int) := md_; omega)
     have hx6 : ∀ h : 0 < a0.size, ((a0[0]'h).toNat : Int) = bt a0 0 := bt_at a0 0
     clear p6; have qi6 : (0 < (a0.size : Int)) = True := eq_true (md_)
     replace q6 := eq_true q6; have p8 : 0 ≤ (0 : Int) := (by omega)
     have q8 : 0 < a0.size := (by have : (0 : Int) < (a0.size : Int) := md_; omega)
     have hx8 : ∀ h : 0 < a0.size, ((a0[0]'h).toNat : Int) = bt a0 0 := bt_at a0 0
     clear p8; have qi8 : (0 < (a0.size : Int)) = True := eq_true (md_)
     replace q8 := eq_true q8; go_wp2; go_meet
     case rel => exact ⟨_, (decide ((bt a0 0) > 122)), mq_, H', ⟨by first | omega | exact Nat.le_refl _⟩, by repeat (first | exact Drawn0.refl _ | apply Drawn0.step)⟩
 clear HC2; obtain ⟨kq, x22_1, rfl, HA, HJ1, ⟨mc1, rfl⟩⟩ := hcut; obtain _ | kj1 := kq
 ·exact absurd HA.out (by simp [spec_l1GoodSym.j0])
 have H := HA.out; clear HA; simp only [spec_l1GoodSym.j0] at H; by_cases c9 : x22_1 = true
 ·subst c9; rw [if_pos rfl] at H; obtain rfl := Option.some.inj H; go_wp2; go_ret; exact ⟨by first | rfl | (simp; done) | (simp [*]; done), by repeat (first | exact Drawn0.refl _ | apply Drawn0.step)⟩
 ·replace c9 := Bool.eq_false_iff.mpr c9; subst c9; rw [if_neg (show ¬ (false = true) by decide)] at H; have H' := a_ H; clear H; go_wp2; go_loopg [3] kj1 (fun kq v3 w' => ∃ (x3_2 : Int), v3 = .int .i64 x3_2 ∧ Aside0 (spec_l1GoodSym.l0 kq a0 x3_2 = some r) ∧ Aside0 (kq ≤ kj1) ∧ Drawn0 w w')
  case atStart => exact ⟨(0), mq_, H', ⟨Nat.le_refl _⟩, by repeat (first | exact Drawn0.refl _ | apply Drawn0.step)⟩
  clear H'; (try clear c9); obtain ⟨x3_2, rfl, HA, HK2, ⟨m2, rfl⟩⟩ := hrel; obtain _ | k2 := gk
  ·exact absurd HA.out (by simp [spec_l1GoodSym.l0])
  have H := HA.out; clear HA; simp only [spec_l1GoodSym.l0] at H; by_cases c10 : x3_2 < (a0.size : Int)
  ·rw [if_pos c10] at H; have c10b0 := decide_eq_true c10; clear c10; by_cases c11 : 0 ≤ x3_2
   case neg => rw [if_neg c11] at H; cases H
   rw [if_pos c11] at H; have c11b0 := decide_eq_true c11; clear c11; by_cases c13 : (bt a0 x3_2) ≥ 97
   ·rw [if_pos c13] at H; have c13b0 := decide_eq_true c13; clear c13; by_cases c14 : (bt a0 x3_2) ≤ 122
    ·rw [if_pos c14] at H; have c14b0 := decide_eq_true c14; clear c14; have H' := a_ H; clear H; have p12 : 0 ≤ (x3_2 : Int) := md_
     have q12 : x3_2 < (a0.size : Int) := md_
     have hx12 := bt_at a0 x3_2; replace p12 := eq_true p12; replace q12 := eq_true q12; go_wp2; go_roundg k2
     case measure => have := HJ1.out; have := HK2.out; omega
     case rel => exact ⟨(wrap64 (x3_2 + 1)), mq_, H', ⟨by have := HJ1.out; have := HK2.out; omega⟩, by repeat (first | exact Drawn0.refl _ | apply Drawn0.step)⟩
    ·rw [if_neg c14] at H; have c14b0 := decide_eq_false c14; clear c14; by_cases c15 : (bt a0 x3_2) ≥ 48
     ·rw [if_pos c15] at H; have c15b0 := decide_eq_true c15; clear c15; by_cases c16 : (bt a0 x3_2) ≤ 57
      ·rw [if_pos c16] at H; have c16b0 := decide_eq_true c16; clear c16; have H' := a_ H; clear H; have p12 : 0 ≤ (x3_2 : Int) := md_
       have q12 : x3_2 < (a0.size : Int) := md_
       have hx12 := bt_at a0 x3_2; replace p12 := eq_true p12; replace q12 := eq_true q12; go_wp2; go_roundg k2
       case measure => have := HJ1.out; have := HK2.out; omega
       case rel => exact ⟨(wrap64 (x3_2 + 1)), mq_, H', ⟨by have := HJ1.out; have := HK2.out; omega⟩, by repeat (first | exact Drawn0.refl _ | apply Drawn0.step)⟩
      ·rw [if_neg c16] at H; have c16b0 := decide_eq_false c16; clear c16; by_cases c17 : ((bt a0 x3_2) = 45)
       ·rw [if_pos c17] at H; have c17b0 := beq_iff_eq.mpr c17; have c17b1 := bne_eq_false_iff_eq.mpr c17; clear c17; have H' := a_ H; clear H; have p12 : 0 ≤ (x3_2 : Int) := md_
        have q12 : x3_2 < (a0.size : Int) := md_
        have hx12 := bt_at a0 x3_2; replace p12 := eq_true p12; replace q12 := eq_true q12; go_wp2; go_roundg k2
        case measure => have := HJ1.out; have := HK2.out; omega
        case rel => exact ⟨(wrap64 (x3_2 + 1)), mq_, H', ⟨by have := HJ1.out; have := HK2.out; omega⟩, by repeat (first | exact Drawn0.refl _ | apply Drawn0.step)⟩
       ·rw [if_neg c17] at H; have c17b0 := beq_eq_false_iff_ne.mpr c17; have c17b1 := bne_iff_ne.mpr c17; obtain rfl := Option.some.inj H; have p12 : 0 ≤ (x3_2 : Int) := md_
        have q12 : x3_2 < (a0.size : Int) := md_
        have hx12 := bt_at a0 x3_2; replace p12 := eq_true p12; replace q12 := eq_true q12; go_wp2; go_ret; exact ⟨by first | rfl | (simp; done) | (simp [*]; done), by repeat (first | exact Drawn0.refl _ | apply Drawn0.step)⟩
     ·rw [if_neg c15] at H; have c15b0 := decide_eq_false c15; clear c15; by_cases c18 : ((bt a0 x3_2) = 45)
      ·rw [if_pos c18] at H; have c18b0 := beq_iff_eq.mpr c18; have c18b1 := bne_eq_false_iff_eq.mpr c18; clear c18; have H' := a_ H; clear H; have p12 : 0 ≤ (x3_2 : Int) := md_
       have q12 : x3_2 < (a0.size : Int) := md_
       have hx12 := bt_at a0 x3_2; replace p12 := eq_true p12; replace q12 := eq_true q12; go_wp2; go_roundg k2
       case measure => have := HJ1.out; have := HK2.out; omega
       case rel => exact ⟨(wrap64 (x3_2 + 1)), mq_, H', ⟨by have := HJ1.out; have := HK2.out; omega⟩, by repeat (first | exact Drawn0.refl _ | apply Drawn0.step)⟩
      ·rw [if_neg c18] at H; have c18b0 := beq_eq_false_iff_ne.mpr c18; have c18b1 := bne_iff_ne.mpr c18; obtain rfl := Option.some.inj H; have p12 : 0 ≤ (x3_2 : Int) := md_
       have q12 : x3_2 < (a0.size : Int) := md_
       have hx12 := bt_at a0 x3_2; replace p12 := eq_true p12; replace q12 := eq_true q12; go_wp2; go_ret; exact ⟨by first | rfl | (simp; done) | (simp [*]; done), by repeat (first | exact Drawn0.refl _ | apply Drawn0.step)⟩
   ·rw [if_neg c13] at H; have c13b0 := decide_eq_false c13; clear c13; by_cases c19 : (bt a0 x3_2) ≥ 48
    ·rw [if_pos c19] at H; have c19b0 := decide_eq_true c19; clear c19; by_cases c20 : (bt a0 x3_2) ≤ 57
     ·rw [if_pos c20] at H; have c20b0 := decide_eq_true c20; clear c20; have H' := a_ H; clear H; have p12 : 0 ≤ (x3_2 : Int) := md_
      have q12 : x3_2 < (a0.size : Int) := md_
      have hx12 := bt_at a0 x3_2; replace p12 := eq_true p12; replace q12 := eq_true q12; go_wp2; go_roundg k2
      case measure => have := HJ1.out; have := HK2.out; omega
      case rel => exact ⟨(wrap64 (x3_2 + 1)), mq_, H', ⟨by have := HJ1.out; have := HK2.out; omega⟩, by repeat (first | exact Drawn0.refl _ | apply Drawn0.step)⟩
     ·rw [if_neg c20] at H; have c20b0 := decide_eq_false c20; clear c20; by_cases c21 : ((bt a0 x3_2) = 45)
      ·rw [if_pos c21] at H; have c21b0 := beq_iff_eq.mpr c21; have c21b1 := bne_eq_false_iff_eq.mpr c21; clear c21; have H' := a_ H; clear H; have p12 : 0 ≤ (x3_2 : Int) := md_
       have q12 : x3_2 < (a0.size : Int) := md_
       have hx12 := bt_at a0 x3_2; replace p12 := eq_true p12; replace q12 := eq_true q12; go_wp2; go_roundg k2
       case measure => have := HJ1.out; have := HK2.out; omega
       case rel => exact ⟨(wrap64 (x3_2 + 1)), mq_, H', ⟨by have := HJ1.out; have := HK2.out; omega⟩, by repeat (first | exact Drawn0.refl _ | apply Drawn0.step)⟩
      ·rw [if_neg c21] at H; have c21b0 := beq_eq_false_iff_ne.mpr c21; have c21b1 := bne_iff_ne.mpr c21; obtain rfl := Option.some.inj H; have p12 : 0 ≤ (x3_2 : Int) := md_
       have q12 : x3_2 < (a0.size : Int) := md_
       have hx12 := bt_at a0 x3_2; replace p12 := eq_true p12; replace q12 := eq_true q12; go_wp2; go_ret; exact ⟨by first | rfl | (simp; done) | (simp [*]; done), by repeat (first | exact Drawn0.refl _ | apply Drawn0.step)⟩
    ·rw [if_neg c19] at H; have c19b0 := decide_eq_false c19; clear c19; by_cases c22 : ((bt a0 x3_2) = 45)
     ·rw [if_pos c22] at H; have c22b0 := beq_iff_eq.mpr c22; have c22b1 := bne_eq_false_iff_eq.mpr c22; clear c22; have H' := a_ H; clear H; have p12 : 0 ≤ (x3_2 : Int) := md_
      have q12 : x3_2 < (a0.size : Int) := md_
      have hx12 := bt_at a0 x3_2; replace p12 := eq_true p12; replace q12 := eq_true q12; go_wp2; go_roundg k2
      case measure => have := HJ1.out; have := HK2.out; omega
      case rel => exact ⟨(wrap64 (x3_2 + 1)), mq_, H', ⟨by have := HJ1.out; have := HK2.out; omega⟩, by repeat (first | exact Drawn0.refl _ | apply Drawn0.step)⟩
     ·rw [if_neg c22] at H; have c22b0 := beq_eq_false_iff_ne.mpr c22; have c22b1 := bne_iff_ne.mpr c22; obtain rfl := Option.some.inj H; have p12 : 0 ≤ (x3_2 : Int) := md_
      have q12 : x3_2 < (a0.size : Int) := md_
      have hx12 := bt_at a0 x3_2; replace p12 := eq_true p12; replace q12 := eq_true q12; go_wp2; go_ret; exact ⟨by first | rfl | (simp; done) | (simp [*]; done), by repeat (first | exact Drawn0.refl _ | apply Drawn0.step)⟩
  ·rw [if_neg c10] at H; have c10b0 := decide_eq_false c10; clear c10; obtain rfl := Option.some.inj H; go_wp2; go_ret; exact ⟨by first | rfl | (simp; done) | (simp [*]; done), by repeat (first | exact Drawn0.refl _ | apply Drawn0.step)⟩
def spec_l2GoodCls.f (k : Nat) (a0 : ByteArray) : Option (Bool) := (spec_l1GoodSym.f k a0).bind fun t124 => (if t124 = true then (some (a0.toList != ([110, 111, 116] : List UInt8))) else (some false))
theorem spec_l2GoodCls.mono : ∀ a0 k, LeO (spec_l2GoodCls.f k a0) (spec_l2GoodCls.f (k + 1) a0) := by
 intro a0 k; unfold spec_l2GoodCls.f
 repeat' with_reducible first | apply spec_l1GoodSym.mono | apply LeO.refl | apply LeO.none | refine LeO.ite ?_ ?_ | refine LeO.bind ?_ (fun _ => ?_)
set_option maxHeartbeats 8000000 in
set_option maxRecDepth 100000 in
theorem spec_l2GoodCls.calls (k : Nat) (a0 : ByteArray) (r : Bool) (w : World) (h : spec_l2GoodCls.f k a0 = some r) :
  Calls Try.prog 42 #[.string a0] w fun e w' => e = .returned (.bool r) ∧ Drawn0 w w' := by
 have H : ((spec_l1GoodSym.f k a0).bind fun t124 => (if t124 = true then (some (a0.toList != ([110, 111, 116] : List UInt8))) else (some false))) = some r := h
 clear h; replace H := Option.bind_eq_some_iff.mp H; obtain ⟨t124, A20, H⟩ := H; have A2 := a_ A20; clear A20; by_cases c3 : t124 = true
 ·subst c3; rw [if_pos rfl] at H; obtain rfl := Option.some.inj H; go_enter Try.func42, Try.ntmps42; go_wp2_with (first | ((with_reducible refine gate_callee (f := 23) rfl ?_); refine goesL_ (some 4) rfl rfl Try.func23 (by kernel_rfl) rfl #[.string a0] rfl mw_ ?_; (with_reducible refine (spec_l1GoodSym.calls k a0 true _ A2.out).mono ?_); rintro e w' ⟨rfl, ⟨nd, rfl⟩⟩; refine ⟨_, rfl, ?_⟩)); go_ret; exact ⟨by first | rfl | (simp; done) | (simp [*]; done), by repeat (first | exact Drawn0.refl _ | apply Drawn0.step)⟩
 ·replace c3 := Bool.eq_false_iff.mpr c3; subst c3; rw [if_neg (show ¬ (false = true) by decide)] at H; obtain rfl := Option.some.inj H; go_enter Try.func42, Try.ntmps42; go_wp2_with (first | ((with_reducible refine gate_callee (f := 23) rfl ?_); refine goesL_ (some 4) rfl rfl Try.func23 (by kernel_rfl) rfl #[.string a0] rfl mw_ ?_; (with_reducible refine (spec_l1GoodSym.calls k a0 false _ A2.out).mono ?_); rintro e w' ⟨rfl, ⟨nd, rfl⟩⟩; refine ⟨_, rfl, ?_⟩)); go_ret; exact ⟨by first | rfl | (simp; done) | (simp [*]; done), by repeat (first | exact Drawn0.refl _ | apply Drawn0.step)⟩
def spec_l1GoodVal.f (k : Nat) (a0_0 : Int) (a0_1 : Int) (a0_2 : ByteArray) : Option (Bool) := if a0_0 = 0 then (if a0_2.toList = ([] : List UInt8) then (some true) else (if a0_0 = 1 then (if a0_1 = 0 then ((spec_l1GoodSym.f k a0_2).bind fun t126 => (some t126)) else (some false)) else (some false))) else (if a0_0 = 1 then (if a0_1 = 0 then ((spec_l1GoodSym.f k a0_2).bind fun t127 => (some t127)) else (some false)) else (some false))
theorem spec_l1GoodVal.mono : ∀ a0 a1 a2 k, LeO (spec_l1GoodVal.f k a0 a1 a2) (spec_l1GoodVal.f (k + 1) a0 a1 a2) := by
 intro a0 a1 a2 k; unfold spec_l1GoodVal.f
 repeat' with_reducible first | apply spec_l1GoodSym.mono | apply LeO.refl | apply LeO.none | refine LeO.ite ?_ ?_ | refine LeO.bind ?_ (fun _ => ?_)
set_option maxHeartbeats 8000000 in
set_option maxRecDepth 100000 in
theorem spec_l1GoodVal.calls (k : Nat) (a0_0 : Int) (a0_1 : Int) (a0_2 : ByteArray) (r : Bool) (w : World) (h : spec_l1GoodVal.f k a0_0 a0_1 a0_2 = some r) :
  Calls Try.prog 44 #[.agg #[.int .i64 a0_0, .int .i64 a0_1, .string a0_2]] w fun e w' => e = .returned (.bool r) ∧ Below w.heap.size w w' := by
 have hu66 := Try.underlying66; have HB := a_ (Below.refl w.heap.size w); have H : (if a0_0 = 0 then (if a0_2.toList = ([] : List UInt8) then (some true) else (if a0_0 = 1 then (if a0_1 = 0 then ((spec_l1GoodSym.f k a0_2).bind fun t126 => (some t126)) else (some false)) else (some false))) else (if a0_0 = 1 then (if a0_1 = 0 then ((spec_l1GoodSym.f k a0_2).bind fun t127 => (some t127)) else (some false)) else (some false))) = some r := h
 clear h; by_cases c2 : a0_0 = 0
 ·rw [if_pos c2] at H; have c2b0 := beq_iff_eq.mpr c2; have c2b1 := bne_eq_false_iff_eq.mpr c2; clear c2; by_cases c3 : a0_2.toList = ([] : List UInt8)
  ·rw [if_pos c3] at H; have c3b0 := beq_iff_eq.mpr c3; have c3b1 := bne_eq_false_iff_eq.mpr c3; clear c3; obtain rfl := Option.some.inj H; go_enter Try.func44, Try.ntmps44; go_wp2_with (first | ((with_reducible refine gate_dst (N := 1) rfl ?_); refine bx_ 1 #[.int .i64 a0_0, .int .i64 a0_1, .string a0_2] 66 ?_; intro gb125 hg w4 hbox hb; have BK125 := a_ (hbox); have GE125 := mg_ HB hg; replace HB := ms_ HB hb; clear hb hbox hg; obtain ⟨z5_0, z5_1, z5_2, zf5_0, zf5_1, zf5_2⟩ := cz3 BK125)); go_ret; exact ⟨me_, mb_ HB⟩
  ·rw [if_neg c3] at H; have c3b0 := beq_eq_false_iff_ne.mpr c3; have c3b1 := bne_iff_ne.mpr c3; by_cases c6 : a0_0 = 1
   ·rw [if_pos c6] at H; have c6b0 := beq_iff_eq.mpr c6; have c6b1 := bne_eq_false_iff_eq.mpr c6; clear c6; by_cases c7 : a0_1 = 0
    ·rw [if_pos c7] at H; have c7b0 := beq_iff_eq.mpr c7; have c7b1 := bne_eq_false_iff_eq.mpr c7; clear c7; replace H := Option.bind_eq_some_iff.mp H; obtain ⟨t126, A80, H⟩ := H; have A8 := a_ A80; clear A80; obtain rfl := Option.some.inj H; go_enter Try.func44, Try.ntmps44; go_wp2_with (first | ((with_reducible refine gate_dst (N := 1) rfl ?_); refine bx_ 1 #[.int .i64 a0_0, .int .i64 a0_1, .string a0_2] 66 ?_; intro gb125 hg w9 hbox hb; have BK125 := a_ (hbox); have GE125 := mg_ HB hg; replace HB := ms_ HB hb; clear hb hbox hg; obtain ⟨z10_0, z10_1, z10_2, zf10_0, zf10_1, zf10_2⟩ := cz3 BK125) | (go_at_call 23; (with_reducible refine (spec_l1GoodSym.calls k a0_2 t126 _ A8.out).mono ?_); rintro e w' ⟨rfl, ⟨nd, rfl⟩⟩)); go_ret; exact ⟨me_, mb_ HB⟩
    ·rw [if_neg c7] at H; have c7b0 := beq_eq_false_iff_ne.mpr c7; have c7b1 := bne_iff_ne.mpr c7; obtain rfl := Option.some.inj H; go_enter Try.func44, Try.ntmps44; go_wp2_with (first | ((with_reducible refine gate_dst (N := 1) rfl ?_); refine bx_ 1 #[.int .i64 a0_0, .int .i64 a0_1, .string a0_2] 66 ?_; intro gb125 hg w11 hbox hb; have BK125 := a_ (hbox); have GE125 := mg_ HB hg; replace HB := ms_ HB hb; clear hb hbox hg; obtain ⟨z12_0, z12_1, z12_2, zf12_0, zf12_1, zf12_2⟩ := cz3 BK125)); go_ret; exact ⟨me_, mb_ HB⟩
   ·rw [if_neg c6] at H; have c6b0 := beq_eq_false_iff_ne.mpr c6; have c6b1 := bne_iff_ne.mpr c6; obtain rfl := Option.some.inj H; go_enter Try.func44, Try.ntmps44; go_wp2_with (first | ((with_reducible refine gate_dst (N := 1) rfl ?_); refine bx_ 1 #[.int .i64 a0_0, .int .i64 a0_1, .string a0_2] 66 ?_; intro gb125 hg w13 hbox hb; have BK125 := a_ (hbox); have GE125 := mg_ HB hg; replace HB := ms_ HB hb; clear hb hbox hg; obtain ⟨z14_0, z14_1, z14_2, zf14_0, zf14_1, zf14_2⟩ := cz3 BK125)); go_ret; exact ⟨me_, mb_ HB⟩
 ·rw [if_neg c2] at H; have c2b0 := beq_eq_false_iff_ne.mpr c2; have c2b1 := bne_iff_ne.mpr c2; by_cases c15 : a0_0 = 1
  ·rw [if_pos c15] at H; have c15b0 := beq_iff_eq.mpr c15; have c15b1 := bne_eq_false_iff_eq.mpr c15; clear c15; by_cases c16 : a0_1 = 0
   ·rw [if_pos c16] at H; have c16b0 := beq_iff_eq.mpr c16; have c16b1 := bne_eq_false_iff_eq.mpr c16; clear c16; replace H := Option.bind_eq_some_iff.mp H; obtain ⟨t127, A170, H⟩ := H; have A17 := a_ A170; clear A170; obtain rfl := Option.some.inj H; go_enter Try.func44, Try.ntmps44; go_wp2_with (first | ((with_reducible refine gate_dst (N := 1) rfl ?_); refine bx_ 1 #[.int .i64 a0_0, .int .i64 a0_1, .string a0_2] 66 ?_; intro gb125 hg w18 hbox hb; have BK125 := a_ (hbox); have GE125 := mg_ HB hg; replace HB := ms_ HB hb; clear hb hbox hg; obtain ⟨z19_0, z19_1, z19_2, zf19_0, zf19_1, zf19_2⟩ := cz3 BK125) | (go_at_call 23; (with_reducible refine (spec_l1GoodSym.calls k a0_2 t127 _ A17.out).mono ?_); rintro e w' ⟨rfl, ⟨nd, rfl⟩⟩)); go_ret; exact ⟨me_, mb_ HB⟩
   ·rw [if_neg c16] at H; have c16b0 := beq_eq_false_iff_ne.mpr c16; have c16b1 := bne_iff_ne.mpr c16; obtain rfl := Option.some.inj H; go_enter Try.func44, Try.ntmps44; go_wp2_with (first | ((with_reducible refine gate_dst (N := 1) rfl ?_); refine bx_ 1 #[.int .i64 a0_0, .int .i64 a0_1, .string a0_2] 66 ?_; intro gb125 hg w20 hbox hb; have BK125 := a_ (hbox); have GE125 := mg_ HB hg; replace HB := ms_ HB hb; clear hb hbox hg; obtain ⟨z21_0, z21_1, z21_2, zf21_0, zf21_1, zf21_2⟩ := cz3 BK125)); go_ret; exact ⟨me_, mb_ HB⟩
  ·rw [if_neg c15] at H; have c15b0 := beq_eq_false_iff_ne.mpr c15; have c15b1 := bne_iff_ne.mpr c15; obtain rfl := Option.some.inj H; go_enter Try.func44, Try.ntmps44; go_wp2_with (first | ((with_reducible refine gate_dst (N := 1) rfl ?_); refine bx_ 1 #[.int .i64 a0_0, .int .i64 a0_1, .string a0_2] 66 ?_; intro gb125 hg w22 hbox hb; have BK125 := a_ (hbox); have GE125 := mg_ HB hg; replace HB := ms_ HB hb; clear hb hbox hg; obtain ⟨z23_0, z23_1, z23_2, zf23_0, zf23_1, zf23_2⟩ := cz3 BK125)); go_ret; exact ⟨me_, mb_ HB⟩
def spec_l2Zero.f (a0_0 : Int) (a0_1 : Int) (a0_2 : ByteArray) : Option (Bool) := some (a0_0 == 0 && (a0_1 == 0 && (a0_2.toList == ([] : List UInt8))))
set_option maxHeartbeats 8000000 in
set_option maxRecDepth 100000 in
theorem spec_l2Zero.calls (a0_0 : Int) (a0_1 : Int) (a0_2 : ByteArray) (r : Bool) (w : World) (h : spec_l2Zero.f a0_0 a0_1 a0_2 = some r) :
  Calls Try.prog 45 #[.agg #[.int .i64 a0_0, .int .i64 a0_1, .string a0_2]] w fun e w' => e = .returned (.bool r) ∧ Below w.heap.size w w' := by
 have hu66 := Try.underlying66; have HB := a_ (Below.refl w.heap.size w); have H : (some (a0_0 == 0 && (a0_1 == 0 && (a0_2.toList == ([] : List UInt8))))) = some r := h
 clear h; obtain rfl := Option.some.inj H; go_enter Try.func45, Try.ntmps45; go_wp2_with (first | ((with_reducible refine gate_dst (N := 1) rfl ?_); refine bx_ 1 #[.int .i64 a0_0, .int .i64 a0_1, .string a0_2] 66 ?_; intro gb128 hg w2 hbox hb; have BK128 := a_ (hbox); have GE128 := mg_ HB hg; replace HB := ms_ HB hb; clear hb hbox hg; obtain ⟨z3_0, z3_1, z3_2, zf3_0, zf3_1, zf3_2⟩ := cz3 BK128)); go_ret; exact ⟨me_, mb_ HB⟩
end Go.Proofs.Ytejjlkbbnhpbdaa.P
namespace Go.Proofs.Ytejjlkbbnhpbdaa.P
open Go.Proofs.YtejjlkbbnhpbdaaX
open Go.RowKit Go.Proofs.YtejjlkbbnhpbdaaW.PrintWords Go.Proofs.YtejjlkbbnhpbdaaW.PrintLast Go.Proofs.YtejjlkbbnhpbdaaW.PrintMore
attribute [local go_sem] max2_int min2_int max_two min_two max_three min_three max_four min_four
set_option linter.unusedVariables false
set_option linter.unusedSimpArgs false
def spec_l2GoodTerm.f (k : Nat) (a0_0 : Int) (a0_1 : Int) (a0_2 : ByteArray) (a0_3 : Int) (a0_4 : Int) (a0_5 : ByteArray) : Option (Bool) := if a0_0 = 0 then (if a0_1 = 0 then (if a0_2.toList = ([] : List UInt8) then ((spec_l2Zero.f a0_3 a0_4 a0_5).bind fun t130 => (some t130)) else (some false)) else (some false)) else (if a0_0 = 1 then (if a0_1 = 0 then (if a0_2.toList = ([] : List UInt8) then ((spec_l1GoodVal.f k a0_3 a0_4 a0_5).bind fun t131 => (some t131)) else (some false)) else (some false)) else (if a0_0 = 2 then (if a0_1 = 0 then ((spec_l1GoodSym.f k a0_2).bind fun t132 => (if t132 = true then ((spec_l2Zero.f a0_3 a0_4 a0_5).bind fun t133 => (some t133)) else (some false))) else (some false)) else (if a0_0 = 3 then (if a0_1 ≥ 1 then (if a0_1 ≤ 6 then (if a0_2.toList = ([] : List UInt8) then ((spec_l1GoodVal.f k a0_3 a0_4 a0_5).bind fun t134 => (if t134 = true then (some true) else ((spec_l1GoodSym.f k a0_2).bind fun t135 => (if t135 = true then ((spec_l2Zero.f a0_3 a0_4 a0_5).bind fun t136 => (some t136)) else (some false))))) else ((spec_l1GoodSym.f k a0_2).bind fun t137 => (if t137 = true then ((spec_l2Zero.f a0_3 a0_4 a0_5).bind fun t138 => (some t138)) else (some false)))) else (some false)) else (some false)) else (some false))))
theorem spec_l2GoodTerm.mono : ∀ a0 a1 a2 a3 a4 a5 k, LeO (spec_l2GoodTerm.f k a0 a1 a2 a3 a4 a5) (spec_l2GoodTerm.f (k + 1) a0 a1 a2 a3 a4 a5) := by
 intro a0 a1 a2 a3 a4 a5 k; unfold spec_l2GoodTerm.f
 repeat' with_reducible first | apply spec_l1GoodSym.mono | apply spec_l1GoodVal.mono | apply LeO.refl | apply LeO.none | refine LeO.ite ?_ ?_ | refine LeO.bind ?_ (fun _ => ?_)
set_option maxHeartbeats 8000000 in
set_option maxRecDepth 100000 in
theorem spec_l2GoodTerm.calls (k : Nat) (a0_0 : Int) (a0_1 : Int) (a0_2 : ByteArray) (a0_3 : Int) (a0_4 : Int) (a0_5 : ByteArray) (r : Bool) (w : World) (h : spec_l2GoodTerm.f k a0_0 a0_1 a0_2 a0_3 a0_4 a0_5 = some r) :
  Calls Try.prog 43 #[.agg #[.int .i64 a0_0, .int .i64 a0_1, .string a0_2, .int .i64 a0_3, .int .i64 a0_4, .string a0_5]] w fun e w' => e = .returned (.bool r) ∧ Below w.heap.size w w' := by
 have hu68 := Try.underlying68; have hu66 := Try.underlying66; have HB := a_ (Below.refl w.heap.size w); have H : (if a0_0 = 0 then (if a0_1 = 0 then (if a0_2.toList = ([] : List UInt8) then ((spec_l2Zero.f a0_3 a0_4 a0_5).bind fun t130 => (some t130)) else (some false)) else (some false)) else (if a0_0 = 1 then (if a0_1 = 0 then (if a0_2.toList = ([] : List UInt8) then ((spec_l1GoodVal.f k a0_3 a0_4 a0_5).bind fun t131 => (some t131)) else (some false)) else (some false)) else (if a0_0 = 2 then (if a0_1 = 0 then ((spec_l1GoodSym.f k a0_2).bind fun t132 => (if t132 = true then ((spec_l2Zero.f a0_3 a0_4 a0_5).bind fun t133 => (some t133)) else (some false))) else (some false)) else (if a0_0 = 3 then (if a0_1 ≥ 1 then (if a0_1 ≤ 6 then (if a0_2.toList = ([] : List UInt8) then ((spec_l1GoodVal.f k a0_3 a0_4 a0_5).bind fun t134 => (if t134 = true then (some true) else ((spec_l1GoodSym.f k a0_2).bind fun t135 => (if t135 = true then ((spec_l2Zero.f a0_3 a0_4 a0_5).bind fun t136 => (some t136)) else (some false))))) else ((spec_l1GoodSym.f k a0_2).bind fun t137 => (if t137 = true then ((spec_l2Zero.f a0_3 a0_4 a0_5).bind fun t138 => (some t138)) else (some false)))) else (some false)) else (some false)) else (some false))))) = some r := h
 clear h; by_cases c2 : a0_0 = 0
 ·rw [if_pos c2] at H; have c2b0 := beq_iff_eq.mpr c2; have c2b1 := bne_eq_false_iff_eq.mpr c2; clear c2; by_cases c3 : a0_1 = 0
  ·rw [if_pos c3] at H; have c3b0 := beq_iff_eq.mpr c3; have c3b1 := bne_eq_false_iff_eq.mpr c3; clear c3; by_cases c4 : a0_2.toList = ([] : List UInt8)
   ·rw [if_pos c4] at H; have c4b0 := beq_iff_eq.mpr c4; have c4b1 := bne_eq_false_iff_eq.mpr c4; clear c4; replace H := Option.bind_eq_some_iff.mp H; obtain ⟨t130, A50, H⟩ := H; have A5 := a_ A50; clear A50; obtain rfl := Option.some.inj H; go_enter Try.func43, Try.ntmps43; go_wp2_with (first | ((with_reducible refine gate_dst (N := 1) rfl ?_); refine bx_ 1 #[.int .i64 a0_0, .int .i64 a0_1, .string a0_2, .int .i64 a0_3, .int .i64 a0_4, .string a0_5] 68 ?_; intro gb129 hg w6 hbox hb; have BK129 := a_ (hbox); have GE129 := mg_ HB hg; replace HB := ms_ HB hb; clear hb hbox hg; obtain ⟨z7_0, z7_1, z7_2, z7_3, z7_4, z7_5, zf7_0, zf7_1, zf7_2, zf7_3, zf7_4, zf7_5⟩ := cz6 BK129) | (go_at_call 45; (with_reducible refine (spec_l2Zero.calls a0_3 a0_4 a0_5 t130 _ A5.out).mono ?_); rintro e w8 ⟨rfl, hb⟩; replace BK129 := mk_ BK129 hb; replace HB := ms_ HB hb; (try clear hb); (try clear hb2); (try clear hk); (try clear hi))); go_ret; exact ⟨me_, mb_ HB⟩
   ·rw [if_neg c4] at H; have c4b0 := beq_eq_false_iff_ne.mpr c4; have c4b1 := bne_iff_ne.mpr c4; obtain rfl := Option.some.inj H; go_enter Try.func43, Try.ntmps43; go_wp2_with (first | ((with_reducible refine gate_dst (N := 1) rfl ?_); refine bx_ 1 #[.int .i64 a0_0, .int .i64 a0_1, .string a0_2, .int .i64 a0_3, .int .i64 a0_4, .string a0_5] 68 ?_; intro gb129 hg w9 hbox hb; have BK129 := a_ (hbox); have GE129 := mg_ HB hg; replace HB := ms_ HB hb; clear hb hbox hg; obtain ⟨z10_0, z10_1, z10_2, z10_3, z10_4, z10_5, zf10_0, zf10_1, zf10_2, zf10_3, zf10_4, zf10_5⟩ := cz6 BK129)); go_ret; exact ⟨me_, mb_ HB⟩
  ·rw [if_neg c3] at H; have c3b0 := beq_eq_false_iff_ne.mpr c3; have c3b1 := bne_iff_ne.mpr c3; obtain rfl := Option.some.inj H; go_enter Try.func43, Try.ntmps43; go_wp2_with (first | ((with_reducible refine gate_dst (N := 1) rfl ?_); refine bx_ 1 #[.int .i64 a0_0, .int .i64 a0_1, .string a0_2, .int .i64 a0_3, .int .i64 a0_4, .string a0_5] 68 ?_; intro gb129 hg w11 hbox hb; have BK129 := a_ (hbox); have GE129 := mg_ HB hg; replace HB := ms_ HB hb; clear hb hbox hg; obtain ⟨z12_0, z12_1, z12_2, z12_3, z12_4, z12_5, zf12_0, zf12_1, zf12_2, zf12_3, zf12_4, zf12_5⟩ := cz6 BK129)); go_ret; exact ⟨me_, mb_ HB⟩
 ·rw [if_neg c2] at H; have c2b0 := beq_eq_false_iff_ne.mpr c2; have c2b1 := bne_iff_ne.mpr c2; by_cases c13 : a0_0 = 1
  ·rw [if_pos c13] at H; have c13b0 := beq_iff_eq.mpr c13; have c13b1 := bne_eq_false_iff_eq.mpr c13; clear c13; by_cases c14 : a0_1 = 0
   ·rw [if_pos c14] at H; have c14b0 := beq_iff_eq.mpr c14; have c14b1 := bne_eq_false_iff_eq.mpr c14; clear c14; by_cases c15 : a0_2.toList = ([] : List UInt8)
    ·rw [if_pos c15] at H; have c15b0 := beq_iff_eq.mpr c15; have c15b1 := bne_eq_false_iff_eq.mpr c15; clear c15; replace H := Option.bind_eq_some_iff.mp H; obtain ⟨t131, A160, H⟩ := H; have A16 := a_ A160; clear A160; obtain rfl := Option.some.inj H; go_enter Try.func43, Try.ntmps43; go_wp2_with (first | ((with_reducible refine gate_dst (N := 1) rfl ?_); refine bx_ 1 #[.int .i64 a0_0, .int .i64 a0_1, .string a0_2, .int .i64 a0_3, .int .i64 a0_4, .string a0_5] 68 ?_; intro gb129 hg w17 hbox hb; have BK129 := a_ (hbox); have GE129 := mg_ HB hg; replace HB := ms_ HB hb; clear hb hbox hg; obtain ⟨z18_0, z18_1, z18_2, z18_3, z18_4, z18_5, zf18_0, zf18_1, zf18_2, zf18_3, zf18_4, zf18_5⟩ := cz6 BK129) | (go_at_call 44; (with_reducible refine (spec_l1GoodVal.calls k a0_3 a0_4 a0_5 t131 _ A16.out).mono ?_); rintro e w19 ⟨rfl, hb⟩; replace BK129 := mk_ BK129 hb; replace HB := ms_ HB hb; (try clear hb); (try clear hb2); (try clear hk); (try clear hi))); go_ret; exact ⟨me_, mb_ HB⟩
    ·rw [if_neg c15] at H; have c15b0 := beq_eq_false_iff_ne.mpr c15; have c15b1 := bne_iff_ne.mpr c15; obtain rfl := Option.some.inj H; go_enter Try.func43, Try.ntmps43; go_wp2_with (first | ((with_reducible refine gate_dst (N := 1) rfl ?_); refine bx_ 1 #[.int .i64 a0_0, .int .i64 a0_1, .string a0_2, .int .i64 a0_3, .int .i64 a0_4, .string a0_5] 68 ?_; intro gb129 hg w20 hbox hb; have BK129 := a_ (hbox); have GE129 := mg_ HB hg; replace HB := ms_ HB hb; clear hb hbox hg; obtain ⟨z21_0, z21_1, z21_2, z21_3, z21_4, z21_5, zf21_0, zf21_1, zf21_2, zf21_3, zf21_4, zf21_5⟩ := cz6 BK129)); go_ret; exact ⟨me_, mb_ HB⟩
   ·rw [if_neg c14] at H; have c14b0 := beq_eq_false_iff_ne.mpr c14; have c14b1 := bne_iff_ne.mpr c14; obtain rfl := Option.some.inj H; go_enter Try.func43, Try.ntmps43; go_wp2_with (first | ((with_reducible refine gate_dst (N := 1) rfl ?_); refine bx_ 1 #[.int .i64 a0_0, .int .i64 a0_1, .string a0_2, .int .i64 a0_3, .int .i64 a0_4, .string a0_5] 68 ?_; intro gb129 hg w22 hbox hb; have BK129 := a_ (hbox); have GE129 := mg_ HB hg; replace HB := ms_ HB hb; clear hb hbox hg; obtain ⟨z23_0, z23_1, z23_2, z23_3, z23_4, z23_5, zf23_0, zf23_1, zf23_2, zf23_3, zf23_4, zf23_5⟩ := cz6 BK129)); go_ret; exact ⟨me_, mb_ HB⟩
  ·rw [if_neg c13] at H; have c13b0 := beq_eq_false_iff_ne.mpr c13; have c13b1 := bne_iff_ne.mpr c13; by_cases c24 : a0_0 = 2
   ·rw [if_pos c24] at H; have c24b0 := beq_iff_eq.mpr c24; have c24b1 := bne_eq_false_iff_eq.mpr c24; clear c24; by_cases c25 : a0_1 = 0
    ·rw [if_pos c25] at H; have c25b0 := beq_iff_eq.mpr c25; have c25b1 := bne_eq_false_iff_eq.mpr c25; clear c25; replace H := Option.bind_eq_some_iff.mp H; obtain ⟨t132, A260, H⟩ := H; have A26 := a_ A260; clear A260; by_cases c27 : t132 = true
     ·subst c27; rw [if_pos rfl] at H; replace H := Option.bind_eq_some_iff.mp H; obtain ⟨t133, A280, H⟩ := H; have A28 := a_ A280; clear A280; obtain rfl := Option.some.inj H; go_enter Try.func43, Try.ntmps43; go_wp2_with (first | ((with_reducible refine gate_dst (N := 1) rfl ?_); refine bx_ 1 #[.int .i64 a0_0, .int .i64 a0_1, .string a0_2, .int .i64 a0_3, .int .i64 a0_4, .string a0_5] 68 ?_; intro gb129 hg w29 hbox hb; have BK129 := a_ (hbox); have GE129 := mg_ HB hg; replace HB := ms_ HB hb; clear hb hbox hg; obtain ⟨z30_0, z30_1, z30_2, z30_3, z30_4, z30_5, zf30_0, zf30_1, zf30_2, zf30_3, zf30_4, zf30_5⟩ := cz6 BK129) | (go_at_call 23; (with_reducible refine (spec_l1GoodSym.calls k a0_2 true _ A26.out).mono ?_); rintro e w' ⟨rfl, ⟨nd, rfl⟩⟩) | (go_at_call 45; (with_reducible refine (spec_l2Zero.calls a0_3 a0_4 a0_5 t133 _ A28.out).mono ?_); rintro e w31 ⟨rfl, hb⟩; replace BK129 := mk_ BK129 hb; replace HB := ms_ HB hb; (try clear hb); (try clear hb2); (try clear hk); (try clear hi))); go_ret; exact ⟨me_, mb_ HB⟩
     ·replace c27 := Bool.eq_false_iff.mpr c27; subst c27; rw [if_neg (show ¬ (false = true) by decide)] at H; obtain rfl := Option.some.inj H; go_enter Try.func43, Try.ntmps43; go_wp2_with (first | ((with_reducible refine gate_dst (N := 1) rfl ?_); refine bx_ 1 #[.int .i64 a0_0, .int .i64 a0_1, .string a0_2, .int .i64 a0_3, .int .i64 a0_4, .string a0_5] 68 ?_; intro gb129 hg w32 hbox hb; have BK129 := a_ (hbox); have GE129 := mg_ HB hg; replace HB := ms_ HB hb; clear hb hbox hg; obtain ⟨z33_0, z33_1, z33_2, z33_3, z33_4, z33_5, zf33_0, zf33_1, zf33_2, zf33_3, zf33_4, zf33_5⟩ := cz6 BK129) | (go_at_call 23; (with_reducible refine (spec_l1GoodSym.calls k a0_2 false _ A26.out).mono ?_); rintro e w' ⟨rfl, ⟨nd, rfl⟩⟩)); go_ret; exact ⟨me_, mb_ HB⟩
    ·rw [if_neg c25] at H; have c25b0 := beq_eq_false_iff_ne.mpr c25; have c25b1 := bne_iff_ne.mpr c25; obtain rfl := Option.some.inj H; go_enter Try.func43, Try.ntmps43; go_wp2_with (first | ((with_reducible refine gate_dst (N := 1) rfl ?_); refine bx_ 1 #[.int .i64 a0_0, .int .i64 a0_1, .string a0_2, .int .i64 a0_3, .int .i64 a0_4, .string a0_5] 68 ?_; intro gb129 hg w34 hbox hb; have BK129 := a_ (hbox); have GE129 := mg_ HB hg; replace HB := ms_ HB hb; clear hb hbox hg; obtain ⟨z35_0, z35_1, z35_2, z35_3, z35_4, z35_5, zf35_0, zf35_1, zf35_2, zf35_3, zf35_4, zf35_5⟩ := cz6 BK129)); go_ret; exact ⟨me_, mb_ HB⟩
   ·rw [if_neg c24] at H; have c24b0 := beq_eq_false_iff_ne.mpr c24; have c24b1 := bne_iff_ne.mpr c24; by_cases c36 : a0_0 = 3
    ·rw [if_pos c36] at H; have c36b0 := beq_iff_eq.mpr c36; have c36b1 := bne_eq_false_iff_eq.mpr c36; clear c36; by_cases c37 : a0_1 ≥ 1
     ·rw [if_pos c37] at H; have c37b0 := decide_eq_true c37; clear c37; by_cases c38 : a0_1 ≤ 6
      ·rw [if_pos c38] at H; have c38b0 := decide_eq_true c38; clear c38; by_cases c39 : a0_2.toList = ([] : List UInt8)
       ·rw [if_pos c39] at H; have c39b0 := beq_iff_eq.mpr c39; have c39b1 := bne_eq_false_iff_eq.mpr c39; clear c39; replace H := Option.bind_eq_some_iff.mp H; obtain ⟨t134, A400, H⟩ := H; have A40 := a_ A400; clear A400; by_cases c41 : t134 = true
        ·subst c41; rw [if_pos rfl] at H; obtain rfl := Option.some.inj H; go_enter Try.func43, Try.ntmps43; go_wp2_with (first | ((with_reducible refine gate_dst (N := 1) rfl ?_); refine bx_ 1 #[.int .i64 a0_0, .int .i64 a0_1, .string a0_2, .int .i64 a0_3, .int .i64 a0_4, .string a0_5] 68 ?_; intro gb129 hg w42 hbox hb; have BK129 := a_ (hbox); have GE129 := mg_ HB hg; replace HB := ms_ HB hb; clear hb hbox hg; obtain ⟨z43_0, z43_1, z43_2, z43_3, z43_4, z43_5, zf43_0, zf43_1, zf43_2, zf43_3, zf43_4, zf43_5⟩ := cz6 BK129) | (go_at_call 44; (with_reducible refine (spec_l1GoodVal.calls k a0_3 a0_4 a0_5 true _ A40.out).mono ?_); rintro e w44 ⟨rfl, hb⟩; replace BK129 := mk_ BK129 hb; replace HB := ms_ HB hb; (try clear hb); (try clear hb2); (try clear hk); (try clear hi))); go_ret; exact ⟨me_, mb_ HB⟩
        ·replace c41 := Bool.eq_false_iff.mpr c41; subst c41; rw [if_neg (show ¬ (false = true) by decide)] at H; replace H := Option.bind_eq_some_iff.mp H; obtain ⟨t135, A450, H⟩ := H; have A45 := a_ A450; clear A450; by_cases c46 : t135 = true
         ·subst c46; rw [if_pos rfl] at H; replace H := Option.bind_eq_some_iff.mp H; obtain ⟨t136, A470, H⟩ := H; have A47 := a_ A470; clear A470; obtain rfl := Option.some.inj H; go_enter Try.func43, Try.ntmps43; go_wp2_with (first | ((with_reducible refine gate_dst (N := 1) rfl ?_); refine bx_ 1 #[.int .i64 a0_0, .int .i64 a0_1, .string a0_2, .int .i64 a0_3, .int .i64 a0_4, .string a0_5] 68 ?_; intro gb129 hg w48 hbox hb; have BK129 := a_ (hbox); have GE129 := mg_ HB hg; replace HB := ms_ HB hb; clear hb hbox hg; obtain ⟨z49_0, z49_1, z49_2, z49_3, z49_4, z49_5, zf49_0, zf49_1, zf49_2, zf49_3, zf49_4, zf49_5⟩ := cz6 BK129) | (go_at_call 44; (with_reducible refine (spec_l1GoodVal.calls k a0_3 a0_4 a0_5 false _ A40.out).mono ?_); rintro e w50 ⟨rfl, hb⟩; replace BK129 := mk_ BK129 hb; replace HB := ms_ HB hb; (try clear hb); (try clear hb2); (try clear hk); (try clear hi); obtain ⟨z51_0, z51_1, z51_2, z51_3, z51_4, z51_5, zf51_0, zf51_1, zf51_2, zf51_3, zf51_4, zf51_5⟩ := cz6 BK129) | (go_at_call 23; (with_reducible refine (spec_l1GoodSym.calls k a0_2 true _ A45.out).mono ?_); rintro e w' ⟨rfl, ⟨nd, rfl⟩⟩) | (go_at_call 45; (with_reducible refine (spec_l2Zero.calls a0_3 a0_4 a0_5 t136 _ A47.out).mono ?_); rintro e w52 ⟨rfl, hb⟩; replace BK129 := mk_ BK129 hb; replace HB := ms_ HB hb; (try clear hb); (try clear hb2); (try clear hk); (try clear hi))); go_ret; exact ⟨me_, mb_ HB⟩
         ·replace c46 := Bool.eq_false_iff.mpr c46; subst c46; rw [if_neg (show ¬ (false = true) by decide)] at H; obtain rfl := Option.some.inj H; go_enter Try.func43, Try.ntmps43; go_wp2_with (first | ((with_reducible refine gate_dst (N := 1) rfl ?_); refine bx_ 1 #[.int .i64 a0_0, .int .i64 a0_1, .string a0_2, .int .i64 a0_3, .int .i64 a0_4, .string a0_5] 68 ?_; intro gb129 hg w53 hbox hb; have BK129 := a_ (hbox); have GE129 := mg_ HB hg; replace HB := ms_ HB hb; clear hb hbox hg; obtain ⟨z54_0, z54_1, z54_2, z54_3, z54_4, z54_5, zf54_0, zf54_1, zf54_2, zf54_3, zf54_4, zf54_5⟩ := cz6 BK129) | (go_at_call 44; (with_reducible refine (spec_l1GoodVal.calls k a0_3 a0_4 a0_5 false _ A40.out).mono ?_); rintro e w55 ⟨rfl, hb⟩; replace BK129 := mk_ BK129 hb; replace HB := ms_ HB hb; (try clear hb); (try clear hb2); (try clear hk); (try clear hi); obtain ⟨z56_0, z56_1, z56_2, z56_3, z56_4, z56_5, zf56_0, zf56_1, zf56_2, zf56_3, zf56_4, zf56_5⟩ := cz6 BK129) | (go_at_call 23; (with_reducible refine (spec_l1GoodSym.calls k a0_2 false _ A45.out).mono ?_); rintro e w' ⟨rfl, ⟨nd, rfl⟩⟩)); go_ret; exact ⟨me_, mb_ HB⟩
       ·rw [if_neg c39] at H; have c39b0 := beq_eq_false_iff_ne.mpr c39; have c39b1 := bne_iff_ne.mpr c39; replace H := Option.bind_eq_some_iff.mp H; obtain ⟨t137, A570, H⟩ := H; have A57 := a_ A570; clear A570; by_cases c58 : t137 = true
        ·subst c58; rw [if_pos rfl] at H; replace H := Option.bind_eq_some_iff.mp H; obtain ⟨t138, A590, H⟩ := H; have A59 := a_ A590; clear A590; obtain rfl := Option.some.inj H; go_enter Try.func43, Try.ntmps43; go_wp2_with (first | ((with_reducible refine gate_dst (N := 1) rfl ?_); refine bx_ 1 #[.int .i64 a0_0, .int .i64 a0_1, .string a0_2, .int .i64 a0_3, .int .i64 a0_4, .string a0_5] 68 ?_; intro gb129 hg w60 hbox hb; have BK129 := a_ (hbox); have GE129 := mg_ HB hg; replace HB := ms_ HB hb; clear hb hbox hg; obtain ⟨z61_0, z61_1, z61_2, z61_3, z61_4, z61_5, zf61_0, zf61_1, zf61_2, zf61_3, zf61_4, zf61_5⟩ := cz6 BK129) | (go_at_call 23; (with_reducible refine (spec_l1GoodSym.calls k a0_2 true _ A57.out).mono ?_); rintro e w' ⟨rfl, ⟨nd, rfl⟩⟩) | (go_at_call 45; (with_reducible refine (spec_l2Zero.calls a0_3 a0_4 a0_5 t138 _ A59.out).mono ?_); rintro e w62 ⟨rfl, hb⟩; replace BK129 := mk_ BK129 hb; replace HB := ms_ HB hb; (try clear hb); (try clear hb2); (try clear hk); (try clear hi))); go_ret; exact ⟨me_, mb_ HB⟩
        ·replace c58 := Bool.eq_false_iff.mpr c58; subst c58; rw [if_neg (show ¬ (false = true) by decide)] at H; obtain rfl := Option.some.inj H; go_enter Try.func43, Try.ntmps43; go_wp2_with (first | ((with_reducible refine gate_dst (N := 1) rfl ?_); refine bx_ 1 #[.int .i64 a0_0, .int .i64 a0_1, .string a0_2, .int .i64 a0_3, .int .i64 a0_4, .string a0_5] 68 ?_; intro gb129 hg w63 hbox hb; have BK129 := a_ (hbox); have GE129 := mg_ HB hg; replace HB := ms_ HB hb; clear hb hbox hg; obtain ⟨z64_0, z64_1, z64_2, z64_3, z64_4, z64_5, zf64_0, zf64_1, zf64_2, zf64_3, zf64_4, zf64_5⟩ := cz6 BK129) | (go_at_call 23; (with_reducible refine (spec_l1GoodSym.calls k a0_2 false _ A57.out).mono ?_); rintro e w' ⟨rfl, ⟨nd, rfl⟩⟩)); go_ret; exact ⟨me_, mb_ HB⟩
      ·rw [if_neg c38] at H; have c38b0 := decide_eq_false c38; clear c38; obtain rfl := Option.some.inj H; go_enter Try.func43, Try.ntmps43; go_wp2_with (first | ((with_reducible refine gate_dst (N := 1) rfl ?_); refine bx_ 1 #[.int .i64 a0_0, .int .i64 a0_1, .string a0_2, .int .i64 a0_3, .int .i64 a0_4, .string a0_5] 68 ?_; intro gb129 hg w65 hbox hb; have BK129 := a_ (hbox); have GE129 := mg_ HB hg; replace HB := ms_ HB hb; clear hb hbox hg; obtain ⟨z66_0, z66_1, z66_2, z66_3, z66_4, z66_5, zf66_0, zf66_1, zf66_2, zf66_3, zf66_4, zf66_5⟩ := cz6 BK129)); go_ret; exact ⟨me_, mb_ HB⟩
     ·rw [if_neg c37] at H; have c37b0 := decide_eq_false c37; clear c37; obtain rfl := Option.some.inj H; go_enter Try.func43, Try.ntmps43; go_wp2_with (first | ((with_reducible refine gate_dst (N := 1) rfl ?_); refine bx_ 1 #[.int .i64 a0_0, .int .i64 a0_1, .string a0_2, .int .i64 a0_3, .int .i64 a0_4, .string a0_5] 68 ?_; intro gb129 hg w67 hbox hb; have BK129 := a_ (hbox); have GE129 := mg_ HB hg; replace HB := ms_ HB hb; clear hb hbox hg; obtain ⟨z68_0, z68_1, z68_2, z68_3, z68_4, z68_5, zf68_0, zf68_1, zf68_2, zf68_3, zf68_4, zf68_5⟩ := cz6 BK129)); go_ret; exact ⟨me_, mb_ HB⟩
    ·rw [if_neg c36] at H; have c36b0 := beq_eq_false_iff_ne.mpr c36; have c36b1 := bne_iff_ne.mpr c36; obtain rfl := Option.some.inj H; go_enter Try.func43, Try.ntmps43; go_wp2_with (first | ((with_reducible refine gate_dst (N := 1) rfl ?_); refine bx_ 1 #[.int .i64 a0_0, .int .i64 a0_1, .string a0_2, .int .i64 a0_3, .int .i64 a0_4, .string a0_5] 68 ?_; intro gb129 hg w69 hbox hb; have BK129 := a_ (hbox); have GE129 := mg_ HB hg; replace HB := ms_ HB hb; clear hb hbox hg; obtain ⟨z70_0, z70_1, z70_2, z70_3, z70_4, z70_5, zf70_0, zf70_1, zf70_2, zf70_3, zf70_4, zf70_5⟩ := cz6 BK129)); go_ret; exact ⟨me_, mb_ HB⟩
mutual
def spec_l2GoodPat.j0 : Nat → Bool → Bool → ByteArray → List (S68) → Option (Bool)
 | 0, _, _, _, _ => none
 | k + 1, x14, x140000, x140001, x140002 => if x14 = true then (some false) else (spec_l2GoodPat.l0 k x140002 (x140002.length : Int) 0)
def spec_l2GoodPat.l0 : Nat → List (S68) → Int → Int → Option (Bool)
 | 0, _, _, _ => none
 | k + 1, x16, x17, x18 => if x18 < x17 then (if 0 ≤ x18 then (if x18 < (x16.length : Int) then ((spec_l2GoodTerm.f k ((rd_T68 x16 x18).f0) ((rd_T68 x16 x18).f1) ((rd_T68 x16 x18).f2) ((rd_T68 x16 x18).f3.f0) ((rd_T68 x16 x18).f3.f1) ((rd_T68 x16 x18).f3.f2)).bind fun t143 => (if t143 = true then (spec_l2GoodPat.l0 k x16 x17 (wrap64 (x18 + 1))) else (some false))) else (none)) else (none)) else (some true)
end
def spec_l2GoodPat.f (k : Nat) (a0_0 : Bool) (a0_1 : ByteArray) (l0_2 : List (S68)) : Option (Bool) := (spec_l2GoodCls.f k a0_1).bind fun t140 => (if t140 = true then (spec_l2GoodPat.j0 k (decide ((l0_2.length : Int) > 6)) a0_0 a0_1 l0_2) else (spec_l2GoodPat.j0 k true a0_0 a0_1 l0_2))
theorem spec_l2GoodPat.mono_l : ∀ k, (∀ y0 y1 y2 y3, LeO (spec_l2GoodPat.j0 k y0 y1 y2 y3) (spec_l2GoodPat.j0 (k + 1) y0 y1 y2 y3)) ∧ (∀ y0 y1 y2, LeO (spec_l2GoodPat.l0 k y0 y1 y2) (spec_l2GoodPat.l0 (k + 1) y0 y1 y2))
 | 0 => ⟨fun _ _ _ _ r h => by simp [spec_l2GoodPat.j0] at h, fun _ _ _ r h => by simp [spec_l2GoodPat.l0] at h⟩
 | k + 1 => by
  obtain ⟨ih0, ih1⟩ := spec_l2GoodPat.mono_l k; refine ⟨?_, ?_⟩
  ·intro y0 y1 y2 y3; unfold spec_l2GoodPat.j0
   repeat' with_reducible first | apply ih0 | apply ih1 | apply spec_l2GoodCls.mono | apply spec_l2GoodTerm.mono | apply LeO.refl | apply LeO.none | refine LeO.ite ?_ ?_ | refine LeO.bind ?_ (fun _ => ?_)
  ·intro y0 y1 y2; unfold spec_l2GoodPat.l0
   repeat' with_reducible first | apply ih0 | apply ih1 | apply spec_l2GoodCls.mono | apply spec_l2GoodTerm.mono | apply LeO.refl | apply LeO.none | refine LeO.ite ?_ ?_ | refine LeO.bind ?_ (fun _ => ?_)
theorem spec_l2GoodPat.mono : ∀ a0 a1 a2 k, LeO (spec_l2GoodPat.f k a0 a1 a2) (spec_l2GoodPat.f (k + 1) a0 a1 a2) := by
 intro a0 a1 a2 k; obtain ⟨ih0, ih1⟩ := spec_l2GoodPat.mono_l k; unfold spec_l2GoodPat.f
 repeat' with_reducible first | apply ih0 | apply ih1 | apply spec_l2GoodCls.mono | apply spec_l2GoodTerm.mono | apply LeO.refl | apply LeO.none | refine LeO.ite ?_ ?_ | refine LeO.bind ?_ (fun _ => ?_)
set_option maxHeartbeats 8000000 in
set_option maxRecDepth 100000 in
theorem spec_l2GoodPat.calls (k : Nat) (a0_0 : Bool) (a0_1 : ByteArray) (A0_2 : Option Addr) (c0_2 : Nat) (l0_2 : List (S68)) (r : Bool) (w : World) (hr0_2 : Kd.C k68 w A0_2 l0_2.length l0_2) (hc0_2 : l0_2.length ≤ c0_2) (h : spec_l2GoodPat.f k a0_0 a0_1 l0_2 = some r) :
  Calls Try.prog 24 #[.agg #[.bool a0_0, .string a0_1, .slice A0_2 l0_2.length c0_2]] w fun e w' => e = .returned (.bool r) ∧ Below w.heap.size w w' := by
 have hu59 := Try.underlying59; have hu68 := Try.underlying68; have HR0_2 := a_ hr0_2; have HC0_2 := a_ hc0_2; clear hr0_2 hc0_2; have HB := a_ (Below.refl w.heap.size w); have H : ((spec_l2GoodCls.f k a0_1).bind fun t140 => (if t140 = true then (spec_l2GoodPat.j0 k (decide ((l0_2.length : Int) > 6)) a0_0 a0_1 l0_2) else (spec_l2GoodPat.j0 k true a0_0 a0_1 l0_2))) = some r := h
 clear h; have HC2 := a_ H; clear H; go_enter Try.func24, Try.ntmps24; go_upto_region 1 with (first | ((with_reducible refine gate_dst (N := 1) rfl ?_); (try (refine gate_guard (by rfl) ?_; dsimp only)); refine bx_ 1 #[.bool a0_0, .string a0_1, .slice A0_2 l0_2.length c0_2] 59 ?_; intro gb139 hg w3 hbox hb; have BK139 := a_ (hbox); have GE139 := mg_ HB hg; replace HB := ms_ HB hb; clear hb hbox hg)); (try simp only [Act.put, List.setIfInBounds_toArray, List.set_cons_zero, List.set_cons_succ]); go_cut [14] (fun v14 wc => ∃ (kq : Nat) (x14_1 : Bool), v14 = .bool x14_1 ∧ Aside0 (spec_l2GoodPat.j0 kq x14_1 a0_0 a0_1 l0_2 = some r) ∧ Aside0 (kq ≤ k) ∧ Aside0 (wc.heap[gb139]? = some (.cells #[.bool a0_0, .string a0_1, (.slice A0_2 l0_2.length c0_2)] 59 (0, 0))) ∧ Aside0 (Below w.heap.size w wc))
 case first =>
  have H := HC2.out; clear HC2; replace H := Option.bind_eq_some_iff.mp H; obtain ⟨t140, A40, H⟩ := H; have A4 := a_ A40; clear A40; by_cases c5 : t140 = true
  ·subst c5; rw [if_pos rfl] at H; have H' := a_ H; clear H; obtain ⟨z6_0, z6_1, z6_2, zf6_0, zf6_1, zf6_2⟩ := cz3 BK139; go_wp2_with (first | ((with_reducible refine gate_callee (f := 42) rfl ?_); refine goesL_ (some 7) rfl rfl Try.func42 (by kernel_rfl) rfl #[.string a0_1] rfl mw_ ?_; (with_reducible refine (spec_l2GoodCls.calls k a0_1 true _ A4.out).mono ?_); rintro e w' ⟨rfl, ⟨nd, rfl⟩⟩; refine ⟨_, rfl, ?_⟩)); go_meet
   case rel => exact ⟨_, (decide ((l0_2.length : Int) > 6)), mq_, H', ⟨by first | omega | exact Nat.le_refl _⟩, ⟨mc_ BK139⟩, ⟨mb_ HB⟩⟩
  ·replace c5 := Bool.eq_false_iff.mpr c5; subst c5; rw [if_neg (show ¬ (false = true) by decide)] at H; have H' := a_ H; clear H; obtain ⟨z7_0, z7_1, z7_2, zf7_0, zf7_1, zf7_2⟩ := cz3 BK139; go_wp2_with (first | ((with_reducible refine gate_callee (f := 42) rfl ?_); refine goesL_ (some 7) rfl rfl Try.func42 (by kernel_rfl) rfl #[.string a0_1] rfl mw_ ?_; (with_reducible refine (spec_l2GoodCls.calls k a0_1 false _ A4.out).mono ?_); rintro e w' ⟨rfl, ⟨nd, rfl⟩⟩; refine ⟨_, rfl, ?_⟩)); go_meet
   case rel => exact ⟨_, (true), mq_, H', ⟨by first | omega | exact Nat.le_refl _⟩, ⟨mc_ BK139⟩, ⟨mb_ HB⟩⟩
 clear HC2; obtain ⟨kq, x14_1, rfl, HA, HJ1, BK139, HB⟩ := hcut; obtain _ | kj1 := kq
 ·exact absurd HA.out (by simp [spec_l2GoodPat.j0])
 have H := HA.out; clear HA; simp only [spec_l2GoodPat.j0] at H; by_cases c8 : x14_1 = true
 ·subst c8; rw [if_pos rfl] at H; obtain rfl := Option.some.inj H; go_wp2; go_ret; exact ⟨me_, mb_ HB⟩
 ·replace c8 := Bool.eq_false_iff.mpr c8; subst c8; rw [if_neg (show ¬ (false = true) by decide)] at H; have H' := a_ H; clear H; obtain ⟨z9_0, z9_1, z9_2, zf9_0, zf9_1, zf9_2⟩ := cz3 BK139; go_wp2; go_loopg [18] kj1 (fun kq v18 w' => ∃ (x18_2 : Int), v18 = .int .i64 x18_2 ∧ Aside0 (spec_l2GoodPat.l0 kq l0_2 (l0_2.length : Int) x18_2 = some r) ∧ Aside0 (kq ≤ kj1) ∧ Aside0 (w'.heap[gb139]? = some (.cells #[.bool a0_0, .string a0_1, (.slice A0_2 l0_2.length c0_2)] 59 (0, 0))) ∧ Aside0 (Below w.heap.size w w'))
  case atStart => exact ⟨(0), mq_, H', ⟨Nat.le_refl _⟩, ⟨mc_ BK139⟩, ⟨mb_ HB⟩⟩
  clear H'; (try clear c8); (try clear z9_0 z9_1 z9_2 zf9_0 zf9_1 zf9_2); obtain ⟨x18_2, rfl, HA, HK2, BK139, HB⟩ := hrel; obtain _ | k2 := gk
  ·exact absurd HA.out (by simp [spec_l2GoodPat.l0])
  have H := HA.out; clear HA; simp only [spec_l2GoodPat.l0] at H; by_cases c10 : x18_2 < (l0_2.length : Int)
  ·rw [if_pos c10] at H; have c10b0 := decide_eq_true c10; clear c10; by_cases c11 : 0 ≤ x18_2
   case neg => rw [if_neg c11] at H; cases H
   rw [if_pos c11] at H; have c11b0 := decide_eq_true c11; clear c11; by_cases c12 : x18_2 < (l0_2.length : Int)
   case neg => rw [if_neg c12] at H; cases H
   rw [if_pos c12] at H; have c12b0 := decide_eq_true c12; clear c12; replace H := Option.bind_eq_some_iff.mp H; obtain ⟨t143, A130, H⟩ := H; have A13 := a_ A130; clear A130; by_cases c14 : t143 = true
   ·subst c14; rw [if_pos rfl] at H; have H' := a_ H; clear H; have p141 : 0 ≤ (x18_2 : Int) := md_
    have q141 : x18_2 < (l0_2.length : Int) := md_
    obtain ⟨ad141, e141, hx141_0, hx141_1, hx141_2, hx141_3, hx141_4, hx141_5⟩ := at_T68 HR0_2.out x18_2 p141 q141; cases e141; replace hx141_0 := mx_ HB hx141_0; replace hx141_1 := mx_ HB hx141_1; replace hx141_2 := mx_ HB hx141_2; replace hx141_3 := mx_ HB hx141_3; replace hx141_4 := mx_ HB hx141_4; replace hx141_5 := mx_ HB hx141_5; replace p141 := eq_true p141; replace q141 := eq_true q141; go_wp2_with (first | ((with_reducible refine gate_dst (N := 4) rfl ?_); (try (refine gate_guard (by rfl) ?_; dsimp only)); refine bx_ 4 #[.int .i64 0, .int .i64 0, .string (⟨#[]⟩ : ByteArray), .int .i64 0, .int .i64 0, .string (⟨#[]⟩ : ByteArray)] 68 ?_; intro gb142 hg w15 hbox hb; have BK142 := a_ (hbox); have GE142 := mg_ HB hg; have NB139_142 := ml_ BK139 hg; have NB142_139 := mr_ BK139 hg; replace BK139 := mk_ BK139 hb; replace HB := ms_ HB hb; clear hb hbox hg; have hnb16 := NB142_139.out; have hnc16 := NB139_142.out; obtain ⟨z17_0, z17_1, z17_2, z17_3, z17_4, z17_5, zf17_0, zf17_1, zf17_2, zf17_3, zf17_4, zf17_5⟩ := cz6 BK142) | ((with_reducible refine gate_callee (f := 43) rfl ?_); refine goesL_ (some 23) rfl rfl Try.func43 (by kernel_rfl) rfl #[.agg #[.int .i64 ((rd_T68 l0_2 x18_2).f0), .int .i64 ((rd_T68 l0_2 x18_2).f1), .string ((rd_T68 l0_2 x18_2).f2), .int .i64 ((rd_T68 l0_2 x18_2).f3.f0), .int .i64 ((rd_T68 l0_2 x18_2).f3.f1), .string ((rd_T68 l0_2 x18_2).f3.f2)]] rfl mw_ ?_; (with_reducible refine (spec_l2GoodTerm.calls k2 ((rd_T68 l0_2 x18_2).f0) ((rd_T68 l0_2 x18_2).f1) ((rd_T68 l0_2 x18_2).f2) ((rd_T68 l0_2 x18_2).f3.f0) ((rd_T68 l0_2 x18_2).f3.f1) ((rd_T68 l0_2 x18_2).f3.f2) true _ A13.out).mono ?_); rintro e w18 ⟨rfl, hb⟩; refine ⟨_, rfl, ?_⟩; replace BK139 := mk_ BK139 hb; replace BK142 := a_ (blk_below (g := gb142) (o := .cells #[.int .i64 ((rd_T68 l0_2 x18_2).f0), .int .i64 ((rd_T68 l0_2 x18_2).f1), .string ((rd_T68 l0_2 x18_2).f2), .int .i64 ((rd_T68 l0_2 x18_2).f3.f0), .int .i64 ((rd_T68 l0_2 x18_2).f3.f1), .string ((rd_T68 l0_2 x18_2).f3.f2)] 68 (0, 0)) (by (with_reducible repeat (first | refine blk_drewN ?_ _ | refine blk_drew ?_ | refine blk_alloc ?_ _)); refine blk_put (cs := #[.int .i64 ((rd_T68 l0_2 x18_2).f0), .int .i64 ((rd_T68 l0_2 x18_2).f1), .string ((rd_T68 l0_2 x18_2).f2), .int .i64 ((rd_T68 l0_2 x18_2).f3.f0), .int .i64 ((rd_T68 l0_2 x18_2).f3.f1), .string (⟨#[]⟩ : ByteArray)]) ?_ 5 _ rfl; (with_reducible repeat (first | refine blk_drewN ?_ _ | refine blk_drew ?_ | refine blk_alloc ?_ _)); refine blk_put (cs := #[.int .i64 ((rd_T68 l0_2 x18_2).f0), .int .i64 ((rd_T68 l0_2 x18_2).f1), .string ((rd_T68 l0_2 x18_2).f2), .int .i64 ((rd_T68 l0_2 x18_2).f3.f0), .int .i64 0, .string (⟨#[]⟩ : ByteArray)]) ?_ 4 _ rfl; (with_reducible repeat (first | refine blk_drewN ?_ _ | refine blk_drew ?_ | refine blk_alloc ?_ _)); refine blk_put (cs := #[.int .i64 ((rd_T68 l0_2 x18_2).f0), .int .i64 ((rd_T68 l0_2 x18_2).f1), .string ((rd_T68 l0_2 x18_2).f2), .int .i64 0, .int .i64 0, .string (⟨#[]⟩ : ByteArray)]) ?_ 3 _ rfl; (with_reducible repeat (first | refine blk_drewN ?_ _ | refine blk_drew ?_ | refine blk_alloc ?_ _)); refine blk_put (cs := #[.int .i64 ((rd_T68 l0_2 x18_2).f0), .int .i64 ((rd_T68 l0_2 x18_2).f1), .string (⟨#[]⟩ : ByteArray), .int .i64 0, .int .i64 0, .string (⟨#[]⟩ : ByteArray)]) ?_ 2 _ rfl; (with_reducible repeat (first | refine blk_drewN ?_ _ | refine blk_drew ?_ | refine blk_alloc ?_ _)); refine blk_put (cs := #[.int .i64 ((rd_T68 l0_2 x18_2).f0), .int .i64 0, .string (⟨#[]⟩ : ByteArray), .int .i64 0, .int .i64 0, .string (⟨#[]⟩ : ByteArray)]) ?_ 1 _ rfl; (with_reducible repeat (first | refine blk_drewN ?_ _ | refine blk_drew ?_ | refine blk_alloc ?_ _)); refine blk_put (cs := #[.int .i64 0, .int .i64 0, .string (⟨#[]⟩ : ByteArray), .int .i64 0, .int .i64 0, .string (⟨#[]⟩ : ByteArray)]) ?_ 0 _ rfl; (with_reducible repeat (first | refine blk_drewN ?_ _ | refine blk_drew ?_ | refine blk_alloc ?_ _)); exact BK142.out) hb); replace HB := ms_ HB hb; (try clear hb); (try clear hb2); (try clear hk); (try clear hi)))
    go_roundg k2
    case measure => have := HJ1.out; have := HK2.out; omega
    case rel => exact ⟨(wrap64 (x18_2 + 1)), mq_, H', ⟨by have := HJ1.out; have := HK2.out; omega⟩, ⟨mc_ BK139⟩, ⟨mb_ HB⟩⟩
   ·replace c14 := Bool.eq_false_iff.mpr c14; subst c14; rw [if_neg (show ¬ (false = true) by decide)] at H; obtain rfl := Option.some.inj H; have p141 : 0 ≤ (x18_2 : Int) := md_
    have q141 : x18_2 < (l0_2.length : Int) := md_
    obtain ⟨ad141, e141, hx141_0, hx141_1, hx141_2, hx141_3, hx141_4, hx141_5⟩ := at_T68 HR0_2.out x18_2 p141 q141; cases e141; replace hx141_0 := mx_ HB hx141_0; replace hx141_1 := mx_ HB hx141_1; replace hx141_2 := mx_ HB hx141_2; replace hx141_3 := mx_ HB hx141_3; replace hx141_4 := mx_ HB hx141_4; replace hx141_5 := mx_ HB hx141_5; replace p141 := eq_true p141; replace q141 := eq_true q141; go_wp2_with (first | ((with_reducible refine gate_dst (N := 4) rfl ?_); (try (refine gate_guard (by rfl) ?_; dsimp only)); refine bx_ 4 #[.int .i64 0, .int .i64 0, .string (⟨#[]⟩ : ByteArray), .int .i64 0, .int .i64 0, .string (⟨#[]⟩ : ByteArray)] 68 ?_; intro gb142 hg w19 hbox hb; have BK142 := a_ (hbox); have GE142 := mg_ HB hg; have NB139_142 := ml_ BK139 hg; have NB142_139 := mr_ BK139 hg; replace BK139 := mk_ BK139 hb; replace HB := ms_ HB hb; clear hb hbox hg; have hnb20 := NB142_139.out; have hnc20 := NB139_142.out; obtain ⟨z21_0, z21_1, z21_2, z21_3, z21_4, z21_5, zf21_0, zf21_1, zf21_2, zf21_3, zf21_4, zf21_5⟩ := cz6 BK142) | ((with_reducible refine gate_callee (f := 43) rfl ?_); refine goesL_ (some 23) rfl rfl Try.func43 (by kernel_rfl) rfl #[.agg #[.int .i64 ((rd_T68 l0_2 x18_2).f0), .int .i64 ((rd_T68 l0_2 x18_2).f1), .string ((rd_T68 l0_2 x18_2).f2), .int .i64 ((rd_T68 l0_2 x18_2).f3.f0), .int .i64 ((rd_T68 l0_2 x18_2).f3.f1), .string ((rd_T68 l0_2 x18_2).f3.f2)]] rfl mw_ ?_; (with_reducible refine (spec_l2GoodTerm.calls k2 ((rd_T68 l0_2 x18_2).f0) ((rd_T68 l0_2 x18_2).f1) ((rd_T68 l0_2 x18_2).f2) ((rd_T68 l0_2 x18_2).f3.f0) ((rd_T68 l0_2 x18_2).f3.f1) ((rd_T68 l0_2 x18_2).f3.f2) false _ A13.out).mono ?_); rintro e w22 ⟨rfl, hb⟩; refine ⟨_, rfl, ?_⟩; replace BK139 := mk_ BK139 hb; replace BK142 := a_ (blk_below (g := gb142) (o := .cells #[.int .i64 ((rd_T68 l0_2 x18_2).f0), .int .i64 ((rd_T68 l0_2 x18_2).f1), .string ((rd_T68 l0_2 x18_2).f2), .int .i64 ((rd_T68 l0_2 x18_2).f3.f0), .int .i64 ((rd_T68 l0_2 x18_2).f3.f1), .string ((rd_T68 l0_2 x18_2).f3.f2)] 68 (0, 0)) (by (with_reducible repeat (first | refine blk_drewN ?_ _ | refine blk_drew ?_ | refine blk_alloc ?_ _)); refine blk_put (cs := #[.int .i64 ((rd_T68 l0_2 x18_2).f0), .int .i64 ((rd_T68 l0_2 x18_2).f1), .string ((rd_T68 l0_2 x18_2).f2), .int .i64 ((rd_T68 l0_2 x18_2).f3.f0), .int .i64 ((rd_T68 l0_2 x18_2).f3.f1), .string (⟨#[]⟩ : ByteArray)]) ?_ 5 _ rfl; (with_reducible repeat (first | refine blk_drewN ?_ _ | refine blk_drew ?_ | refine blk_alloc ?_ _)); refine blk_put (cs := #[.int .i64 ((rd_T68 l0_2 x18_2).f0), .int .i64 ((rd_T68 l0_2 x18_2).f1), .string ((rd_T68 l0_2 x18_2).f2), .int .i64 ((rd_T68 l0_2 x18_2).f3.f0), .int .i64 0, .string (⟨#[]⟩ : ByteArray)]) ?_ 4 _ rfl; (with_reducible repeat (first | refine blk_drewN ?_ _ | refine blk_drew ?_ | refine blk_alloc ?_ _)); refine blk_put (cs := #[.int .i64 ((rd_T68 l0_2 x18_2).f0), .int .i64 ((rd_T68 l0_2 x18_2).f1), .string ((rd_T68 l0_2 x18_2).f2), .int .i64 0, .int .i64 0, .string (⟨#[]⟩ : ByteArray)]) ?_ 3 _ rfl; (with_reducible repeat (first | refine blk_drewN ?_ _ | refine blk_drew ?_ | refine blk_alloc ?_ _)); refine blk_put (cs := #[.int .i64 ((rd_T68 l0_2 x18_2).f0), .int .i64 ((rd_T68 l0_2 x18_2).f1), .string (⟨#[]⟩ : ByteArray), .int .i64 0, .int .i64 0, .string (⟨#[]⟩ : ByteArray)]) ?_ 2 _ rfl; (with_reducible repeat (first | refine blk_drewN ?_ _ | refine blk_drew ?_ | refine blk_alloc ?_ _)); refine blk_put (cs := #[.int .i64 ((rd_T68 l0_2 x18_2).f0), .int .i64 0, .string (⟨#[]⟩ : ByteArray), .int .i64 0, .int .i64 0, .string (⟨#[]⟩ : ByteArray)]) ?_ 1 _ rfl; (with_reducible repeat (first | refine blk_drewN ?_ _ | refine blk_drew ?_ | refine blk_alloc ?_ _)); refine blk_put (cs := #[.int .i64 0, .int .i64 0, .string (⟨#[]⟩ : ByteArray), .int .i64 0, .int .i64 0, .string (⟨#[]⟩ : ByteArray)]) ?_ 0 _ rfl; (with_reducible repeat (first | refine blk_drewN ?_ _ | refine blk_drew ?_ | refine blk_alloc ?_ _)); exact BK142.out) hb); replace HB := ms_ HB hb; (try clear hb); (try clear hb2); (try clear hk); (try clear hi)))
    go_ret; exact ⟨me_, mb_ HB⟩
  ·rw [if_neg c10] at H; have c10b0 := decide_eq_false c10; clear c10; obtain rfl := Option.some.inj H; go_wp2; go_ret; exact ⟨me_, mb_ HB⟩
end Go.Proofs.Ytejjlkbbnhpbdaa.P
namespace Go.Proofs.Ytejjlkbbnhpbdaa.P
open Go.Proofs.YtejjlkbbnhpbdaaX
open Go.RowKit Go.Proofs.YtejjlkbbnhpbdaaW.PrintWords Go.Proofs.YtejjlkbbnhpbdaaW.PrintLast Go.Proofs.YtejjlkbbnhpbdaaW.PrintMore
attribute [local go_sem] max2_int min2_int max_two min_two max_three min_three max_four min_four
set_option linter.unusedVariables false
set_option linter.unusedSimpArgs false
def spec_l2Is.l0 : Nat → ByteArray → List ByteArray → Int → Int → Option (Bool)
 | 0, _, _, _, _ => none
 | k + 1, x0, x7, x8, x9 => if x9 < x8 then (if 0 ≤ x9 then (if x9 < (x7.length : Int) then (if x0.toList = (rdOf ByteArray.empty x7 x9).toList then (some true) else (spec_l2Is.l0 k x0 x7 x8 (wrap64 (x9 + 1)))) else (none)) else (none)) else (some false)
def spec_l2Is.f (k : Nat) (a0 : ByteArray) (l1 : List ByteArray) : Option (Bool) := spec_l2Is.l0 k a0 l1 (l1.length : Int) 0
theorem spec_l2Is.mono_l : ∀ k, (∀ y0 y1 y2 y3, LeO (spec_l2Is.l0 k y0 y1 y2 y3) (spec_l2Is.l0 (k + 1) y0 y1 y2 y3))
 | 0 => fun _ _ _ _ r h => by simp [spec_l2Is.l0] at h
 | k + 1 => by
  have ih0 := spec_l2Is.mono_l k
  ·intro y0 y1 y2 y3; unfold spec_l2Is.l0
   repeat' with_reducible first | apply ih0 | apply LeO.refl | apply LeO.none | refine LeO.ite ?_ ?_ | refine LeO.bind ?_ (fun _ => ?_)
theorem spec_l2Is.mono : ∀ a0 a1 k, LeO (spec_l2Is.f k a0 a1) (spec_l2Is.f (k + 1) a0 a1) := by
 intro a0 a1 k; have ih0 := spec_l2Is.mono_l k; unfold spec_l2Is.f
 repeat' with_reducible first | apply ih0 | apply LeO.refl | apply LeO.none | refine LeO.ite ?_ ?_ | refine LeO.bind ?_ (fun _ => ?_)
set_option maxHeartbeats 8000000 in
set_option maxRecDepth 100000 in
theorem spec_l2Is.calls (k : Nat) (a0 : ByteArray) (A1 : Option Addr) (c1 : Nat) (l1 : List ByteArray) (r : Bool) (w : World) (hr1 : Kd.C Kd.string w A1 l1.length l1) (hc1 : l1.length ≤ c1) (h : spec_l2Is.f k a0 l1 = some r) :
  Calls Try.prog 27 #[.string a0, .slice A1 l1.length c1] w fun e w' => e = .returned (.bool r) ∧ Drawn0 w w' := by
 have HR1 := a_ hr1; have HC1 := a_ hc1; clear hr1 hc1; have H : (spec_l2Is.l0 k a0 l1 (l1.length : Int) 0) = some r := h
 clear h; have H' := a_ H; clear H; go_enter Try.func27, Try.ntmps27; go_wp2; go_loopg [9] k (fun kq v9 w' => ∃ (x9_1 : Int), v9 = .int .i64 x9_1 ∧ Aside0 (spec_l2Is.l0 kq a0 l1 (l1.length : Int) x9_1 = some r) ∧ Aside0 (kq ≤ k) ∧ Drawn0 w w')
 case atStart => exact ⟨(0), mq_, H', ⟨Nat.le_refl _⟩, by repeat (first | exact Drawn0.refl _ | apply Drawn0.step)⟩
 clear H'; obtain ⟨x9_1, rfl, HA, HK1, ⟨m1, rfl⟩⟩ := hrel; obtain _ | k1 := gk
 ·exact absurd HA.out (by simp [spec_l2Is.l0])
 have H := HA.out; clear HA; simp only [spec_l2Is.l0] at H; by_cases c3 : x9_1 < (l1.length : Int)
 ·rw [if_pos c3] at H; have c3b0 := decide_eq_true c3; clear c3; by_cases c4 : 0 ≤ x9_1
  case neg => rw [if_neg c4] at H; cases H
  rw [if_pos c4] at H; have c4b0 := decide_eq_true c4; clear c4; by_cases c5 : x9_1 < (l1.length : Int)
  case neg => rw [if_neg c5] at H; cases H
  rw [if_pos c5] at H; have c5b0 := decide_eq_true c5; clear c5; by_cases c6 : a0.toList = (rdOf ByteArray.empty l1 x9_1).toList
  ·rw [if_pos c6] at H; have c6b0 := beq_iff_eq.mpr c6; have c6b1 := bne_eq_false_iff_eq.mpr c6; clear c6; obtain rfl := Option.some.inj H; have p144 : 0 ≤ (x9_1 : Int) := md_
   have q144 : x9_1 < (l1.length : Int) := md_
   obtain ⟨ad144, e144, hx144_0⟩ := Kd.at_string HR1.out x9_1 p144 q144; cases e144; replace p144 := eq_true p144; replace q144 := eq_true q144; go_wp2; go_ret; exact ⟨by first | rfl | (simp; done) | (simp [*]; done), by repeat (first | exact Drawn0.refl _ | apply Drawn0.step)⟩
  ·rw [if_neg c6] at H; have c6b0 := beq_eq_false_iff_ne.mpr c6; have c6b1 := bne_iff_ne.mpr c6; have H' := a_ H; clear H; have p144 : 0 ≤ (x9_1 : Int) := md_
   have q144 : x9_1 < (l1.length : Int) := md_
   obtain ⟨ad144, e144, hx144_0⟩ := Kd.at_string HR1.out x9_1 p144 q144; cases e144; replace p144 := eq_true p144; replace q144 := eq_true q144; go_wp2; go_roundg k1
   case measure => have := HK1.out; omega
   case rel => exact ⟨(wrap64 (x9_1 + 1)), mq_, H', ⟨by have := HK1.out; omega⟩, by repeat (first | exact Drawn0.refl _ | apply Drawn0.step)⟩
 ·rw [if_neg c3] at H; have c3b0 := decide_eq_false c3; clear c3; obtain rfl := Option.some.inj H; go_wp2; go_ret; exact ⟨by first | rfl | (simp; done) | (simp [*]; done), by repeat (first | exact Drawn0.refl _ | apply Drawn0.step)⟩
def spec_l2First.l0 : Nat → List (S72) → Int → Option (Int)
 | 0, _, _ => none
 | k + 1, x0, x1 => if 0 ≤ x1 then (if x1 < (x0.length : Int) then (if ((rd_T72 x0 x1).f0) = 2 then (spec_l2First.l0 k x0 ((rd_T72 x0 x1).f4)) else (some x1)) else (none)) else (none)
def spec_l2First.f (k : Nat) (l0 : List (S72)) (a1 : Int) : Option (Int) := spec_l2First.l0 k l0 a1
theorem spec_l2First.mono_l : ∀ k, (∀ y0 y1, LeO (spec_l2First.l0 k y0 y1) (spec_l2First.l0 (k + 1) y0 y1))
 | 0 => fun _ _ r h => by simp [spec_l2First.l0] at h
 | k + 1 => by
  have ih0 := spec_l2First.mono_l k
  ·intro y0 y1; unfold spec_l2First.l0
   repeat' with_reducible first | apply ih0 | apply LeO.refl | apply LeO.none | refine LeO.ite ?_ ?_ | refine LeO.bind ?_ (fun _ => ?_)
theorem spec_l2First.mono : ∀ a0 a1 k, LeO (spec_l2First.f k a0 a1) (spec_l2First.f (k + 1) a0 a1) := by
 intro a0 a1 k; have ih0 := spec_l2First.mono_l k; unfold spec_l2First.f
 repeat' with_reducible first | apply ih0 | apply LeO.refl | apply LeO.none | refine LeO.ite ?_ ?_ | refine LeO.bind ?_ (fun _ => ?_)
set_option maxHeartbeats 8000000 in
set_option maxRecDepth 100000 in
theorem spec_l2First.calls (k : Nat) (A0 : Option Addr) (c0 : Nat) (l0 : List (S72)) (a1 : Int) (r : Int) (w : World) (hr0 : Kd.C k72 w A0 l0.length l0) (hc0 : l0.length ≤ c0) (h : spec_l2First.f k l0 a1 = some r) :
  Calls Try.prog 28 #[.slice A0 l0.length c0, .int .i64 a1] w fun e w' => e = .returned (.int .i64 r) ∧ Drawn0 w w' := by
 have HR0 := a_ hr0; have HC0 := a_ hc0; clear hr0 hc0; have H : (spec_l2First.l0 k l0 a1) = some r := h
 clear h; have H' := a_ H; clear H; go_enter Try.func28, Try.ntmps28; go_wp2; go_loopg [1] k (fun kq v1 w' => ∃ (x1_1 : Int), v1 = .int .i64 x1_1 ∧ Aside0 (spec_l2First.l0 kq l0 x1_1 = some r) ∧ Aside0 (kq ≤ k) ∧ Drawn0 w w')
 case atStart => exact ⟨(a1), mq_, H', ⟨Nat.le_refl _⟩, by repeat (first | exact Drawn0.refl _ | apply Drawn0.step)⟩
 clear H'; obtain ⟨x1_1, rfl, HA, HK1, ⟨m1, rfl⟩⟩ := hrel; obtain _ | k1 := gk
 ·exact absurd HA.out (by simp [spec_l2First.l0])
 have H := HA.out; clear HA; simp only [spec_l2First.l0] at H; by_cases c3 : 0 ≤ x1_1
 case neg => rw [if_neg c3] at H; cases H
 rw [if_pos c3] at H; have c3b0 := decide_eq_true c3; clear c3; by_cases c4 : x1_1 < (l0.length : Int)
 case neg => rw [if_neg c4] at H; cases H
 rw [if_pos c4] at H; have c4b0 := decide_eq_true c4; clear c4; by_cases c5 : ((rd_T72 l0 x1_1).f0) = 2
 ·rw [if_pos c5] at H; have c5b0 := beq_iff_eq.mpr c5; have c5b1 := bne_eq_false_iff_eq.mpr c5; clear c5; have H' := a_ H; clear H; have p145 : 0 ≤ (x1_1 : Int) := md_
  have q145 : x1_1 < (l0.length : Int) := md_
  obtain ⟨ad145, e145, hx145_0, hx145_1, hx145_2, hx145_3, hx145_4, hx145_5, hx145_6, hx145_7⟩ := at_T72 HR0.out x1_1 p145 q145; cases e145; replace p145 := eq_true p145; replace q145 := eq_true q145; have p146 : 0 ≤ (x1_1 : Int) := md_
  have q146 : x1_1 < (l0.length : Int) := md_
  obtain ⟨ad146, e146, hx146_0, hx146_1, hx146_2, hx146_3, hx146_4, hx146_5, hx146_6, hx146_7⟩ := at_T72 HR0.out x1_1 p146 q146; obtain rfl : ad145 = ad146 := (by injection e146); replace p146 := eq_true p146; replace q146 := eq_true q146; go_wp2; go_roundg k1
  case measure => have := HK1.out; omega
  case rel => exact ⟨((rd_T72 l0 x1_1).f4), mq_, H', ⟨by have := HK1.out; omega⟩, by repeat (first | exact Drawn0.refl _ | apply Drawn0.step)⟩
 ·rw [if_neg c5] at H; have c5b0 := beq_eq_false_iff_ne.mpr c5; have c5b1 := bne_iff_ne.mpr c5; obtain rfl := Option.some.inj H; have p145 : 0 ≤ (x1_1 : Int) := md_
  have q145 : x1_1 < (l0.length : Int) := md_
  obtain ⟨ad145, e145, hx145_0, hx145_1, hx145_2, hx145_3, hx145_4, hx145_5, hx145_6, hx145_7⟩ := at_T72 HR0.out x1_1 p145 q145; cases e145; replace p145 := eq_true p145; replace q145 := eq_true q145; go_wp2; go_ret; exact ⟨by first | rfl | (simp; done) | (simp [*]; done), by repeat (first | exact Drawn0.refl _ | apply Drawn0.step)⟩
def spec_l2Ariths.f  : Option (List ByteArray) := some (([(⟨#[43]⟩ : ByteArray), (⟨#[45]⟩ : ByteArray), (⟨#[42]⟩ : ByteArray), (⟨#[47]⟩ : ByteArray), (⟨#[37]⟩ : ByteArray)] : List ByteArray))
set_option maxHeartbeats 8000000 in
set_option maxRecDepth 100000 in
theorem spec_l2Ariths.calls  (r : List ByteArray) (w : World) (h : spec_l2Ariths.f  = some r) :
  Calls Try.prog 46 #[] w fun e w' => ∃ v0_ : Value, e = .returned (v0_) ∧ Kd.R Kd.string 9 w' w.heap.size (fun _ => True) v0_ r ∧ Below w.heap.size w w' := by
 have HB := a_ (Below.refl w.heap.size w); have H : (some (([(⟨#[43]⟩ : ByteArray), (⟨#[45]⟩ : ByteArray), (⟨#[42]⟩ : ByteArray), (⟨#[47]⟩ : ByteArray), (⟨#[37]⟩ : ByteArray)] : List ByteArray))) = some r := h
 clear h; obtain ⟨y147, hy147⟩ : ∃ y_ : List ByteArray, y_ = (([(⟨#[43]⟩ : ByteArray), (⟨#[45]⟩ : ByteArray), (⟨#[42]⟩ : ByteArray), (⟨#[47]⟩ : ByteArray), (⟨#[37]⟩ : ByteArray)] : List ByteArray)) := ⟨_, rfl⟩; rw [← hy147] at H; have Ny147 := a_ hy147; clear hy147; obtain rfl := Option.some.inj H; go_enter Try.func46, Try.ntmps46; go_wp2_with (first | ((with_reducible refine gate_dst (N := 1) rfl ?_); refine Kd.R_lit Kd.string _ 9 ?hg (N := 1) ?hd (xs := ([(⟨#[43]⟩ : ByteArray), (⟨#[45]⟩ : ByteArray), (⟨#[42]⟩ : ByteArray), (⟨#[47]⟩ : ByteArray), (⟨#[37]⟩ : ByteArray)] : List ByteArray)) (inner := [.string (⟨#[43]⟩ : ByteArray), .string (⟨#[45]⟩ : ByteArray), .string (⟨#[42]⟩ : ByteArray), .string (⟨#[47]⟩ : ByteArray), .string (⟨#[37]⟩ : ByteArray)]) (ok := fun _ => True) (okp := fun _ => True) ?hr ?hp (fun _ hk => hk) trivial (Below.refl _ _) (Nat.le_refl _) (by simp) ?_; (case hd => rfl); (case hg => rfl); (case hr => first | (go_simp; done) | (go_simp; rfl)); (case hp => exact (Reps.one (show Kd.M Kd.string _ _ _ (⟨#[43]⟩ : ByteArray) [.string (⟨#[43]⟩ : ByteArray)] from rfl) (Reps.one (show Kd.M Kd.string _ _ _ (⟨#[45]⟩ : ByteArray) [.string (⟨#[45]⟩ : ByteArray)] from rfl) (Reps.one (show Kd.M Kd.string _ _ _ (⟨#[42]⟩ : ByteArray) [.string (⟨#[42]⟩ : ByteArray)] from rfl) (Reps.one (show Kd.M Kd.string _ _ _ (⟨#[47]⟩ : ByteArray) [.string (⟨#[47]⟩ : ByteArray)] from rfl) (Reps.one (show Kd.M Kd.string _ _ _ (⟨#[37]⟩ : ByteArray) [.string (⟨#[37]⟩ : ByteArray)] from rfl) (Reps.none _ _))))))); intro v148 w1 ho2 hb hg_ hnew_; clear hg_ hnew_; (first | rw [← Ny147.out] at ho2 | (simp only [Int.reduceToNat] at ho2; rw [← Ny147.out] at ho2)); have HO149 := a_ (Kd.R_lower ho2 (below_size (mb_ HB))); replace HB := ms_ HB hb; clear hb ho2)); go_ret; exact ⟨_, me_, mo_ HO149.out, mb_ HB⟩
def spec_l2Depth.f : Nat → List (S72) → Int → Option (Int)
 | 0, _, _ => none
 | k + 1, l0, a1 => if 0 ≤ a1 then (if a1 < (l0.length : Int) then (if ((rd_T72 l0 a1).f0) = 2 then ((spec_l2Depth.f k l0 ((rd_T72 l0 a1).f4)).bind fun t152 => ((spec_l2Depth.f k l0 ((rd_T72 l0 a1).f5)).bind fun t154 => (if t152 < t154 then (some (wrap64 (t154 + 1))) else (some (wrap64 (t152 + 1)))))) else (some 0)) else (none)) else (none)
theorem spec_l2Depth.mono_l : ∀ k, (∀ y0 y1, LeO (spec_l2Depth.f k y0 y1) (spec_l2Depth.f (k + 1) y0 y1))
 | 0 => fun _ _ r h => by simp [spec_l2Depth.f] at h
 | k + 1 => by
  have ih0 := spec_l2Depth.mono_l k
  ·intro y0 y1; unfold spec_l2Depth.f
   repeat' with_reducible first | apply ih0 | apply LeO.refl | apply LeO.none | refine LeO.ite ?_ ?_ | refine LeO.bind ?_ (fun _ => ?_)
theorem spec_l2Depth.mono : ∀ a0 a1 k, LeO (spec_l2Depth.f k a0 a1) (spec_l2Depth.f (k + 1) a0 a1) := by
 intro a0 a1 k; have ih0 := spec_l2Depth.mono_l k; exact ih0 a0 a1
set_option maxHeartbeats 8000000 in
set_option maxRecDepth 100000 in
theorem spec_l2Depth.calls (k : Nat) : ∀ (A0 : Option Addr) (c0 : Nat) (l0 : List (S72)) (a1 : Int) (r : Int) (w : World) (hr0 : Kd.C k72 w A0 l0.length l0) (hc0 : l0.length ≤ c0) (h : spec_l2Depth.f k l0 a1 = some r),
  Calls Try.prog 47 #[.slice A0 l0.length c0, .int .i64 a1] w fun e w' => e = .returned (.int .i64 r) ∧ Drawn0 w w' := by
 induction k using Nat.strongRecOn with
 | _ k ih =>
 intro A0 c0 l0 a1 r w hr0 hc0 h; cases k with
 | zero => exact absurd h (by simp [spec_l2Depth.f])
 | succ k =>
 simp only [spec_l2Depth.f] at h; have HR0 := a_ hr0; have HC0 := a_ hc0; clear hr0 hc0; have H : (if 0 ≤ a1 then (if a1 < (l0.length : Int) then (if ((rd_T72 l0 a1).f0) = 2 then ((spec_l2Depth.f k l0 ((rd_T72 l0 a1).f4)).bind fun t152 => ((spec_l2Depth.f k l0 ((rd_T72 l0 a1).f5)).bind fun t154 => (if t152 < t154 then (some (wrap64 (t154 + 1))) else (some (wrap64 (t152 + 1)))))) else (some 0)) else (none)) else (none)) = some r := h
 clear h; by_cases c3 : 0 ≤ a1
 case neg => rw [if_neg c3] at H; cases H
 rw [if_pos c3] at H; have c3b0 := decide_eq_true c3; clear c3; by_cases c4 : a1 < (l0.length : Int)
 case neg => rw [if_neg c4] at H; cases H
 rw [if_pos c4] at H; have c4b0 := decide_eq_true c4; clear c4; by_cases c5 : ((rd_T72 l0 a1).f0) = 2
 ·rw [if_pos c5] at H; have c5b0 := beq_iff_eq.mpr c5; have c5b1 := bne_eq_false_iff_eq.mpr c5; clear c5; replace H := Option.bind_eq_some_iff.mp H; obtain ⟨t152, A60, H⟩ := H; have A6 := a_ A60; clear A60; replace H := Option.bind_eq_some_iff.mp H; obtain ⟨t154, A70, H⟩ := H; have A7 := a_ A70; clear A70; by_cases c8 : t152 < t154
  ·rw [if_pos c8] at H; have c8b0 := decide_eq_true c8; clear c8; obtain rfl := Option.some.inj H; have p150 : 0 ≤ (a1 : Int) := md_
   have q150 : a1 < (l0.length : Int) := md_
   obtain ⟨ad150, e150, hx150_0, hx150_1, hx150_2, hx150_3, hx150_4, hx150_5, hx150_6, hx150_7⟩ := at_T72 HR0.out a1 p150 q150; cases e150; replace p150 := eq_true p150; replace q150 := eq_true q150; have p151 : 0 ≤ (a1 : Int) := md_
   have q151 : a1 < (l0.length : Int) := md_
   obtain ⟨ad151, e151, hx151_0, hx151_1, hx151_2, hx151_3, hx151_4, hx151_5, hx151_6, hx151_7⟩ := at_T72 HR0.out a1 p151 q151; obtain rfl : ad150 = ad151 := (by injection e151); replace p151 := eq_true p151; replace q151 := eq_true q151; go_enter Try.func47, Try.ntmps47; go_wp2_with (first | ((with_reducible refine gate_callee (f := 47) rfl ?_); refine goesL_ (some 19) rfl rfl Try.func47 (by kernel_rfl) rfl #[.slice (some ad150) l0.length c0, .int .i64 ((rd_T72 l0 a1).f4)] rfl mw_ ?_; (with_reducible refine (ih k (by omega) _ _ l0 ((rd_T72 l0 a1).f4) t152 _ ?side1 ?side2 A6.out).mono ?_); (case side1 => repeat (first | exact HR0.out | (with_reducible refine Kd.C_alloc ?_ _) | (with_reducible refine Kd.C_drewN ?_ _) | (with_reducible refine Kd.C_drew ?_))); (case side2 => exact HC0.out); rintro e w' ⟨rfl, ⟨nd, rfl⟩⟩; refine ⟨_, rfl, ?_⟩; have p153 : 0 ≤ (a1 : Int) := md_; have q153 : a1 < (l0.length : Int) := md_; obtain ⟨ad153, e153, hx153_0, hx153_1, hx153_2, hx153_3, hx153_4, hx153_5, hx153_6, hx153_7⟩ := at_T72 HR0.out a1 p153 q153; obtain rfl : ad150 = ad153 := (by injection e153); replace p153 := eq_true p153; replace q153 := eq_true q153) | ((with_reducible refine gate_callee (f := 47) rfl ?_); refine goesL_ (some 26) rfl rfl Try.func47 (by kernel_rfl) rfl #[.slice (some ad150) l0.length c0, .int .i64 ((rd_T72 l0 a1).f5)] rfl mw_ ?_; (with_reducible refine (ih k (by omega) _ _ l0 ((rd_T72 l0 a1).f5) t154 _ ?side1 ?side2 A7.out).mono ?_); (case side1 => repeat (first | exact HR0.out | (with_reducible refine Kd.C_alloc ?_ _) | (with_reducible refine Kd.C_drewN ?_ _) | (with_reducible refine Kd.C_drew ?_))); (case side2 => exact HC0.out); rintro e w' ⟨rfl, ⟨nd, rfl⟩⟩; refine ⟨_, rfl, ?_⟩)); go_ret; exact ⟨by first | rfl | (simp; done) | (simp [*]; done), by repeat (first | exact Drawn0.refl _ | apply Drawn0.step)⟩
  ·rw [if_neg c8] at H; have c8b0 := decide_eq_false c8; clear c8; obtain rfl := Option.some.inj H; have p150 : 0 ≤ (a1 : Int) := md_
   have q150 : a1 < (l0.length : Int) := md_
   obtain ⟨ad150, e150, hx150_0, hx150_1, hx150_2, hx150_3, hx150_4, hx150_5, hx150_6, hx150_7⟩ := at_T72 HR0.out a1 p150 q150; cases e150; replace p150 := eq_true p150; replace q150 := eq_true q150; have p151 : 0 ≤ (a1 : Int) := md_
   have q151 : a1 < (l0.length : Int) := md_
   obtain ⟨ad151, e151, hx151_0, hx151_1, hx151_2, hx151_3, hx151_4, hx151_5, hx151_6, hx151_7⟩ := at_T72 HR0.out a1 p151 q151; obtain rfl : ad150 = ad151 := (by injection e151); replace p151 := eq_true p151; replace q151 := eq_true q151; go_enter Try.func47, Try.ntmps47; go_wp2_with (first | ((with_reducible refine gate_callee (f := 47) rfl ?_); refine goesL_ (some 19) rfl rfl Try.func47 (by kernel_rfl) rfl #[.slice (some ad150) l0.length c0, .int .i64 ((rd_T72 l0 a1).f4)] rfl mw_ ?_; (with_reducible refine (ih k (by omega) _ _ l0 ((rd_T72 l0 a1).f4) t152 _ ?side1 ?side2 A6.out).mono ?_); (case side1 => repeat (first | exact HR0.out | (with_reducible refine Kd.C_alloc ?_ _) | (with_reducible refine Kd.C_drewN ?_ _) | (with_reducible refine Kd.C_drew ?_))); (case side2 => exact HC0.out); rintro e w' ⟨rfl, ⟨nd, rfl⟩⟩; refine ⟨_, rfl, ?_⟩; have p153 : 0 ≤ (a1 : Int) := md_; have q153 : a1 < (l0.length : Int) := md_; obtain ⟨ad153, e153, hx153_0, hx153_1, hx153_2, hx153_3, hx153_4, hx153_5, hx153_6, hx153_7⟩ := at_T72 HR0.out a1 p153 q153; obtain rfl : ad150 = ad153 := (by injection e153); replace p153 := eq_true p153; replace q153 := eq_true q153) | ((with_reducible refine gate_callee (f := 47) rfl ?_); refine goesL_ (some 26) rfl rfl Try.func47 (by kernel_rfl) rfl #[.slice (some ad150) l0.length c0, .int .i64 ((rd_T72 l0 a1).f5)] rfl mw_ ?_; (with_reducible refine (ih k (by omega) _ _ l0 ((rd_T72 l0 a1).f5) t154 _ ?side1 ?side2 A7.out).mono ?_); (case side1 => repeat (first | exact HR0.out | (with_reducible refine Kd.C_alloc ?_ _) | (with_reducible refine Kd.C_drewN ?_ _) | (with_reducible refine Kd.C_drew ?_))); (case side2 => exact HC0.out); rintro e w' ⟨rfl, ⟨nd, rfl⟩⟩; refine ⟨_, rfl, ?_⟩)); go_ret; exact ⟨by first | rfl | (simp; done) | (simp [*]; done), by repeat (first | exact Drawn0.refl _ | apply Drawn0.step)⟩
 ·rw [if_neg c5] at H; have c5b0 := beq_eq_false_iff_ne.mpr c5; have c5b1 := bne_iff_ne.mpr c5; obtain rfl := Option.some.inj H; have p150 : 0 ≤ (a1 : Int) := md_
  have q150 : a1 < (l0.length : Int) := md_
  obtain ⟨ad150, e150, hx150_0, hx150_1, hx150_2, hx150_3, hx150_4, hx150_5, hx150_6, hx150_7⟩ := at_T72 HR0.out a1 p150 q150; cases e150; replace p150 := eq_true p150; replace q150 := eq_true q150; go_enter Try.func47, Try.ntmps47; go_wp2; go_ret; exact ⟨by first | rfl | (simp; done) | (simp [*]; done), by repeat (first | exact Drawn0.refl _ | apply Drawn0.step)⟩
end Go.Proofs.Ytejjlkbbnhpbdaa.P
