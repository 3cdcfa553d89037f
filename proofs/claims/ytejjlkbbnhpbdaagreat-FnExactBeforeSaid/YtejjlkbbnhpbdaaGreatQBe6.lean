/- The row of the law FnExactBefore: for every input the call returns true, and each argument reads behind it as it read before; no condition of ours. -/
import Derived.Test.YtejjlkbbnhpbdaaGreatProg
import Derived.Below
import Derived.Deep.Draws
import Derived.Deep.AppendLies
import Derived.Maps.AppendAt
import Derived.OwnWalk
import Derived.Laws.BytesArg
import Derived.Laws.MakeOwn
import Derived.Laws.OwnMore
import Derived.Deep.OwnRows
import Derived.Tactics
import Derived.Lib.ConvBytes
import Derived.Laws.Slices
import Derived.WalkKit
import Derived.KernelRfl
import Derived.RowKit3
import Derived.Deep.LoopGhost
import Derived.Deep.QuietTactic
import Derived.BigQuiet
import Derived.WideLaws
import Derived.Deep.DeepCutAuto
import Derived.Deep.CutBlock
import Derived.Deep.RegionHeld3
import Derived.Laws.Rows
import Derived.Lib.AppendStr
import Derived.ArgAppend
import Derived.Laws.IdiomCopy
import Derived.OrdersHeld
import Derived.Laws.BitsLemmas
import Derived.RowKit
import Derived.Shelf.Abstract
import Derived.Test.YtejjlkbbnhpbdaaGreatQBe5
namespace Go.Proofs.YtejjlkbbnhpbdaaGreat.P
open Go.Proofs.YtejjlkbbnhpbdaaGreatX
open Go.RowKit Go.Proofs.YtejjlkbbnhpbdaaGreatW.PrintWords Go.Proofs.YtejjlkbbnhpbdaaGreatW.PrintLast Go.Proofs.YtejjlkbbnhpbdaaGreatW.PrintMore
attribute [local go_sem] max2_int min2_int max_two min_two max_three min_three max_four min_four
set_option linter.unusedVariables false
set_option linter.unusedSimpArgs false
def errW : Option Int → Value
 | none => .nilIface
 | some c => .iface 0 (.int .i64 c)
theorem errW_none : errW none = .nilIface := rfl
theorem errW_some (c : Int) : errW (some c) = .iface 0 (.int .i64 c) := rfl
theorem info3 : (Tryz.prog.info? 3).map (fun i => (i.zero, i.size, i.bytes)) = some (some (.int .i64 0), 1, 8) := by kernel_rfl
theorem info9 : (Tryz.prog.info? 9).map (fun i => (i.zero, i.size, i.bytes)) = some (some (.string ⟨#[]⟩), 1, 16) := by kernel_rfl
theorem info58 : (Tryz.prog.info? 58).map (fun i => (i.zero, i.size, i.bytes)) = some (some (.agg #[(.string ⟨#[]⟩), (.int .i64 0), (.slice none 0 0), (.slice none 0 0), (.slice none 0 0)]), 5, 96) := by kernel_rfl
theorem info101 : (Tryz.prog.info? 101).map (fun i => (i.zero, i.size, i.bytes)) = some (some (.agg #[(.bool false), (.string ⟨#[]⟩), (.slice none 0 0)]), 3, 48) := by kernel_rfl
theorem info106 : (Tryz.prog.info? 106).map (fun i => (i.zero, i.size, i.bytes)) = some (some (.agg #[(.int .i64 0), (.int .u8 0), (.string ⟨#[]⟩), (.int .i64 0), (.int .i64 0), (.string ⟨#[]⟩), (.int .i64 0), (.int .i64 0)]), 8, 80) := by kernel_rfl
theorem info108 : (Tryz.prog.info? 108).map (fun i => (i.zero, i.size, i.bytes)) = some (some (.agg #[(.int .i64 0), (.int .i64 0), (.string ⟨#[]⟩), (.slice none 0 0)]), 4, 56) := by kernel_rfl
theorem info134 : (Tryz.prog.info? 134).map (fun i => (i.zero, i.size, i.bytes)) = some (some (.agg #[(.int .i64 0), (.int .i64 0), (.string ⟨#[]⟩), (.int .i64 0), (.int .i64 0), (.string ⟨#[]⟩)]), 6, 64) := by kernel_rfl
structure S114 where
 f0 : Int
 f1 : Int
 f2 : ByteArray
def z114 : S114 := ⟨(0 : Int), (0 : Int), (⟨#[]⟩ : ByteArray)⟩
def k114 : Kd S114 := Kd.iso (Kd.pair (Kd.int .i64) (Kd.pair (Kd.int .i64) Kd.string)) (fun x : S114 => (x.f0, x.f1, x.f2))
theorem k114_open {w : World} {x : S114} {cs : List Value} (h : k114.K w x cs) : cs = [.int .i64 x.f0, .int .i64 x.f1, .string x.f2] := by
 obtain ⟨_, _, rfl, rfl, ⟨_, _, rfl, rfl, rfl⟩⟩ := h; exact rfl
structure S160 where
 f0 : Int
 f1 : Int
 f2 : ByteArray
 f3 : S114
def z160 : S160 := ⟨(0 : Int), (0 : Int), (⟨#[]⟩ : ByteArray), z114⟩
def k160 : Kd S160 := Kd.iso (Kd.pair (Kd.int .i64) (Kd.pair (Kd.int .i64) (Kd.pair Kd.string k114))) (fun x : S160 => (x.f0, x.f1, x.f2, x.f3))
theorem k160_open {w : World} {x : S160} {cs : List Value} (h : k160.K w x cs) : cs = [.int .i64 x.f0, .int .i64 x.f1, .string x.f2, .int .i64 x.f3.f0, .int .i64 x.f3.f1, .string x.f3.f2] := by
 obtain ⟨_, _, rfl, rfl, ⟨_, _, rfl, rfl, ⟨_, _, rfl, rfl, s3⟩⟩⟩ := h; obtain rfl := k114_open s3; exact rfl
def rd_T160 (xs : List S160) (i : Int) : S160 := xs.getD i.toNat z160
theorem at_T160 {w : World} {A : Option Addr} {n : Nat} {xs : List S160} (h : Kd.C k160 w A n xs) (i : Int) (h0 : 0 ≤ i) (h1 : i < n) : ∃ ad , A = some ad ∧ w.cell? (ad.add (i.toNat * 6)) = some (.int .i64 (rd_T160 xs i).f0) ∧ w.cell? ⟨(ad.add (i.toNat * 6)).block, (ad.add (i.toNat * 6)).off + 1, none⟩ = some (.int .i64 (rd_T160 xs i).f1) ∧ w.cell? ⟨(ad.add (i.toNat * 6)).block, (ad.add (i.toNat * 6)).off + 2, none⟩ = some (.string (rd_T160 xs i).f2) ∧ w.cell? ⟨(ad.add (i.toNat * 6)).block, (ad.add (i.toNat * 6)).off + 3, none⟩ = some (.int .i64 (rd_T160 xs i).f3.f0) ∧ w.cell? ⟨(ad.add (i.toNat * 6)).block, (ad.add (i.toNat * 6)).off + 4, none⟩ = some (.int .i64 (rd_T160 xs i).f3.f1) ∧ w.cell? ⟨(ad.add (i.toNat * 6)).block, (ad.add (i.toNat * 6)).off + 5, none⟩ = some (.string (rd_T160 xs i).f3.f2) := by
 obtain ⟨ad, c, e, _, hK, hc0⟩ := Kd.C_get h z160 i h0 h1; have hc : ∀ j u, c[j]? = some u → w.cell? (ad.add (i.toNat * 6 + j)) = some u := hc0
 obtain rfl := k160_open hK; exact ⟨ad, e, hc 0 _ rfl, by rw [← add_field _ _ 1 (by omega)]; exact hc 1 _ rfl, by rw [← add_field _ _ 2 (by omega)]; exact hc 2 _ rfl, by rw [← add_field _ _ 3 (by omega)]; exact hc 3 _ rfl, by rw [← add_field _ _ 4 (by omega)]; exact hc 4 _ rfl, by rw [← add_field _ _ 5 (by omega)]; exact hc 5 _ rfl⟩
structure S112 where
 f0 : Bool
 f1 : ByteArray
 f2 : (List S160)
def z112 : S112 := ⟨false, (⟨#[]⟩ : ByteArray), ([] : List S160)⟩
def k112 : Kd S112 := Kd.iso (Kd.pair Kd.bool (Kd.pair Kd.string (Kd.slice 160 k160))) (fun x : S112 => (x.f0, x.f1, x.f2))
theorem k112_open {w : World} {x : S112} {cs : List Value} (h : k112.K w x cs) : ∃ A2 c2, cs = [.bool x.f0, .string x.f1, .slice A2 x.f2.length c2] ∧ x.f2.length ≤ c2 ∧ k160.C w A2 x.f2.length x.f2 := by
 obtain ⟨_, _, rfl, rfl, ⟨_, _, rfl, rfl, ⟨A2, c2, rfl, l2, g2⟩⟩⟩ := h; exact ⟨A2, c2, rfl, l2, g2⟩
def rd_T112 (xs : List S112) (i : Int) : S112 := xs.getD i.toNat z112
theorem at_T112 {w : World} {A : Option Addr} {n : Nat} {xs : List S112} (h : Kd.C k112 w A n xs) (i : Int) (h0 : 0 ≤ i) (h1 : i < n) : ∃ ad A2 c2, A = some ad ∧ w.cell? (ad.add (i.toNat * 3)) = some (.bool (rd_T112 xs i).f0) ∧ w.cell? ⟨(ad.add (i.toNat * 3)).block, (ad.add (i.toNat * 3)).off + 1, none⟩ = some (.string (rd_T112 xs i).f1) ∧ w.cell? ⟨(ad.add (i.toNat * 3)).block, (ad.add (i.toNat * 3)).off + 2, none⟩ = some (.slice A2 (rd_T112 xs i).f2.length c2) ∧ (rd_T112 xs i).f2.length ≤ c2 ∧ k160.C w A2 (rd_T112 xs i).f2.length (rd_T112 xs i).f2 := by
 obtain ⟨ad, c, e, _, hK, hc0⟩ := Kd.C_get h z112 i h0 h1; have hc : ∀ j u, c[j]? = some u → w.cell? (ad.add (i.toNat * 3 + j)) = some u := hc0
 obtain ⟨A2, c2, rfl, l2, g2⟩ := k112_open hK; exact ⟨ad, A2, c2, e, hc 0 _ rfl, by rw [← add_field _ _ 1 (by omega)]; exact hc 1 _ rfl, by rw [← add_field _ _ 2 (by omega)]; exact hc 2 _ rfl, l2, g2⟩
structure S116 where
 f0 : Int
 f1 : Int
 f2 : ByteArray
 f3 : S114
 f4 : Int
 f5 : Int
def z116 : S116 := ⟨(0 : Int), (0 : Int), (⟨#[]⟩ : ByteArray), z114, (0 : Int), (0 : Int)⟩
def k116 : Kd S116 := Kd.iso (Kd.pair (Kd.int .i64) (Kd.pair (Kd.int .u8) (Kd.pair Kd.string (Kd.pair k114 (Kd.pair (Kd.int .i64) (Kd.int .i64)))))) (fun x : S116 => (x.f0, x.f1, x.f2, x.f3, x.f4, x.f5))
theorem k116_open {w : World} {x : S116} {cs : List Value} (h : k116.K w x cs) : cs = [.int .i64 x.f0, .int .u8 x.f1, .string x.f2, .int .i64 x.f3.f0, .int .i64 x.f3.f1, .string x.f3.f2, .int .i64 x.f4, .int .i64 x.f5] := by
 obtain ⟨_, _, rfl, rfl, ⟨_, _, rfl, rfl, ⟨_, _, rfl, rfl, ⟨_, _, rfl, s3, ⟨_, _, rfl, rfl, rfl⟩⟩⟩⟩⟩ := h; obtain rfl := k114_open s3; exact rfl
def rd_T116 (xs : List S116) (i : Int) : S116 := xs.getD i.toNat z116
theorem at_T116 {w : World} {A : Option Addr} {n : Nat} {xs : List S116} (h : Kd.C k116 w A n xs) (i : Int) (h0 : 0 ≤ i) (h1 : i < n) : ∃ ad , A = some ad ∧ w.cell? (ad.add (i.toNat * 8)) = some (.int .i64 (rd_T116 xs i).f0) ∧ w.cell? ⟨(ad.add (i.toNat * 8)).block, (ad.add (i.toNat * 8)).off + 1, none⟩ = some (.int .u8 (rd_T116 xs i).f1) ∧ w.cell? ⟨(ad.add (i.toNat * 8)).block, (ad.add (i.toNat * 8)).off + 2, none⟩ = some (.string (rd_T116 xs i).f2) ∧ w.cell? ⟨(ad.add (i.toNat * 8)).block, (ad.add (i.toNat * 8)).off + 3, none⟩ = some (.int .i64 (rd_T116 xs i).f3.f0) ∧ w.cell? ⟨(ad.add (i.toNat * 8)).block, (ad.add (i.toNat * 8)).off + 4, none⟩ = some (.int .i64 (rd_T116 xs i).f3.f1) ∧ w.cell? ⟨(ad.add (i.toNat * 8)).block, (ad.add (i.toNat * 8)).off + 5, none⟩ = some (.string (rd_T116 xs i).f3.f2) ∧ w.cell? ⟨(ad.add (i.toNat * 8)).block, (ad.add (i.toNat * 8)).off + 6, none⟩ = some (.int .i64 (rd_T116 xs i).f4) ∧ w.cell? ⟨(ad.add (i.toNat * 8)).block, (ad.add (i.toNat * 8)).off + 7, none⟩ = some (.int .i64 (rd_T116 xs i).f5) := by
 obtain ⟨ad, c, e, _, hK, hc0⟩ := Kd.C_get h z116 i h0 h1; have hc : ∀ j u, c[j]? = some u → w.cell? (ad.add (i.toNat * 8 + j)) = some u := hc0
 obtain rfl := k116_open hK; exact ⟨ad, e, hc 0 _ rfl, by rw [← add_field _ _ 1 (by omega)]; exact hc 1 _ rfl, by rw [← add_field _ _ 2 (by omega)]; exact hc 2 _ rfl, by rw [← add_field _ _ 3 (by omega)]; exact hc 3 _ rfl, by rw [← add_field _ _ 4 (by omega)]; exact hc 4 _ rfl, by rw [← add_field _ _ 5 (by omega)]; exact hc 5 _ rfl, by rw [← add_field _ _ 6 (by omega)]; exact hc 6 _ rfl, by rw [← add_field _ _ 7 (by omega)]; exact hc 7 _ rfl⟩
structure S118 where
 f0 : Int
 f1 : Int
 f2 : ByteArray
 f3 : (List Int)
def z118 : S118 := ⟨(0 : Int), (0 : Int), (⟨#[]⟩ : ByteArray), ([] : List Int)⟩
def k118 : Kd S118 := Kd.iso (Kd.pair (Kd.int .i64) (Kd.pair (Kd.int .i64) (Kd.pair Kd.string (Kd.slice 3 (Kd.int .i64))))) (fun x : S118 => (x.f0, x.f1, x.f2, x.f3))
theorem k118_open {w : World} {x : S118} {cs : List Value} (h : k118.K w x cs) : ∃ A3 c3, cs = [.int .i64 x.f0, .int .i64 x.f1, .string x.f2, .slice A3 x.f3.length c3] ∧ x.f3.length ≤ c3 ∧ (Kd.int .i64).C w A3 x.f3.length x.f3 := by
 obtain ⟨_, _, rfl, rfl, ⟨_, _, rfl, rfl, ⟨_, _, rfl, rfl, ⟨A3, c3, rfl, l3, g3⟩⟩⟩⟩ := h; exact ⟨A3, c3, rfl, l3, g3⟩
def rd_T118 (xs : List S118) (i : Int) : S118 := xs.getD i.toNat z118
theorem at_T118 {w : World} {A : Option Addr} {n : Nat} {xs : List S118} (h : Kd.C k118 w A n xs) (i : Int) (h0 : 0 ≤ i) (h1 : i < n) : ∃ ad A3 c3, A = some ad ∧ w.cell? (ad.add (i.toNat * 4)) = some (.int .i64 (rd_T118 xs i).f0) ∧ w.cell? ⟨(ad.add (i.toNat * 4)).block, (ad.add (i.toNat * 4)).off + 1, none⟩ = some (.int .i64 (rd_T118 xs i).f1) ∧ w.cell? ⟨(ad.add (i.toNat * 4)).block, (ad.add (i.toNat * 4)).off + 2, none⟩ = some (.string (rd_T118 xs i).f2) ∧ w.cell? ⟨(ad.add (i.toNat * 4)).block, (ad.add (i.toNat * 4)).off + 3, none⟩ = some (.slice A3 (rd_T118 xs i).f3.length c3) ∧ (rd_T118 xs i).f3.length ≤ c3 ∧ (Kd.int .i64).C w A3 (rd_T118 xs i).f3.length (rd_T118 xs i).f3 := by
 obtain ⟨ad, c, e, _, hK, hc0⟩ := Kd.C_get h z118 i h0 h1; have hc : ∀ j u, c[j]? = some u → w.cell? (ad.add (i.toNat * 4 + j)) = some u := hc0
 obtain ⟨A3, c3, rfl, l3, g3⟩ := k118_open hK; exact ⟨ad, A3, c3, e, hc 0 _ rfl, by rw [← add_field _ _ 1 (by omega)]; exact hc 1 _ rfl, by rw [← add_field _ _ 2 (by omega)]; exact hc 2 _ rfl, by rw [← add_field _ _ 3 (by omega)]; exact hc 3 _ rfl, l3, g3⟩
structure S50 where
 f0 : ByteArray
 f1 : Int
 f2 : (List S112)
 f3 : (List S116)
 f4 : (List S118)
def z50 : S50 := ⟨(⟨#[]⟩ : ByteArray), (0 : Int), ([] : List S112), ([] : List S116), ([] : List S118)⟩
def k50 : Kd S50 := Kd.iso (Kd.pair Kd.string (Kd.pair (Kd.int .i64) (Kd.pair (Kd.slice 112 k112) (Kd.pair (Kd.slice 116 k116) (Kd.slice 118 k118))))) (fun x : S50 => (x.f0, x.f1, x.f2, x.f3, x.f4))
theorem k50_open {w : World} {x : S50} {cs : List Value} (h : k50.K w x cs) : ∃ A2 c2 A3 c3 A4 c4, cs = [.string x.f0, .int .i64 x.f1, .slice A2 x.f2.length c2, .slice A3 x.f3.length c3, .slice A4 x.f4.length c4] ∧ x.f2.length ≤ c2 ∧ k112.C w A2 x.f2.length x.f2 ∧ x.f3.length ≤ c3 ∧ k116.C w A3 x.f3.length x.f3 ∧ x.f4.length ≤ c4 ∧ k118.C w A4 x.f4.length x.f4 := by
 obtain ⟨_, _, rfl, rfl, ⟨_, _, rfl, rfl, ⟨_, _, rfl, ⟨A2, c2, rfl, l2, g2⟩, ⟨_, _, rfl, ⟨A3, c3, rfl, l3, g3⟩, ⟨A4, c4, rfl, l4, g4⟩⟩⟩⟩⟩ := h; exact ⟨A2, c2, A3, c3, A4, c4, rfl, l2, g2, l3, g3, l4, g4⟩
def rd_T50 (xs : List S50) (i : Int) : S50 := xs.getD i.toNat z50
theorem at_T50 {w : World} {A : Option Addr} {n : Nat} {xs : List S50} (h : Kd.C k50 w A n xs) (i : Int) (h0 : 0 ≤ i) (h1 : i < n) : ∃ ad A2 c2 A3 c3 A4 c4, A = some ad ∧ w.cell? (ad.add (i.toNat * 5)) = some (.string (rd_T50 xs i).f0) ∧ w.cell? ⟨(ad.add (i.toNat * 5)).block, (ad.add (i.toNat * 5)).off + 1, none⟩ = some (.int .i64 (rd_T50 xs i).f1) ∧ w.cell? ⟨(ad.add (i.toNat * 5)).block, (ad.add (i.toNat * 5)).off + 2, none⟩ = some (.slice A2 (rd_T50 xs i).f2.length c2) ∧ w.cell? ⟨(ad.add (i.toNat * 5)).block, (ad.add (i.toNat * 5)).off + 3, none⟩ = some (.slice A3 (rd_T50 xs i).f3.length c3) ∧ w.cell? ⟨(ad.add (i.toNat * 5)).block, (ad.add (i.toNat * 5)).off + 4, none⟩ = some (.slice A4 (rd_T50 xs i).f4.length c4) ∧ (rd_T50 xs i).f2.length ≤ c2 ∧ k112.C w A2 (rd_T50 xs i).f2.length (rd_T50 xs i).f2 ∧ (rd_T50 xs i).f3.length ≤ c3 ∧ k116.C w A3 (rd_T50 xs i).f3.length (rd_T50 xs i).f3 ∧ (rd_T50 xs i).f4.length ≤ c4 ∧ k118.C w A4 (rd_T50 xs i).f4.length (rd_T50 xs i).f4 := by
 obtain ⟨ad, c, e, _, hK, hc0⟩ := Kd.C_get h z50 i h0 h1; have hc : ∀ j u, c[j]? = some u → w.cell? (ad.add (i.toNat * 5 + j)) = some u := hc0
 obtain ⟨A2, c2, A3, c3, A4, c4, rfl, l2, g2, l3, g3, l4, g4⟩ := k50_open hK; exact ⟨ad, A2, c2, A3, c3, A4, c4, e, hc 0 _ rfl, by rw [← add_field _ _ 1 (by omega)]; exact hc 1 _ rfl, by rw [← add_field _ _ 2 (by omega)]; exact hc 2 _ rfl, by rw [← add_field _ _ 3 (by omega)]; exact hc 3 _ rfl, by rw [← add_field _ _ 4 (by omega)]; exact hc 4 _ rfl, l2, g2, l3, g3, l4, g4⟩
structure S104 where
 f0 : Int
 f1 : Int
 f2 : ByteArray
def z104 : S104 := ⟨(0 : Int), (0 : Int), (⟨#[]⟩ : ByteArray)⟩
def k104 : Kd S104 := Kd.iso (Kd.pair (Kd.int .i64) (Kd.pair (Kd.int .i64) Kd.string)) (fun x : S104 => (x.f0, x.f1, x.f2))
theorem k104_open {w : World} {x : S104} {cs : List Value} (h : k104.K w x cs) : cs = [.int .i64 x.f0, .int .i64 x.f1, .string x.f2] := by
 obtain ⟨_, _, rfl, rfl, ⟨_, _, rfl, rfl, rfl⟩⟩ := h; exact rfl
theorem k104_openM {w : World} {base : Nat} {ok : Nat → Prop} {x : S104} {cs : List Value} (h : k104.M w base ok x cs) : cs = [.int .i64 x.f0, .int .i64 x.f1, .string x.f2] := by
 obtain ⟨_, _, rfl, rfl, ⟨_, _, rfl, rfl, rfl⟩⟩ := h; exact rfl
theorem k104_mkM (w : World) (base : Nat) (ok : Nat → Prop) (x : S104)  : k104.M w base ok x [.int .i64 x.f0, .int .i64 x.f1, .string x.f2] := ⟨[.int .i64 x.f0], [.int .i64 x.f1, .string x.f2], rfl, rfl, ⟨[.int .i64 x.f1], [.string x.f2], rfl, rfl, rfl⟩⟩
structure S134 where
 f0 : Int
 f1 : Int
 f2 : ByteArray
 f3 : S104
def z134 : S134 := ⟨(0 : Int), (0 : Int), (⟨#[]⟩ : ByteArray), z104⟩
def k134 : Kd S134 := Kd.iso (Kd.pair (Kd.int .i64) (Kd.pair (Kd.int .i64) (Kd.pair Kd.string k104))) (fun x : S134 => (x.f0, x.f1, x.f2, x.f3))
theorem k134_open {w : World} {x : S134} {cs : List Value} (h : k134.K w x cs) : cs = [.int .i64 x.f0, .int .i64 x.f1, .string x.f2, .int .i64 x.f3.f0, .int .i64 x.f3.f1, .string x.f3.f2] := by
 obtain ⟨_, _, rfl, rfl, ⟨_, _, rfl, rfl, ⟨_, _, rfl, rfl, s3⟩⟩⟩ := h; obtain rfl := k104_open s3; exact rfl
theorem k134_openM {w : World} {base : Nat} {ok : Nat → Prop} {x : S134} {cs : List Value} (h : k134.M w base ok x cs) : cs = [.int .i64 x.f0, .int .i64 x.f1, .string x.f2, .int .i64 x.f3.f0, .int .i64 x.f3.f1, .string x.f3.f2] := by
 obtain ⟨_, _, rfl, rfl, ⟨_, _, rfl, rfl, ⟨_, _, rfl, rfl, s3⟩⟩⟩ := h; obtain rfl := k104_openM s3; exact rfl
theorem k134_mkM (w : World) (base : Nat) (ok : Nat → Prop) (x : S134)  : k134.M w base ok x [.int .i64 x.f0, .int .i64 x.f1, .string x.f2, .int .i64 x.f3.f0, .int .i64 x.f3.f1, .string x.f3.f2] := ⟨[.int .i64 x.f0], [.int .i64 x.f1, .string x.f2, .int .i64 x.f3.f0, .int .i64 x.f3.f1, .string x.f3.f2], rfl, rfl, ⟨[.int .i64 x.f1], [.string x.f2, .int .i64 x.f3.f0, .int .i64 x.f3.f1, .string x.f3.f2], rfl, rfl, ⟨[.string x.f2], [.int .i64 x.f3.f0, .int .i64 x.f3.f1, .string x.f3.f2], rfl, rfl, (k104_mkM w base ok x.f3 )⟩⟩⟩
def rd_T134 (xs : List S134) (i : Int) : S134 := xs.getD i.toNat z134
theorem at_T134 {w : World} {A : Option Addr} {n : Nat} {xs : List S134} (h : Kd.C k134 w A n xs) (i : Int) (h0 : 0 ≤ i) (h1 : i < n) : ∃ ad , A = some ad ∧ w.cell? (ad.add (i.toNat * 6)) = some (.int .i64 (rd_T134 xs i).f0) ∧ w.cell? ⟨(ad.add (i.toNat * 6)).block, (ad.add (i.toNat * 6)).off + 1, none⟩ = some (.int .i64 (rd_T134 xs i).f1) ∧ w.cell? ⟨(ad.add (i.toNat * 6)).block, (ad.add (i.toNat * 6)).off + 2, none⟩ = some (.string (rd_T134 xs i).f2) ∧ w.cell? ⟨(ad.add (i.toNat * 6)).block, (ad.add (i.toNat * 6)).off + 3, none⟩ = some (.int .i64 (rd_T134 xs i).f3.f0) ∧ w.cell? ⟨(ad.add (i.toNat * 6)).block, (ad.add (i.toNat * 6)).off + 4, none⟩ = some (.int .i64 (rd_T134 xs i).f3.f1) ∧ w.cell? ⟨(ad.add (i.toNat * 6)).block, (ad.add (i.toNat * 6)).off + 5, none⟩ = some (.string (rd_T134 xs i).f3.f2) := by
 obtain ⟨ad, c, e, _, hK, hc0⟩ := Kd.C_get h z134 i h0 h1; have hc : ∀ j u, c[j]? = some u → w.cell? (ad.add (i.toNat * 6 + j)) = some u := hc0
 obtain rfl := k134_open hK; exact ⟨ad, e, hc 0 _ rfl, by rw [← add_field _ _ 1 (by omega)]; exact hc 1 _ rfl, by rw [← add_field _ _ 2 (by omega)]; exact hc 2 _ rfl, by rw [← add_field _ _ 3 (by omega)]; exact hc 3 _ rfl, by rw [← add_field _ _ 4 (by omega)]; exact hc 4 _ rfl, by rw [← add_field _ _ 5 (by omega)]; exact hc 5 _ rfl⟩
structure S101 where
 f0 : Bool
 f1 : ByteArray
 f2 : (List S134)
def z101 : S101 := ⟨false, (⟨#[]⟩ : ByteArray), ([] : List S134)⟩
def k101 : Kd S101 := Kd.iso (Kd.pair Kd.bool (Kd.pair Kd.string (Kd.slice 134 k134))) (fun x : S101 => (x.f0, x.f1, x.f2))
theorem k101_open {w : World} {x : S101} {cs : List Value} (h : k101.K w x cs) : ∃ A2 c2, cs = [.bool x.f0, .string x.f1, .slice A2 x.f2.length c2] ∧ x.f2.length ≤ c2 ∧ k134.C w A2 x.f2.length x.f2 := by
 obtain ⟨_, _, rfl, rfl, ⟨_, _, rfl, rfl, ⟨A2, c2, rfl, l2, g2⟩⟩⟩ := h; exact ⟨A2, c2, rfl, l2, g2⟩
theorem k101_openM {w : World} {base : Nat} {ok : Nat → Prop} {x : S101} {cs : List Value} (h : k101.M w base ok x cs) : ∃ v2, cs = [.bool x.f0, .string x.f1, v2] ∧ k134.R 134 w base ok v2 x.f2 := by
 obtain ⟨_, _, rfl, rfl, ⟨_, _, rfl, rfl, ⟨v2, rfl, g2⟩⟩⟩ := h; exact ⟨v2, rfl, g2⟩
theorem k101_mkM (w : World) (base : Nat) (ok : Nat → Prop) (x : S101) {v2 : Value} (g2 : k134.R 134 w base ok v2 x.f2) : k101.M w base ok x [.bool x.f0, .string x.f1, v2] := ⟨[.bool x.f0], [.string x.f1, v2], rfl, rfl, ⟨[.string x.f1], [v2], rfl, rfl, ⟨v2, rfl, g2⟩⟩⟩
def rd_T101 (xs : List S101) (i : Int) : S101 := xs.getD i.toNat z101
theorem at_T101 {w : World} {A : Option Addr} {n : Nat} {xs : List S101} (h : Kd.C k101 w A n xs) (i : Int) (h0 : 0 ≤ i) (h1 : i < n) : ∃ ad A2 c2, A = some ad ∧ w.cell? (ad.add (i.toNat * 3)) = some (.bool (rd_T101 xs i).f0) ∧ w.cell? ⟨(ad.add (i.toNat * 3)).block, (ad.add (i.toNat * 3)).off + 1, none⟩ = some (.string (rd_T101 xs i).f1) ∧ w.cell? ⟨(ad.add (i.toNat * 3)).block, (ad.add (i.toNat * 3)).off + 2, none⟩ = some (.slice A2 (rd_T101 xs i).f2.length c2) ∧ (rd_T101 xs i).f2.length ≤ c2 ∧ k134.C w A2 (rd_T101 xs i).f2.length (rd_T101 xs i).f2 := by
 obtain ⟨ad, c, e, _, hK, hc0⟩ := Kd.C_get h z101 i h0 h1; have hc : ∀ j u, c[j]? = some u → w.cell? (ad.add (i.toNat * 3 + j)) = some u := hc0
 obtain ⟨A2, c2, rfl, l2, g2⟩ := k101_open hK; exact ⟨ad, A2, c2, e, hc 0 _ rfl, by rw [← add_field _ _ 1 (by omega)]; exact hc 1 _ rfl, by rw [← add_field _ _ 2 (by omega)]; exact hc 2 _ rfl, l2, g2⟩
structure S106 where
 f0 : Int
 f1 : Int
 f2 : ByteArray
 f3 : S104
 f4 : Int
 f5 : Int
def z106 : S106 := ⟨(0 : Int), (0 : Int), (⟨#[]⟩ : ByteArray), z104, (0 : Int), (0 : Int)⟩
def k106 : Kd S106 := Kd.iso (Kd.pair (Kd.int .i64) (Kd.pair (Kd.int .u8) (Kd.pair Kd.string (Kd.pair k104 (Kd.pair (Kd.int .i64) (Kd.int .i64)))))) (fun x : S106 => (x.f0, x.f1, x.f2, x.f3, x.f4, x.f5))
theorem k106_open {w : World} {x : S106} {cs : List Value} (h : k106.K w x cs) : cs = [.int .i64 x.f0, .int .u8 x.f1, .string x.f2, .int .i64 x.f3.f0, .int .i64 x.f3.f1, .string x.f3.f2, .int .i64 x.f4, .int .i64 x.f5] := by
 obtain ⟨_, _, rfl, rfl, ⟨_, _, rfl, rfl, ⟨_, _, rfl, rfl, ⟨_, _, rfl, s3, ⟨_, _, rfl, rfl, rfl⟩⟩⟩⟩⟩ := h; obtain rfl := k104_open s3; exact rfl
theorem k106_openM {w : World} {base : Nat} {ok : Nat → Prop} {x : S106} {cs : List Value} (h : k106.M w base ok x cs) : cs = [.int .i64 x.f0, .int .u8 x.f1, .string x.f2, .int .i64 x.f3.f0, .int .i64 x.f3.f1, .string x.f3.f2, .int .i64 x.f4, .int .i64 x.f5] := by
 obtain ⟨_, _, rfl, rfl, ⟨_, _, rfl, rfl, ⟨_, _, rfl, rfl, ⟨_, _, rfl, s3, ⟨_, _, rfl, rfl, rfl⟩⟩⟩⟩⟩ := h; obtain rfl := k104_openM s3; exact rfl
theorem k106_mkM (w : World) (base : Nat) (ok : Nat → Prop) (x : S106)  : k106.M w base ok x [.int .i64 x.f0, .int .u8 x.f1, .string x.f2, .int .i64 x.f3.f0, .int .i64 x.f3.f1, .string x.f3.f2, .int .i64 x.f4, .int .i64 x.f5] := ⟨[.int .i64 x.f0], [.int .u8 x.f1, .string x.f2, .int .i64 x.f3.f0, .int .i64 x.f3.f1, .string x.f3.f2, .int .i64 x.f4, .int .i64 x.f5], rfl, rfl, ⟨[.int .u8 x.f1], [.string x.f2, .int .i64 x.f3.f0, .int .i64 x.f3.f1, .string x.f3.f2, .int .i64 x.f4, .int .i64 x.f5], rfl, rfl, ⟨[.string x.f2], [.int .i64 x.f3.f0, .int .i64 x.f3.f1, .string x.f3.f2, .int .i64 x.f4, .int .i64 x.f5], rfl, rfl, ⟨[.int .i64 x.f3.f0, .int .i64 x.f3.f1, .string x.f3.f2], [.int .i64 x.f4, .int .i64 x.f5], rfl, (k104_mkM w base ok x.f3 ), ⟨[.int .i64 x.f4], [.int .i64 x.f5], rfl, rfl, rfl⟩⟩⟩⟩⟩
def rd_T106 (xs : List S106) (i : Int) : S106 := xs.getD i.toNat z106
theorem at_T106 {w : World} {A : Option Addr} {n : Nat} {xs : List S106} (h : Kd.C k106 w A n xs) (i : Int) (h0 : 0 ≤ i) (h1 : i < n) : ∃ ad , A = some ad ∧ w.cell? (ad.add (i.toNat * 8)) = some (.int .i64 (rd_T106 xs i).f0) ∧ w.cell? ⟨(ad.add (i.toNat * 8)).block, (ad.add (i.toNat * 8)).off + 1, none⟩ = some (.int .u8 (rd_T106 xs i).f1) ∧ w.cell? ⟨(ad.add (i.toNat * 8)).block, (ad.add (i.toNat * 8)).off + 2, none⟩ = some (.string (rd_T106 xs i).f2) ∧ w.cell? ⟨(ad.add (i.toNat * 8)).block, (ad.add (i.toNat * 8)).off + 3, none⟩ = some (.int .i64 (rd_T106 xs i).f3.f0) ∧ w.cell? ⟨(ad.add (i.toNat * 8)).block, (ad.add (i.toNat * 8)).off + 4, none⟩ = some (.int .i64 (rd_T106 xs i).f3.f1) ∧ w.cell? ⟨(ad.add (i.toNat * 8)).block, (ad.add (i.toNat * 8)).off + 5, none⟩ = some (.string (rd_T106 xs i).f3.f2) ∧ w.cell? ⟨(ad.add (i.toNat * 8)).block, (ad.add (i.toNat * 8)).off + 6, none⟩ = some (.int .i64 (rd_T106 xs i).f4) ∧ w.cell? ⟨(ad.add (i.toNat * 8)).block, (ad.add (i.toNat * 8)).off + 7, none⟩ = some (.int .i64 (rd_T106 xs i).f5) := by
 obtain ⟨ad, c, e, _, hK, hc0⟩ := Kd.C_get h z106 i h0 h1; have hc : ∀ j u, c[j]? = some u → w.cell? (ad.add (i.toNat * 8 + j)) = some u := hc0
 obtain rfl := k106_open hK; exact ⟨ad, e, hc 0 _ rfl, by rw [← add_field _ _ 1 (by omega)]; exact hc 1 _ rfl, by rw [← add_field _ _ 2 (by omega)]; exact hc 2 _ rfl, by rw [← add_field _ _ 3 (by omega)]; exact hc 3 _ rfl, by rw [← add_field _ _ 4 (by omega)]; exact hc 4 _ rfl, by rw [← add_field _ _ 5 (by omega)]; exact hc 5 _ rfl, by rw [← add_field _ _ 6 (by omega)]; exact hc 6 _ rfl, by rw [← add_field _ _ 7 (by omega)]; exact hc 7 _ rfl⟩
structure S108 where
 f0 : Int
 f1 : Int
 f2 : ByteArray
 f3 : (List Int)
def z108 : S108 := ⟨(0 : Int), (0 : Int), (⟨#[]⟩ : ByteArray), ([] : List Int)⟩
def k108 : Kd S108 := Kd.iso (Kd.pair (Kd.int .i64) (Kd.pair (Kd.int .i64) (Kd.pair Kd.string (Kd.slice 3 (Kd.int .i64))))) (fun x : S108 => (x.f0, x.f1, x.f2, x.f3))
theorem k108_open {w : World} {x : S108} {cs : List Value} (h : k108.K w x cs) : ∃ A3 c3, cs = [.int .i64 x.f0, .int .i64 x.f1, .string x.f2, .slice A3 x.f3.length c3] ∧ x.f3.length ≤ c3 ∧ (Kd.int .i64).C w A3 x.f3.length x.f3 := by
 obtain ⟨_, _, rfl, rfl, ⟨_, _, rfl, rfl, ⟨_, _, rfl, rfl, ⟨A3, c3, rfl, l3, g3⟩⟩⟩⟩ := h; exact ⟨A3, c3, rfl, l3, g3⟩
theorem k108_openM {w : World} {base : Nat} {ok : Nat → Prop} {x : S108} {cs : List Value} (h : k108.M w base ok x cs) : ∃ v3, cs = [.int .i64 x.f0, .int .i64 x.f1, .string x.f2, v3] ∧ (Kd.int .i64).R 3 w base ok v3 x.f3 := by
 obtain ⟨_, _, rfl, rfl, ⟨_, _, rfl, rfl, ⟨_, _, rfl, rfl, ⟨v3, rfl, g3⟩⟩⟩⟩ := h; exact ⟨v3, rfl, g3⟩
theorem k108_mkM (w : World) (base : Nat) (ok : Nat → Prop) (x : S108) {v3 : Value} (g3 : (Kd.int .i64).R 3 w base ok v3 x.f3) : k108.M w base ok x [.int .i64 x.f0, .int .i64 x.f1, .string x.f2, v3] := ⟨[.int .i64 x.f0], [.int .i64 x.f1, .string x.f2, v3], rfl, rfl, ⟨[.int .i64 x.f1], [.string x.f2, v3], rfl, rfl, ⟨[.string x.f2], [v3], rfl, rfl, ⟨v3, rfl, g3⟩⟩⟩⟩
def rd_T108 (xs : List S108) (i : Int) : S108 := xs.getD i.toNat z108
theorem at_T108 {w : World} {A : Option Addr} {n : Nat} {xs : List S108} (h : Kd.C k108 w A n xs) (i : Int) (h0 : 0 ≤ i) (h1 : i < n) : ∃ ad A3 c3, A = some ad ∧ w.cell? (ad.add (i.toNat * 4)) = some (.int .i64 (rd_T108 xs i).f0) ∧ w.cell? ⟨(ad.add (i.toNat * 4)).block, (ad.add (i.toNat * 4)).off + 1, none⟩ = some (.int .i64 (rd_T108 xs i).f1) ∧ w.cell? ⟨(ad.add (i.toNat * 4)).block, (ad.add (i.toNat * 4)).off + 2, none⟩ = some (.string (rd_T108 xs i).f2) ∧ w.cell? ⟨(ad.add (i.toNat * 4)).block, (ad.add (i.toNat * 4)).off + 3, none⟩ = some (.slice A3 (rd_T108 xs i).f3.length c3) ∧ (rd_T108 xs i).f3.length ≤ c3 ∧ (Kd.int .i64).C w A3 (rd_T108 xs i).f3.length (rd_T108 xs i).f3 := by
 obtain ⟨ad, c, e, _, hK, hc0⟩ := Kd.C_get h z108 i h0 h1; have hc : ∀ j u, c[j]? = some u → w.cell? (ad.add (i.toNat * 4 + j)) = some u := hc0
 obtain ⟨A3, c3, rfl, l3, g3⟩ := k108_open hK; exact ⟨ad, A3, c3, e, hc 0 _ rfl, by rw [← add_field _ _ 1 (by omega)]; exact hc 1 _ rfl, by rw [← add_field _ _ 2 (by omega)]; exact hc 2 _ rfl, by rw [← add_field _ _ 3 (by omega)]; exact hc 3 _ rfl, l3, g3⟩
structure S58 where
 f0 : ByteArray
 f1 : Int
 f2 : (List S101)
 f3 : (List S106)
 f4 : (List S108)
def z58 : S58 := ⟨(⟨#[]⟩ : ByteArray), (0 : Int), ([] : List S101), ([] : List S106), ([] : List S108)⟩
def k58 : Kd S58 := Kd.iso (Kd.pair Kd.string (Kd.pair (Kd.int .i64) (Kd.pair (Kd.slice 101 k101) (Kd.pair (Kd.slice 106 k106) (Kd.slice 108 k108))))) (fun x : S58 => (x.f0, x.f1, x.f2, x.f3, x.f4))
theorem k58_open {w : World} {x : S58} {cs : List Value} (h : k58.K w x cs) : ∃ A2 c2 A3 c3 A4 c4, cs = [.string x.f0, .int .i64 x.f1, .slice A2 x.f2.length c2, .slice A3 x.f3.length c3, .slice A4 x.f4.length c4] ∧ x.f2.length ≤ c2 ∧ k101.C w A2 x.f2.length x.f2 ∧ x.f3.length ≤ c3 ∧ k106.C w A3 x.f3.length x.f3 ∧ x.f4.length ≤ c4 ∧ k108.C w A4 x.f4.length x.f4 := by
 obtain ⟨_, _, rfl, rfl, ⟨_, _, rfl, rfl, ⟨_, _, rfl, ⟨A2, c2, rfl, l2, g2⟩, ⟨_, _, rfl, ⟨A3, c3, rfl, l3, g3⟩, ⟨A4, c4, rfl, l4, g4⟩⟩⟩⟩⟩ := h; exact ⟨A2, c2, A3, c3, A4, c4, rfl, l2, g2, l3, g3, l4, g4⟩
theorem k58_openM {w : World} {base : Nat} {ok : Nat → Prop} {x : S58} {cs : List Value} (h : k58.M w base ok x cs) : ∃ v2 v3 v4, cs = [.string x.f0, .int .i64 x.f1, v2, v3, v4] ∧ k101.R 101 w base ok v2 x.f2 ∧ k106.R 106 w base ok v3 x.f3 ∧ k108.R 108 w base ok v4 x.f4 := by
 obtain ⟨_, _, rfl, rfl, ⟨_, _, rfl, rfl, ⟨_, _, rfl, ⟨v2, rfl, g2⟩, ⟨_, _, rfl, ⟨v3, rfl, g3⟩, ⟨v4, rfl, g4⟩⟩⟩⟩⟩ := h; exact ⟨v2, v3, v4, rfl, g2, g3, g4⟩
theorem k58_mkM (w : World) (base : Nat) (ok : Nat → Prop) (x : S58) {v2 : Value} (g2 : k101.R 101 w base ok v2 x.f2) {v3 : Value} (g3 : k106.R 106 w base ok v3 x.f3) {v4 : Value} (g4 : k108.R 108 w base ok v4 x.f4) : k58.M w base ok x [.string x.f0, .int .i64 x.f1, v2, v3, v4] := ⟨[.string x.f0], [.int .i64 x.f1, v2, v3, v4], rfl, rfl, ⟨[.int .i64 x.f1], [v2, v3, v4], rfl, rfl, ⟨[v2], [v3, v4], rfl, ⟨v2, rfl, g2⟩, ⟨[v3], [v4], rfl, ⟨v3, rfl, g3⟩, ⟨v4, rfl, g4⟩⟩⟩⟩⟩
def rd_T58 (xs : List S58) (i : Int) : S58 := xs.getD i.toNat z58
theorem at_T58 {w : World} {A : Option Addr} {n : Nat} {xs : List S58} (h : Kd.C k58 w A n xs) (i : Int) (h0 : 0 ≤ i) (h1 : i < n) : ∃ ad A2 c2 A3 c3 A4 c4, A = some ad ∧ w.cell? (ad.add (i.toNat * 5)) = some (.string (rd_T58 xs i).f0) ∧ w.cell? ⟨(ad.add (i.toNat * 5)).block, (ad.add (i.toNat * 5)).off + 1, none⟩ = some (.int .i64 (rd_T58 xs i).f1) ∧ w.cell? ⟨(ad.add (i.toNat * 5)).block, (ad.add (i.toNat * 5)).off + 2, none⟩ = some (.slice A2 (rd_T58 xs i).f2.length c2) ∧ w.cell? ⟨(ad.add (i.toNat * 5)).block, (ad.add (i.toNat * 5)).off + 3, none⟩ = some (.slice A3 (rd_T58 xs i).f3.length c3) ∧ w.cell? ⟨(ad.add (i.toNat * 5)).block, (ad.add (i.toNat * 5)).off + 4, none⟩ = some (.slice A4 (rd_T58 xs i).f4.length c4) ∧ (rd_T58 xs i).f2.length ≤ c2 ∧ k101.C w A2 (rd_T58 xs i).f2.length (rd_T58 xs i).f2 ∧ (rd_T58 xs i).f3.length ≤ c3 ∧ k106.C w A3 (rd_T58 xs i).f3.length (rd_T58 xs i).f3 ∧ (rd_T58 xs i).f4.length ≤ c4 ∧ k108.C w A4 (rd_T58 xs i).f4.length (rd_T58 xs i).f4 := by
 obtain ⟨ad, c, e, _, hK, hc0⟩ := Kd.C_get h z58 i h0 h1; have hc : ∀ j u, c[j]? = some u → w.cell? (ad.add (i.toNat * 5 + j)) = some u := hc0
 obtain ⟨A2, c2, A3, c3, A4, c4, rfl, l2, g2, l3, g3, l4, g4⟩ := k58_open hK; exact ⟨ad, A2, c2, A3, c3, A4, c4, e, hc 0 _ rfl, by rw [← add_field _ _ 1 (by omega)]; exact hc 1 _ rfl, by rw [← add_field _ _ 2 (by omega)]; exact hc 2 _ rfl, by rw [← add_field _ _ 3 (by omega)]; exact hc 3 _ rfl, by rw [← add_field _ _ 4 (by omega)]; exact hc 4 _ rfl, l2, g2, l3, g3, l4, g4⟩
structure S25 where
 f0 : Int
 f1 : (List Int)
def k25 : Kd S25 := Kd.iso (Kd.pair (Kd.int .i64) (Kd.slice 3 (Kd.int .i64))) (fun x : S25 => (x.f0, x.f1))
theorem k25_open {w : World} {x : S25} {cs : List Value} (h : k25.K w x cs) : ∃ A1 c1, cs = [.int .i64 x.f0, .slice A1 x.f1.length c1] ∧ x.f1.length ≤ c1 ∧ (Kd.int .i64).C w A1 x.f1.length x.f1 := by
 obtain ⟨_, _, rfl, rfl, ⟨A1, c1, rfl, l1, g1⟩⟩ := h; exact ⟨A1, c1, rfl, l1, g1⟩
structure S31 where
 f0 : Int
 f1 : (List Int)
end Go.Proofs.YtejjlkbbnhpbdaaGreat.P
namespace Go.Proofs.YtejjlkbbnhpbdaaGreat.P
open Go.Proofs.YtejjlkbbnhpbdaaGreatX
open Go.RowKit Go.Proofs.YtejjlkbbnhpbdaaGreatW.PrintWords Go.Proofs.YtejjlkbbnhpbdaaGreatW.PrintLast Go.Proofs.YtejjlkbbnhpbdaaGreatW.PrintMore
attribute [local go_sem] max2_int min2_int max_two min_two max_three min_three max_four min_four
set_option linter.unusedVariables false
set_option linter.unusedSimpArgs false
def laws_szValue.f (a0_0 : Int) (a0_1 : Int) (a0_2 : ByteArray) (a1 : Int) : Option (Int) := if (wrap64 (a1 - (a0_2.size : Int))) < 0 then (some (-1)) else (some (wrap64 (a1 - (a0_2.size : Int))))
set_option maxHeartbeats 8000000 in
set_option maxRecDepth 100000 in
theorem laws_szValue.calls (a0_0 : Int) (a0_1 : Int) (a0_2 : ByteArray) (a1 : Int) (r : Int) (w : World) (h : laws_szValue.f a0_0 a0_1 a0_2 a1 = some r) :
  Calls Tryz.prog 86 #[.agg #[.int .i64 a0_0, .int .i64 a0_1, .string a0_2], .int .i64 a1] w fun e w' => e = .returned (.int .i64 r) ∧ Below w.heap.size w w' := by
 have hu114 := Tryz.underlying114; have HB := a_ (Below.refl w.heap.size w); have H : (if (wrap64 (a1 - (a0_2.size : Int))) < 0 then (some (-1)) else (some (wrap64 (a1 - (a0_2.size : Int))))) = some r := h
 clear h; by_cases c3 : (wrap64 (a1 - (a0_2.size : Int))) < 0
 ·rw [if_pos c3] at H; have c3b0 := ct_ c3; clear c3; obtain rfl := oi_ H; go_enter Tryz.func86, Tryz.ntmps86; go_wp2_with (first | ((with_reducible refine gate_dst (N := 2) rfl ?_); refine bh_ 2 #[.int .i64 a0_0, .int .i64 a0_1, .string a0_2] 114 HB ?_; intro gb101 hg w4 BK101 GE101 hb; replace HB := ms_ HB hb; clear hb hg; obtain ⟨z5_0, z5_1, z5_2, zf5_0, zf5_1, zf5_2⟩ := cz3 BK101)); go_ret; exact ⟨me_, mb_ HB⟩
 ·rw [if_neg c3] at H; have c3b0 := cf_ c3; clear c3; obtain rfl := oi_ H; go_enter Tryz.func86, Tryz.ntmps86; go_wp2_with (first | ((with_reducible refine gate_dst (N := 2) rfl ?_); refine bh_ 2 #[.int .i64 a0_0, .int .i64 a0_1, .string a0_2] 114 HB ?_; intro gb101 hg w6 BK101 GE101 hb; replace HB := ms_ HB hb; clear hb hg; obtain ⟨z7_0, z7_1, z7_2, zf7_0, zf7_1, zf7_2⟩ := cz3 BK101)); go_ret; exact ⟨me_, mb_ HB⟩
def laws_szTerm.f (a0_0 : Int) (a0_1 : Int) (a0_2 : ByteArray) (a0_3 : Int) (a0_4 : Int) (a0_5 : ByteArray) (a1 : Int) : Option (Int) := if (wrap64 (a1 - (a0_2.size : Int))) < 0 then (some (-1)) else ((laws_szValue.f a0_3 a0_4 a0_5 (wrap64 (a1 - (a0_2.size : Int)))).bind fun t103 => (if t103 < 0 then (some (-1)) else (some t103)))
set_option maxHeartbeats 8000000 in
set_option maxRecDepth 100000 in
theorem laws_szTerm.calls (a0_0 : Int) (a0_1 : Int) (a0_2 : ByteArray) (a0_3 : Int) (a0_4 : Int) (a0_5 : ByteArray) (a1 : Int) (r : Int) (w : World) (h : laws_szTerm.f a0_0 a0_1 a0_2 a0_3 a0_4 a0_5 a1 = some r) :
  Calls Tryz.prog 104 #[.agg #[.int .i64 a0_0, .int .i64 a0_1, .string a0_2, .int .i64 a0_3, .int .i64 a0_4, .string a0_5], .int .i64 a1] w fun e w' => e = .returned (.int .i64 r) ∧ Below w.heap.size w w' := by
 have hu160 := Tryz.underlying160; have hu114 := Tryz.underlying114; have HB := a_ (Below.refl w.heap.size w); have H : (if (wrap64 (a1 - (a0_2.size : Int))) < 0 then (some (-1)) else ((laws_szValue.f a0_3 a0_4 a0_5 (wrap64 (a1 - (a0_2.size : Int)))).bind fun t103 => (if t103 < 0 then (some (-1)) else (some t103)))) = some r := h
 clear h; by_cases c3 : (wrap64 (a1 - (a0_2.size : Int))) < 0
 ·rw [if_pos c3] at H; have c3b0 := ct_ c3; clear c3; obtain rfl := oi_ H; go_enter Tryz.func104, Tryz.ntmps104; go_wp2_with (first | ((with_reducible refine gate_dst (N := 2) rfl ?_); refine bh_ 2 #[.int .i64 a0_0, .int .i64 a0_1, .string a0_2, .int .i64 a0_3, .int .i64 a0_4, .string a0_5] 160 HB ?_; intro gb102 hg w4 BK102 GE102 hb; replace HB := ms_ HB hb; clear hb hg; obtain ⟨z5_0, z5_1, z5_2, z5_3, z5_4, z5_5, zf5_0, zf5_1, zf5_2, zf5_3, zf5_4, zf5_5⟩ := cz6 BK102)); go_ret; exact ⟨me_, mb_ HB⟩
 ·rw [if_neg c3] at H; have c3b0 := cf_ c3; clear c3; obtain ⟨t103, A6, H⟩ := ob_ H; by_cases c7 : t103 < 0
  ·rw [if_pos c7] at H; have c7b0 := ct_ c7; clear c7; obtain rfl := oi_ H; go_enter Tryz.func104, Tryz.ntmps104; go_wp2_with (first | ((with_reducible refine gate_dst (N := 2) rfl ?_); refine bh_ 2 #[.int .i64 a0_0, .int .i64 a0_1, .string a0_2, .int .i64 a0_3, .int .i64 a0_4, .string a0_5] 160 HB ?_; intro gb102 hg w8 BK102 GE102 hb; replace HB := ms_ HB hb; clear hb hg; obtain ⟨z9_0, z9_1, z9_2, z9_3, z9_4, z9_5, zf9_0, zf9_1, zf9_2, zf9_3, zf9_4, zf9_5⟩ := cz6 BK102) | ((with_reducible refine gate_callee (f := 86) rfl ?_); refine goesL_ (some 15) rfl rfl Tryz.func86 (by kernel_rfl) rfl #[.agg #[.int .i64 a0_3, .int .i64 a0_4, .string a0_5], .int .i64 (wrap64 (a1 - (a0_2.size : Int)))] rfl mw_ ?_; (with_reducible refine (laws_szValue.calls a0_3 a0_4 a0_5 (wrap64 (a1 - (a0_2.size : Int))) t103 _ A6.out).mono ?_); rintro e w10 ⟨rfl, hb⟩; refine ⟨_, rfl, ?_⟩; replace BK102 := mk_ BK102 hb; replace HB := ms_ HB hb; (try clear hb))); go_ret; exact ⟨me_, mb_ HB⟩
  ·rw [if_neg c7] at H; have c7b0 := cf_ c7; clear c7; obtain rfl := oi_ H; go_enter Tryz.func104, Tryz.ntmps104; go_wp2_with (first | ((with_reducible refine gate_dst (N := 2) rfl ?_); refine bh_ 2 #[.int .i64 a0_0, .int .i64 a0_1, .string a0_2, .int .i64 a0_3, .int .i64 a0_4, .string a0_5] 160 HB ?_; intro gb102 hg w11 BK102 GE102 hb; replace HB := ms_ HB hb; clear hb hg; obtain ⟨z12_0, z12_1, z12_2, z12_3, z12_4, z12_5, zf12_0, zf12_1, zf12_2, zf12_3, zf12_4, zf12_5⟩ := cz6 BK102) | ((with_reducible refine gate_callee (f := 86) rfl ?_); refine goesL_ (some 15) rfl rfl Tryz.func86 (by kernel_rfl) rfl #[.agg #[.int .i64 a0_3, .int .i64 a0_4, .string a0_5], .int .i64 (wrap64 (a1 - (a0_2.size : Int)))] rfl mw_ ?_; (with_reducible refine (laws_szValue.calls a0_3 a0_4 a0_5 (wrap64 (a1 - (a0_2.size : Int))) t103 _ A6.out).mono ?_); rintro e w13 ⟨rfl, hb⟩; refine ⟨_, rfl, ?_⟩; replace BK102 := mk_ BK102 hb; replace HB := ms_ HB hb; (try clear hb))); go_ret; exact ⟨me_, mb_ HB⟩
def laws_szTermS.l0 : Nat → List (S160) → Int → Int → Option (Int)
 | 0, _, _, _ => none
 | k + 1, x0, x1, x5 => if x5 < (x0.length : Int) then (if 0 ≤ x5 then ((laws_szTerm.f ((rd_T160 x0 x5).f0) ((rd_T160 x0 x5).f1) ((rd_T160 x0 x5).f2) ((rd_T160 x0 x5).f3.f0) ((rd_T160 x0 x5).f3.f1) ((rd_T160 x0 x5).f3.f2) x1).bind fun t105 => (if t105 < 0 then (some (-1)) else (laws_szTermS.l0 k x0 t105 (wrap64 (x5 + 1))))) else (none)) else (some x1)
def laws_szTermS.f (k : Nat) (l0 : List (S160)) (a1 : Int) : Option (Int) := if (wrap64 (a1 - (l0.length : Int))) < 0 then (some (-1)) else (laws_szTermS.l0 k l0 (wrap64 (a1 - (l0.length : Int))) 0)
theorem laws_szTermS.mono_l : ∀ k, (∀ y0 y1 y2, LeO (laws_szTermS.l0 k y0 y1 y2) (laws_szTermS.l0 (k + 1) y0 y1 y2))
 | 0 => fun _ _ _ r h => by simp [laws_szTermS.l0] at h
 | k + 1 => by
  have ih0 := laws_szTermS.mono_l k
  ·intro y0 y1 y2; unfold laws_szTermS.l0
   repeat' with_reducible first | apply ih0 | apply LeO.refl | apply LeO.none | refine LeO.ite ?_ ?_ | refine LeO.bind ?_ (fun _ => ?_)
theorem laws_szTermS.mono : ∀ a0 a1 k, LeO (laws_szTermS.f k a0 a1) (laws_szTermS.f (k + 1) a0 a1) := by
 intro a0 a1 k; have ih0 := laws_szTermS.mono_l k; unfold laws_szTermS.f
 repeat' with_reducible first | apply ih0 | apply LeO.refl | apply LeO.none | refine LeO.ite ?_ ?_ | refine LeO.bind ?_ (fun _ => ?_)
set_option maxHeartbeats 8000000 in
set_option maxRecDepth 100000 in
theorem laws_szTermS.calls (k : Nat) (A0 : Option Addr) (c0 : Nat) (l0 : List (S160)) (a1 : Int) (r : Int) (w : World) (hr0 : Kd.C k160 w A0 l0.length l0) (hc0 : l0.length ≤ c0) (h : laws_szTermS.f k l0 a1 = some r) :
  Calls Tryz.prog 85 #[.slice A0 l0.length c0, .int .i64 a1] w fun e w' => e = .returned (.int .i64 r) ∧ Below w.heap.size w w' := by
 have hu160 := Tryz.underlying160; have HR0 := a_ hr0; have HC0 := a_ hc0; clear hr0 hc0; have HB := a_ (Below.refl w.heap.size w); have H : (if (wrap64 (a1 - (l0.length : Int))) < 0 then (some (-1)) else (laws_szTermS.l0 k l0 (wrap64 (a1 - (l0.length : Int))) 0)) = some r := h
 clear h; by_cases c3 : (wrap64 (a1 - (l0.length : Int))) < 0
 ·rw [if_pos c3] at H; have c3b0 := ct_ c3; clear c3; obtain rfl := oi_ H; go_enter Tryz.func85, Tryz.ntmps85; go_wp2; go_ret; exact ⟨me_, mb_ HB⟩
 ·rw [if_neg c3] at H; have c3b0 := cf_ c3; clear c3; have H' := a_ H; clear H; go_enter Tryz.func85, Tryz.ntmps85; go_wp2; go_loopg [1, 5] k (fun kq v1 v5 w' => ∃ (x1_1 : Int) (x5_1 : Int), v1 = .int .i64 x1_1 ∧ v5 = .int .i64 x5_1 ∧ Aside0 (laws_szTermS.l0 kq l0 x1_1 x5_1 = some r) ∧ Aside0 (kq ≤ k) ∧ Aside0 (Below w.heap.size w w'))
  case atStart => exact ⟨(wrap64 (a1 - (l0.length : Int))), (0), mq_, mq_, H', ⟨Nat.le_refl _⟩, ⟨mb_ HB⟩⟩
  clear H'; (try clear c3b0); obtain ⟨x1_1, x5_1, rfl, rfl, HA, HK1, HB⟩ := hrel; obtain _ | k1 := gk
  ·exact absurd HA.out (by simp [laws_szTermS.l0])
  have H := HA.out; clear HA; simp only [laws_szTermS.l0] at H; by_cases c4 : x5_1 < (l0.length : Int)
  ·rw [if_pos c4] at H; have c4b0 := ct_ c4; clear c4; by_cases c5 : 0 ≤ x5_1
   case neg => rw [if_neg c5] at H; cases H
   rw [if_pos c5] at H; have c5b0 := ct_ c5; clear c5; obtain ⟨t105, A6, H⟩ := ob_ H; by_cases c7 : t105 < 0
   ·rw [if_pos c7] at H; have c7b0 := ct_ c7; clear c7; obtain rfl := oi_ H; have p104 : 0 ≤ (x5_1 : Int) := md_
    have q104 : x5_1 < (l0.length : Int) := md_
    obtain ⟨ad104, e104, hx104_0, hx104_1, hx104_2, hx104_3, hx104_4, hx104_5⟩ := at_T160 HR0.out x5_1 p104 q104; cases e104; replace hx104_0 := mx_ HB hx104_0; replace hx104_1 := mx_ HB hx104_1; replace hx104_2 := mx_ HB hx104_2; replace hx104_3 := mx_ HB hx104_3; replace hx104_4 := mx_ HB hx104_4; replace hx104_5 := mx_ HB hx104_5; replace p104 := eq_true p104; replace q104 := eq_true q104; go_wp2_with (first | ((with_reducible refine gate_callee (f := 104) rfl ?_); refine goesL_ (some 23) rfl rfl Tryz.func104 (by kernel_rfl) rfl #[.agg #[.int .i64 ((rd_T160 l0 x5_1).f0), .int .i64 ((rd_T160 l0 x5_1).f1), .string ((rd_T160 l0 x5_1).f2), .int .i64 ((rd_T160 l0 x5_1).f3.f0), .int .i64 ((rd_T160 l0 x5_1).f3.f1), .string ((rd_T160 l0 x5_1).f3.f2)], .int .i64 x1_1] rfl mw_ ?_; (with_reducible refine (laws_szTerm.calls ((rd_T160 l0 x5_1).f0) ((rd_T160 l0 x5_1).f1) ((rd_T160 l0 x5_1).f2) ((rd_T160 l0 x5_1).f3.f0) ((rd_T160 l0 x5_1).f3.f1) ((rd_T160 l0 x5_1).f3.f2) x1_1 t105 _ A6.out).mono ?_); rintro e w8 ⟨rfl, hb⟩; refine ⟨_, rfl, ?_⟩; replace HB := ms_ HB hb; (try clear hb))); go_ret; exact ⟨me_, mb_ HB⟩
   ·rw [if_neg c7] at H; have c7b0 := cf_ c7; clear c7; have H' := a_ H; clear H; have p104 : 0 ≤ (x5_1 : Int) := md_
    have q104 : x5_1 < (l0.length : Int) := md_
    obtain ⟨ad104, e104, hx104_0, hx104_1, hx104_2, hx104_3, hx104_4, hx104_5⟩ := at_T160 HR0.out x5_1 p104 q104; cases e104; replace hx104_0 := mx_ HB hx104_0; replace hx104_1 := mx_ HB hx104_1; replace hx104_2 := mx_ HB hx104_2; replace hx104_3 := mx_ HB hx104_3; replace hx104_4 := mx_ HB hx104_4; replace hx104_5 := mx_ HB hx104_5; replace p104 := eq_true p104; replace q104 := eq_true q104; go_wp2_with (first | ((with_reducible refine gate_callee (f := 104) rfl ?_); refine goesL_ (some 23) rfl rfl Tryz.func104 (by kernel_rfl) rfl #[.agg #[.int .i64 ((rd_T160 l0 x5_1).f0), .int .i64 ((rd_T160 l0 x5_1).f1), .string ((rd_T160 l0 x5_1).f2), .int .i64 ((rd_T160 l0 x5_1).f3.f0), .int .i64 ((rd_T160 l0 x5_1).f3.f1), .string ((rd_T160 l0 x5_1).f3.f2)], .int .i64 x1_1] rfl mw_ ?_; (with_reducible refine (laws_szTerm.calls ((rd_T160 l0 x5_1).f0) ((rd_T160 l0 x5_1).f1) ((rd_T160 l0 x5_1).f2) ((rd_T160 l0 x5_1).f3.f0) ((rd_T160 l0 x5_1).f3.f1) ((rd_T160 l0 x5_1).f3.f2) x1_1 t105 _ A6.out).mono ?_); rintro e w9 ⟨rfl, hb⟩; refine ⟨_, rfl, ?_⟩; replace HB := ms_ HB hb; (try clear hb))); go_roundg k1
    case measure => have := HK1.out; omega
    case rel => exact ⟨(t105), (wrap64 (x5_1 + 1)), mq_, mq_, H', ⟨by have := HK1.out; omega⟩, ⟨mb_ HB⟩⟩
  ·rw [if_neg c4] at H; have c4b0 := cf_ c4; clear c4; obtain rfl := oi_ H; go_wp2; go_ret; exact ⟨me_, mb_ HB⟩
def laws_szPattern.f (k : Nat) (a0_0 : Bool) (a0_1 : ByteArray) (l0_2 : List (S160)) (a1 : Int) : Option (Int) := if (wrap64 (a1 - (a0_1.size : Int))) < 0 then (some (-1)) else ((laws_szTermS.f k l0_2 (wrap64 (a1 - (a0_1.size : Int)))).bind fun t107 => (if t107 < 0 then (some (-1)) else (some t107)))
theorem laws_szPattern.mono : ∀ a0 a1 a2 a3 k, LeO (laws_szPattern.f k a0 a1 a2 a3) (laws_szPattern.f (k + 1) a0 a1 a2 a3) := by
 intro a0 a1 a2 a3 k; unfold laws_szPattern.f
 repeat' with_reducible first | apply laws_szTermS.mono | apply LeO.refl | apply LeO.none | refine LeO.ite ?_ ?_ | refine LeO.bind ?_ (fun _ => ?_)
set_option maxHeartbeats 8000000 in
set_option maxRecDepth 100000 in
theorem laws_szPattern.calls (k : Nat) (a0_0 : Bool) (a0_1 : ByteArray) (A0_2 : Option Addr) (c0_2 : Nat) (l0_2 : List (S160)) (a1 : Int) (r : Int) (w : World) (hr0_2 : Kd.C k160 w A0_2 l0_2.length l0_2) (hc0_2 : l0_2.length ≤ c0_2) (h : laws_szPattern.f k a0_0 a0_1 l0_2 a1 = some r) :
  Calls Tryz.prog 66 #[.agg #[.bool a0_0, .string a0_1, .slice A0_2 l0_2.length c0_2], .int .i64 a1] w fun e w' => e = .returned (.int .i64 r) ∧ Below w.heap.size w w' := by
 have hu112 := Tryz.underlying112; have HR0_2 := a_ hr0_2; have HC0_2 := a_ hc0_2; clear hr0_2 hc0_2; have HB := a_ (Below.refl w.heap.size w); have H : (if (wrap64 (a1 - (a0_1.size : Int))) < 0 then (some (-1)) else ((laws_szTermS.f k l0_2 (wrap64 (a1 - (a0_1.size : Int)))).bind fun t107 => (if t107 < 0 then (some (-1)) else (some t107)))) = some r := h
 clear h; by_cases c3 : (wrap64 (a1 - (a0_1.size : Int))) < 0
 ·rw [if_pos c3] at H; have c3b0 := ct_ c3; clear c3; obtain rfl := oi_ H; go_enter Tryz.func66, Tryz.ntmps66; go_wp2_with (first | ((with_reducible refine gate_dst (N := 2) rfl ?_); refine bh_ 2 #[.bool a0_0, .string a0_1, .slice A0_2 l0_2.length c0_2] 112 HB ?_; intro gb106 hg w4 BK106 GE106 hb; replace HB := ms_ HB hb; clear hb hg; obtain ⟨z5_0, z5_1, z5_2, zf5_0, zf5_1, zf5_2⟩ := cz3 BK106)); go_ret; exact ⟨me_, mb_ HB⟩
 ·rw [if_neg c3] at H; have c3b0 := cf_ c3; clear c3; obtain ⟨t107, A6, H⟩ := ob_ H; by_cases c7 : t107 < 0
  ·rw [if_pos c7] at H; have c7b0 := ct_ c7; clear c7; obtain rfl := oi_ H; go_enter Tryz.func66, Tryz.ntmps66; go_wp2_with (first | ((with_reducible refine gate_dst (N := 2) rfl ?_); refine bh_ 2 #[.bool a0_0, .string a0_1, .slice A0_2 l0_2.length c0_2] 112 HB ?_; intro gb106 hg w8 BK106 GE106 hb; replace HB := ms_ HB hb; clear hb hg; obtain ⟨z9_0, z9_1, z9_2, zf9_0, zf9_1, zf9_2⟩ := cz3 BK106) | ((with_reducible refine gate_callee (f := 85) rfl ?_); refine goesL_ (some 15) rfl rfl Tryz.func85 (by kernel_rfl) rfl #[.slice A0_2 l0_2.length c0_2, .int .i64 (wrap64 (a1 - (a0_1.size : Int)))] rfl mw_ ?_; (with_reducible refine (laws_szTermS.calls k _ _ l0_2 (wrap64 (a1 - (a0_1.size : Int))) t107 _ ?side1 HC0_2.out A6.out).mono ?_); (case side1 => exact mt_ HR0_2 HB); rintro e w10 ⟨rfl, hb⟩; refine ⟨_, rfl, ?_⟩; replace BK106 := mk_ BK106 hb; replace HB := ms_ HB hb; (try clear hb))); go_ret; exact ⟨me_, mb_ HB⟩
  ·rw [if_neg c7] at H; have c7b0 := cf_ c7; clear c7; obtain rfl := oi_ H; go_enter Tryz.func66, Tryz.ntmps66; go_wp2_with (first | ((with_reducible refine gate_dst (N := 2) rfl ?_); refine bh_ 2 #[.bool a0_0, .string a0_1, .slice A0_2 l0_2.length c0_2] 112 HB ?_; intro gb106 hg w11 BK106 GE106 hb; replace HB := ms_ HB hb; clear hb hg; obtain ⟨z12_0, z12_1, z12_2, zf12_0, zf12_1, zf12_2⟩ := cz3 BK106) | ((with_reducible refine gate_callee (f := 85) rfl ?_); refine goesL_ (some 15) rfl rfl Tryz.func85 (by kernel_rfl) rfl #[.slice A0_2 l0_2.length c0_2, .int .i64 (wrap64 (a1 - (a0_1.size : Int)))] rfl mw_ ?_; (with_reducible refine (laws_szTermS.calls k _ _ l0_2 (wrap64 (a1 - (a0_1.size : Int))) t107 _ ?side1 HC0_2.out A6.out).mono ?_); (case side1 => exact mt_ HR0_2 HB); rintro e w13 ⟨rfl, hb⟩; refine ⟨_, rfl, ?_⟩; replace BK106 := mk_ BK106 hb; replace HB := ms_ HB hb; (try clear hb))); go_ret; exact ⟨me_, mb_ HB⟩
def laws_szPatternS.l0 : Nat → List (S112) → Int → Int → Option (Int)
 | 0, _, _, _ => none
 | k + 1, x0, x1, x5 => if x5 < (x0.length : Int) then (if 0 ≤ x5 then ((laws_szPattern.f k ((rd_T112 x0 x5).f0) ((rd_T112 x0 x5).f1) ((rd_T112 x0 x5).f2) x1).bind fun t109 => (if t109 < 0 then (some (-1)) else (laws_szPatternS.l0 k x0 t109 (wrap64 (x5 + 1))))) else (none)) else (some x1)
def laws_szPatternS.f (k : Nat) (l0 : List (S112)) (a1 : Int) : Option (Int) := if (wrap64 (a1 - (l0.length : Int))) < 0 then (some (-1)) else (laws_szPatternS.l0 k l0 (wrap64 (a1 - (l0.length : Int))) 0)
theorem laws_szPatternS.mono_l : ∀ k, (∀ y0 y1 y2, LeO (laws_szPatternS.l0 k y0 y1 y2) (laws_szPatternS.l0 (k + 1) y0 y1 y2))
 | 0 => fun _ _ _ r h => by simp [laws_szPatternS.l0] at h
 | k + 1 => by
  have ih0 := laws_szPatternS.mono_l k
  ·intro y0 y1 y2; unfold laws_szPatternS.l0
   repeat' with_reducible first | apply ih0 | apply laws_szPattern.mono | apply LeO.refl | apply LeO.none | refine LeO.ite ?_ ?_ | refine LeO.bind ?_ (fun _ => ?_)
theorem laws_szPatternS.mono : ∀ a0 a1 k, LeO (laws_szPatternS.f k a0 a1) (laws_szPatternS.f (k + 1) a0 a1) := by
 intro a0 a1 k; have ih0 := laws_szPatternS.mono_l k; unfold laws_szPatternS.f
 repeat' with_reducible first | apply ih0 | apply laws_szPattern.mono | apply LeO.refl | apply LeO.none | refine LeO.ite ?_ ?_ | refine LeO.bind ?_ (fun _ => ?_)
set_option maxHeartbeats 8000000 in
set_option maxRecDepth 100000 in
theorem laws_szPatternS.calls (k : Nat) (A0 : Option Addr) (c0 : Nat) (l0 : List (S112)) (a1 : Int) (r : Int) (w : World) (hr0 : Kd.C k112 w A0 l0.length l0) (hc0 : l0.length ≤ c0) (h : laws_szPatternS.f k l0 a1 = some r) :
  Calls Tryz.prog 46 #[.slice A0 l0.length c0, .int .i64 a1] w fun e w' => e = .returned (.int .i64 r) ∧ Below w.heap.size w w' := by
 have hu112 := Tryz.underlying112; have HR0 := a_ hr0; have HC0 := a_ hc0; clear hr0 hc0; have HB := a_ (Below.refl w.heap.size w); have H : (if (wrap64 (a1 - (l0.length : Int))) < 0 then (some (-1)) else (laws_szPatternS.l0 k l0 (wrap64 (a1 - (l0.length : Int))) 0)) = some r := h
 clear h; by_cases c3 : (wrap64 (a1 - (l0.length : Int))) < 0
 ·rw [if_pos c3] at H; have c3b0 := ct_ c3; clear c3; obtain rfl := oi_ H; go_enter Tryz.func46, Tryz.ntmps46; go_wp2; go_ret; exact ⟨me_, mb_ HB⟩
 ·rw [if_neg c3] at H; have c3b0 := cf_ c3; clear c3; have H' := a_ H; clear H; go_enter Tryz.func46, Tryz.ntmps46; go_wp2; go_loopg [1, 5] k (fun kq v1 v5 w' => ∃ (x1_1 : Int) (x5_1 : Int), v1 = .int .i64 x1_1 ∧ v5 = .int .i64 x5_1 ∧ Aside0 (laws_szPatternS.l0 kq l0 x1_1 x5_1 = some r) ∧ Aside0 (kq ≤ k) ∧ Aside0 (Below w.heap.size w w'))
  case atStart => exact ⟨(wrap64 (a1 - (l0.length : Int))), (0), mq_, mq_, H', ⟨Nat.le_refl _⟩, ⟨mb_ HB⟩⟩
  clear H'; (try clear c3b0); obtain ⟨x1_1, x5_1, rfl, rfl, HA, HK1, HB⟩ := hrel; obtain _ | k1 := gk
  ·exact absurd HA.out (by simp [laws_szPatternS.l0])
  have H := HA.out; clear HA; simp only [laws_szPatternS.l0] at H; by_cases c4 : x5_1 < (l0.length : Int)
  ·rw [if_pos c4] at H; have c4b0 := ct_ c4; clear c4; by_cases c5 : 0 ≤ x5_1
   case neg => rw [if_neg c5] at H; cases H
   rw [if_pos c5] at H; have c5b0 := ct_ c5; clear c5; obtain ⟨t109, A6, H⟩ := ob_ H; by_cases c7 : t109 < 0
   ·rw [if_pos c7] at H; have c7b0 := ct_ c7; clear c7; obtain rfl := oi_ H; have p108 : 0 ≤ (x5_1 : Int) := md_
    have q108 : x5_1 < (l0.length : Int) := md_
    obtain ⟨ad108, A108_2, c108_2, e108, hx108_0, hx108_1, hx108_2, hl108_2, hi108_2⟩ := at_T112 HR0.out x5_1 p108 q108; cases e108; replace hx108_0 := mx_ HB hx108_0; replace hx108_1 := mx_ HB hx108_1; replace hx108_2 := mx_ HB hx108_2; have HR108_2 := a_ hi108_2; have HC108_2 := a_ hl108_2; clear hi108_2 hl108_2; replace p108 := eq_true p108; replace q108 := eq_true q108; go_wp2_with (first | ((with_reducible refine gate_callee (f := 66) rfl ?_); refine goesL_ (some 23) rfl rfl Tryz.func66 (by kernel_rfl) rfl #[.agg #[.bool ((rd_T112 l0 x5_1).f0), .string ((rd_T112 l0 x5_1).f1), .slice A108_2 ((rd_T112 l0 x5_1).f2).length c108_2], .int .i64 x1_1] rfl mw_ ?_; (with_reducible refine (laws_szPattern.calls k1 ((rd_T112 l0 x5_1).f0) ((rd_T112 l0 x5_1).f1) _ _ ((rd_T112 l0 x5_1).f2) x1_1 t109 _ ?side1 HC108_2.out A6.out).mono ?_); (case side1 => exact mt_ HR108_2 HB); rintro e w8 ⟨rfl, hb⟩; refine ⟨_, rfl, ?_⟩; replace HB := ms_ HB hb; (try clear hb))); go_ret; exact ⟨me_, mb_ HB⟩
   ·rw [if_neg c7] at H; have c7b0 := cf_ c7; clear c7; have H' := a_ H; clear H; have p108 : 0 ≤ (x5_1 : Int) := md_
    have q108 : x5_1 < (l0.length : Int) := md_
    obtain ⟨ad108, A108_2, c108_2, e108, hx108_0, hx108_1, hx108_2, hl108_2, hi108_2⟩ := at_T112 HR0.out x5_1 p108 q108; cases e108; replace hx108_0 := mx_ HB hx108_0; replace hx108_1 := mx_ HB hx108_1; replace hx108_2 := mx_ HB hx108_2; have HR108_2 := a_ hi108_2; have HC108_2 := a_ hl108_2; clear hi108_2 hl108_2; replace p108 := eq_true p108; replace q108 := eq_true q108; go_wp2_with (first | ((with_reducible refine gate_callee (f := 66) rfl ?_); refine goesL_ (some 23) rfl rfl Tryz.func66 (by kernel_rfl) rfl #[.agg #[.bool ((rd_T112 l0 x5_1).f0), .string ((rd_T112 l0 x5_1).f1), .slice A108_2 ((rd_T112 l0 x5_1).f2).length c108_2], .int .i64 x1_1] rfl mw_ ?_; (with_reducible refine (laws_szPattern.calls k1 ((rd_T112 l0 x5_1).f0) ((rd_T112 l0 x5_1).f1) _ _ ((rd_T112 l0 x5_1).f2) x1_1 t109 _ ?side1 HC108_2.out A6.out).mono ?_); (case side1 => exact mt_ HR108_2 HB); rintro e w9 ⟨rfl, hb⟩; refine ⟨_, rfl, ?_⟩; replace HB := ms_ HB hb; (try clear hb))); go_roundg k1
    case measure => have := HK1.out; omega
    case rel => exact ⟨(t109), (wrap64 (x5_1 + 1)), mq_, mq_, H', ⟨by have := HK1.out; omega⟩, ⟨mb_ HB⟩⟩
  ·rw [if_neg c4] at H; have c4b0 := cf_ c4; clear c4; obtain rfl := oi_ H; go_wp2; go_ret; exact ⟨me_, mb_ HB⟩
def laws_szExpr.f (a0_0 : Int) (a0_1 : Int) (a0_2 : ByteArray) (a0_3 : Int) (a0_4 : Int) (a0_5 : ByteArray) (a0_6 : Int) (a0_7 : Int) (a1 : Int) : Option (Int) := if (wrap64 (a1 - (a0_2.size : Int))) < 0 then (some (-1)) else ((laws_szValue.f a0_3 a0_4 a0_5 (wrap64 (a1 - (a0_2.size : Int)))).bind fun t111 => (if t111 < 0 then (some (-1)) else (some t111)))
set_option maxHeartbeats 8000000 in
set_option maxRecDepth 100000 in
theorem laws_szExpr.calls (a0_0 : Int) (a0_1 : Int) (a0_2 : ByteArray) (a0_3 : Int) (a0_4 : Int) (a0_5 : ByteArray) (a0_6 : Int) (a0_7 : Int) (a1 : Int) (r : Int) (w : World) (h : laws_szExpr.f a0_0 a0_1 a0_2 a0_3 a0_4 a0_5 a0_6 a0_7 a1 = some r) :
  Calls Tryz.prog 67 #[.agg #[.int .i64 a0_0, .int .u8 a0_1, .string a0_2, .int .i64 a0_3, .int .i64 a0_4, .string a0_5, .int .i64 a0_6, .int .i64 a0_7], .int .i64 a1] w fun e w' => e = .returned (.int .i64 r) ∧ Below w.heap.size w w' := by
 have hu116 := Tryz.underlying116; have hu114 := Tryz.underlying114; have HB := a_ (Below.refl w.heap.size w); have H : (if (wrap64 (a1 - (a0_2.size : Int))) < 0 then (some (-1)) else ((laws_szValue.f a0_3 a0_4 a0_5 (wrap64 (a1 - (a0_2.size : Int)))).bind fun t111 => (if t111 < 0 then (some (-1)) else (some t111)))) = some r := h
 clear h; by_cases c3 : (wrap64 (a1 - (a0_2.size : Int))) < 0
 ·rw [if_pos c3] at H; have c3b0 := ct_ c3; clear c3; obtain rfl := oi_ H; go_enter Tryz.func67, Tryz.ntmps67; go_wp2_with (first | ((with_reducible refine gate_dst (N := 2) rfl ?_); refine bh_ 2 #[.int .i64 a0_0, .int .u8 a0_1, .string a0_2, .int .i64 a0_3, .int .i64 a0_4, .string a0_5, .int .i64 a0_6, .int .i64 a0_7] 116 HB ?_; intro gb110 hg w4 BK110 GE110 hb; replace HB := ms_ HB hb; clear hb hg; obtain ⟨z5_0, z5_1, z5_2, z5_3, z5_4, z5_5, z5_6, z5_7, zf5_0, zf5_1, zf5_2, zf5_3, zf5_4, zf5_5, zf5_6, zf5_7⟩ := cz8 BK110)); go_ret; exact ⟨me_, mb_ HB⟩
 ·rw [if_neg c3] at H; have c3b0 := cf_ c3; clear c3; obtain ⟨t111, A6, H⟩ := ob_ H; by_cases c7 : t111 < 0
  ·rw [if_pos c7] at H; have c7b0 := ct_ c7; clear c7; obtain rfl := oi_ H; go_enter Tryz.func67, Tryz.ntmps67; go_wp2_with (first | ((with_reducible refine gate_dst (N := 2) rfl ?_); refine bh_ 2 #[.int .i64 a0_0, .int .u8 a0_1, .string a0_2, .int .i64 a0_3, .int .i64 a0_4, .string a0_5, .int .i64 a0_6, .int .i64 a0_7] 116 HB ?_; intro gb110 hg w8 BK110 GE110 hb; replace HB := ms_ HB hb; clear hb hg; obtain ⟨z9_0, z9_1, z9_2, z9_3, z9_4, z9_5, z9_6, z9_7, zf9_0, zf9_1, zf9_2, zf9_3, zf9_4, zf9_5, zf9_6, zf9_7⟩ := cz8 BK110) | ((with_reducible refine gate_callee (f := 86) rfl ?_); refine goesL_ (some 15) rfl rfl Tryz.func86 (by kernel_rfl) rfl #[.agg #[.int .i64 a0_3, .int .i64 a0_4, .string a0_5], .int .i64 (wrap64 (a1 - (a0_2.size : Int)))] rfl mw_ ?_; (with_reducible refine (laws_szValue.calls a0_3 a0_4 a0_5 (wrap64 (a1 - (a0_2.size : Int))) t111 _ A6.out).mono ?_); rintro e w10 ⟨rfl, hb⟩; refine ⟨_, rfl, ?_⟩; replace BK110 := mk_ BK110 hb; replace HB := ms_ HB hb; (try clear hb))); go_ret; exact ⟨me_, mb_ HB⟩
  ·rw [if_neg c7] at H; have c7b0 := cf_ c7; clear c7; obtain rfl := oi_ H; go_enter Tryz.func67, Tryz.ntmps67; go_wp2_with (first | ((with_reducible refine gate_dst (N := 2) rfl ?_); refine bh_ 2 #[.int .i64 a0_0, .int .u8 a0_1, .string a0_2, .int .i64 a0_3, .int .i64 a0_4, .string a0_5, .int .i64 a0_6, .int .i64 a0_7] 116 HB ?_; intro gb110 hg w11 BK110 GE110 hb; replace HB := ms_ HB hb; clear hb hg; obtain ⟨z12_0, z12_1, z12_2, z12_3, z12_4, z12_5, z12_6, z12_7, zf12_0, zf12_1, zf12_2, zf12_3, zf12_4, zf12_5, zf12_6, zf12_7⟩ := cz8 BK110) | ((with_reducible refine gate_callee (f := 86) rfl ?_); refine goesL_ (some 15) rfl rfl Tryz.func86 (by kernel_rfl) rfl #[.agg #[.int .i64 a0_3, .int .i64 a0_4, .string a0_5], .int .i64 (wrap64 (a1 - (a0_2.size : Int)))] rfl mw_ ?_; (with_reducible refine (laws_szValue.calls a0_3 a0_4 a0_5 (wrap64 (a1 - (a0_2.size : Int))) t111 _ A6.out).mono ?_); rintro e w13 ⟨rfl, hb⟩; refine ⟨_, rfl, ?_⟩; replace BK110 := mk_ BK110 hb; replace HB := ms_ HB hb; (try clear hb))); go_ret; exact ⟨me_, mb_ HB⟩
def laws_szExprS.l0 : Nat → List (S116) → Int → Int → Option (Int)
 | 0, _, _, _ => none
 | k + 1, x0, x1, x5 => if x5 < (x0.length : Int) then (if 0 ≤ x5 then ((laws_szExpr.f ((rd_T116 x0 x5).f0) ((rd_T116 x0 x5).f1) ((rd_T116 x0 x5).f2) ((rd_T116 x0 x5).f3.f0) ((rd_T116 x0 x5).f3.f1) ((rd_T116 x0 x5).f3.f2) ((rd_T116 x0 x5).f4) ((rd_T116 x0 x5).f5) x1).bind fun t113 => (if t113 < 0 then (some (-1)) else (laws_szExprS.l0 k x0 t113 (wrap64 (x5 + 1))))) else (none)) else (some x1)
def laws_szExprS.f (k : Nat) (l0 : List (S116)) (a1 : Int) : Option (Int) := if (wrap64 (a1 - (l0.length : Int))) < 0 then (some (-1)) else (laws_szExprS.l0 k l0 (wrap64 (a1 - (l0.length : Int))) 0)
theorem laws_szExprS.mono_l : ∀ k, (∀ y0 y1 y2, LeO (laws_szExprS.l0 k y0 y1 y2) (laws_szExprS.l0 (k + 1) y0 y1 y2))
 | 0 => fun _ _ _ r h => by simp [laws_szExprS.l0] at h
 | k + 1 => by
  have ih0 := laws_szExprS.mono_l k
  ·intro y0 y1 y2; unfold laws_szExprS.l0
   repeat' with_reducible first | apply ih0 | apply LeO.refl | apply LeO.none | refine LeO.ite ?_ ?_ | refine LeO.bind ?_ (fun _ => ?_)
theorem laws_szExprS.mono : ∀ a0 a1 k, LeO (laws_szExprS.f k a0 a1) (laws_szExprS.f (k + 1) a0 a1) := by
 intro a0 a1 k; have ih0 := laws_szExprS.mono_l k; unfold laws_szExprS.f
 repeat' with_reducible first | apply ih0 | apply LeO.refl | apply LeO.none | refine LeO.ite ?_ ?_ | refine LeO.bind ?_ (fun _ => ?_)
set_option maxHeartbeats 8000000 in
set_option maxRecDepth 100000 in
theorem laws_szExprS.calls (k : Nat) (A0 : Option Addr) (c0 : Nat) (l0 : List (S116)) (a1 : Int) (r : Int) (w : World) (hr0 : Kd.C k116 w A0 l0.length l0) (hc0 : l0.length ≤ c0) (h : laws_szExprS.f k l0 a1 = some r) :
  Calls Tryz.prog 47 #[.slice A0 l0.length c0, .int .i64 a1] w fun e w' => e = .returned (.int .i64 r) ∧ Below w.heap.size w w' := by
 have hu116 := Tryz.underlying116; have HR0 := a_ hr0; have HC0 := a_ hc0; clear hr0 hc0; have HB := a_ (Below.refl w.heap.size w); have H : (if (wrap64 (a1 - (l0.length : Int))) < 0 then (some (-1)) else (laws_szExprS.l0 k l0 (wrap64 (a1 - (l0.length : Int))) 0)) = some r := h
 clear h; by_cases c3 : (wrap64 (a1 - (l0.length : Int))) < 0
 ·rw [if_pos c3] at H; have c3b0 := ct_ c3; clear c3; obtain rfl := oi_ H; go_enter Tryz.func47, Tryz.ntmps47; go_wp2; go_ret; exact ⟨me_, mb_ HB⟩
 ·rw [if_neg c3] at H; have c3b0 := cf_ c3; clear c3; have H' := a_ H; clear H; go_enter Tryz.func47, Tryz.ntmps47; go_wp2; go_loopg [1, 5] k (fun kq v1 v5 w' => ∃ (x1_1 : Int) (x5_1 : Int), v1 = .int .i64 x1_1 ∧ v5 = .int .i64 x5_1 ∧ Aside0 (laws_szExprS.l0 kq l0 x1_1 x5_1 = some r) ∧ Aside0 (kq ≤ k) ∧ Aside0 (Below w.heap.size w w'))
  case atStart => exact ⟨(wrap64 (a1 - (l0.length : Int))), (0), mq_, mq_, H', ⟨Nat.le_refl _⟩, ⟨mb_ HB⟩⟩
  clear H'; (try clear c3b0); obtain ⟨x1_1, x5_1, rfl, rfl, HA, HK1, HB⟩ := hrel; obtain _ | k1 := gk
  ·exact absurd HA.out (by simp [laws_szExprS.l0])
  have H := HA.out; clear HA; simp only [laws_szExprS.l0] at H; by_cases c4 : x5_1 < (l0.length : Int)
  ·rw [if_pos c4] at H; have c4b0 := ct_ c4; clear c4; by_cases c5 : 0 ≤ x5_1
   case neg => rw [if_neg c5] at H; cases H
   rw [if_pos c5] at H; have c5b0 := ct_ c5; clear c5; obtain ⟨t113, A6, H⟩ := ob_ H; by_cases c7 : t113 < 0
   ·rw [if_pos c7] at H; have c7b0 := ct_ c7; clear c7; obtain rfl := oi_ H; have p112 : 0 ≤ (x5_1 : Int) := md_
    have q112 : x5_1 < (l0.length : Int) := md_
    obtain ⟨ad112, e112, hx112_0, hx112_1, hx112_2, hx112_3, hx112_4, hx112_5, hx112_6, hx112_7⟩ := at_T116 HR0.out x5_1 p112 q112; cases e112; replace hx112_0 := mx_ HB hx112_0; replace hx112_1 := mx_ HB hx112_1; replace hx112_2 := mx_ HB hx112_2; replace hx112_3 := mx_ HB hx112_3; replace hx112_4 := mx_ HB hx112_4; replace hx112_5 := mx_ HB hx112_5; replace hx112_6 := mx_ HB hx112_6; replace hx112_7 := mx_ HB hx112_7; replace p112 := eq_true p112; replace q112 := eq_true q112; go_wp2_with (first | ((with_reducible refine gate_callee (f := 67) rfl ?_); refine goesL_ (some 23) rfl rfl Tryz.func67 (by kernel_rfl) rfl #[.agg #[.int .i64 ((rd_T116 l0 x5_1).f0), .int .u8 ((rd_T116 l0 x5_1).f1), .string ((rd_T116 l0 x5_1).f2), .int .i64 ((rd_T116 l0 x5_1).f3.f0), .int .i64 ((rd_T116 l0 x5_1).f3.f1), .string ((rd_T116 l0 x5_1).f3.f2), .int .i64 ((rd_T116 l0 x5_1).f4), .int .i64 ((rd_T116 l0 x5_1).f5)], .int .i64 x1_1] rfl mw_ ?_; (with_reducible refine (laws_szExpr.calls ((rd_T116 l0 x5_1).f0) ((rd_T116 l0 x5_1).f1) ((rd_T116 l0 x5_1).f2) ((rd_T116 l0 x5_1).f3.f0) ((rd_T116 l0 x5_1).f3.f1) ((rd_T116 l0 x5_1).f3.f2) ((rd_T116 l0 x5_1).f4) ((rd_T116 l0 x5_1).f5) x1_1 t113 _ A6.out).mono ?_); rintro e w8 ⟨rfl, hb⟩; refine ⟨_, rfl, ?_⟩; replace HB := ms_ HB hb; (try clear hb))); go_ret; exact ⟨me_, mb_ HB⟩
   ·rw [if_neg c7] at H; have c7b0 := cf_ c7; clear c7; have H' := a_ H; clear H; have p112 : 0 ≤ (x5_1 : Int) := md_
    have q112 : x5_1 < (l0.length : Int) := md_
    obtain ⟨ad112, e112, hx112_0, hx112_1, hx112_2, hx112_3, hx112_4, hx112_5, hx112_6, hx112_7⟩ := at_T116 HR0.out x5_1 p112 q112; cases e112; replace hx112_0 := mx_ HB hx112_0; replace hx112_1 := mx_ HB hx112_1; replace hx112_2 := mx_ HB hx112_2; replace hx112_3 := mx_ HB hx112_3; replace hx112_4 := mx_ HB hx112_4; replace hx112_5 := mx_ HB hx112_5; replace hx112_6 := mx_ HB hx112_6; replace hx112_7 := mx_ HB hx112_7; replace p112 := eq_true p112; replace q112 := eq_true q112; go_wp2_with (first | ((with_reducible refine gate_callee (f := 67) rfl ?_); refine goesL_ (some 23) rfl rfl Tryz.func67 (by kernel_rfl) rfl #[.agg #[.int .i64 ((rd_T116 l0 x5_1).f0), .int .u8 ((rd_T116 l0 x5_1).f1), .string ((rd_T116 l0 x5_1).f2), .int .i64 ((rd_T116 l0 x5_1).f3.f0), .int .i64 ((rd_T116 l0 x5_1).f3.f1), .string ((rd_T116 l0 x5_1).f3.f2), .int .i64 ((rd_T116 l0 x5_1).f4), .int .i64 ((rd_T116 l0 x5_1).f5)], .int .i64 x1_1] rfl mw_ ?_; (with_reducible refine (laws_szExpr.calls ((rd_T116 l0 x5_1).f0) ((rd_T116 l0 x5_1).f1) ((rd_T116 l0 x5_1).f2) ((rd_T116 l0 x5_1).f3.f0) ((rd_T116 l0 x5_1).f3.f1) ((rd_T116 l0 x5_1).f3.f2) ((rd_T116 l0 x5_1).f4) ((rd_T116 l0 x5_1).f5) x1_1 t113 _ A6.out).mono ?_); rintro e w9 ⟨rfl, hb⟩; refine ⟨_, rfl, ?_⟩; replace HB := ms_ HB hb; (try clear hb))); go_roundg k1
    case measure => have := HK1.out; omega
    case rel => exact ⟨(t113), (wrap64 (x5_1 + 1)), mq_, mq_, H', ⟨by have := HK1.out; omega⟩, ⟨mb_ HB⟩⟩
  ·rw [if_neg c4] at H; have c4b0 := cf_ c4; clear c4; obtain rfl := oi_ H; go_wp2; go_ret; exact ⟨me_, mb_ HB⟩
def laws_szIntS.f (l0 : List Int) (a1 : Int) : Option (Int) := if (wrap64 (a1 - (l0.length : Int))) < 0 then (some (-1)) else (some (wrap64 (a1 - (l0.length : Int))))
set_option maxHeartbeats 8000000 in
set_option maxRecDepth 100000 in
theorem laws_szIntS.calls (A0 : Option Addr) (c0 : Nat) (l0 : List Int) (a1 : Int) (r : Int) (w : World) (hr0 : Kd.C (Kd.int .i64) w A0 l0.length l0) (hc0 : l0.length ≤ c0) (h : laws_szIntS.f l0 a1 = some r) :
  Calls Tryz.prog 22 #[.slice A0 l0.length c0, .int .i64 a1] w fun e w' => e = .returned (.int .i64 r) ∧ Drawn0 w w' := by
 have HR0 := a_ hr0; have HC0 := a_ hc0; clear hr0 hc0; have H : (if (wrap64 (a1 - (l0.length : Int))) < 0 then (some (-1)) else (some (wrap64 (a1 - (l0.length : Int))))) = some r := h
 clear h; by_cases c3 : (wrap64 (a1 - (l0.length : Int))) < 0
 ·rw [if_pos c3] at H; have c3b0 := ct_ c3; clear c3; obtain rfl := oi_ H; go_enter Tryz.func22, Tryz.ntmps22; go_wp2; go_ret; exact ⟨by first | rfl | (simp; done) | (simp [*]; done), by repeat (first | exact Drawn0.refl _ | apply Drawn0.step)⟩
 ·rw [if_neg c3] at H; have c3b0 := cf_ c3; clear c3; obtain rfl := oi_ H; go_enter Tryz.func22, Tryz.ntmps22; go_wp2; go_ret; exact ⟨by first | rfl | (simp; done) | (simp [*]; done), by repeat (first | exact Drawn0.refl _ | apply Drawn0.step)⟩
def laws_szAction.f (a0_0 : Int) (a0_1 : Int) (a0_2 : ByteArray) (l0_3 : List Int) (a1 : Int) : Option (Int) := if (wrap64 (a1 - (a0_2.size : Int))) < 0 then (some (-1)) else ((laws_szIntS.f l0_3 (wrap64 (a1 - (a0_2.size : Int)))).bind fun t115 => (if t115 < 0 then (some (-1)) else (some t115)))
set_option maxHeartbeats 8000000 in
set_option maxRecDepth 100000 in
theorem laws_szAction.calls (a0_0 : Int) (a0_1 : Int) (a0_2 : ByteArray) (A0_3 : Option Addr) (c0_3 : Nat) (l0_3 : List Int) (a1 : Int) (r : Int) (w : World) (hr0_3 : Kd.C (Kd.int .i64) w A0_3 l0_3.length l0_3) (hc0_3 : l0_3.length ≤ c0_3) (h : laws_szAction.f a0_0 a0_1 a0_2 l0_3 a1 = some r) :
  Calls Tryz.prog 68 #[.agg #[.int .i64 a0_0, .int .i64 a0_1, .string a0_2, .slice A0_3 l0_3.length c0_3], .int .i64 a1] w fun e w' => e = .returned (.int .i64 r) ∧ Below w.heap.size w w' := by
 have hu118 := Tryz.underlying118; have HR0_3 := a_ hr0_3; have HC0_3 := a_ hc0_3; clear hr0_3 hc0_3; have HB := a_ (Below.refl w.heap.size w); have H : (if (wrap64 (a1 - (a0_2.size : Int))) < 0 then (some (-1)) else ((laws_szIntS.f l0_3 (wrap64 (a1 - (a0_2.size : Int)))).bind fun t115 => (if t115 < 0 then (some (-1)) else (some t115)))) = some r := h
 clear h; by_cases c3 : (wrap64 (a1 - (a0_2.size : Int))) < 0
 ·rw [if_pos c3] at H; have c3b0 := ct_ c3; clear c3; obtain rfl := oi_ H; go_enter Tryz.func68, Tryz.ntmps68; go_wp2_with (first | ((with_reducible refine gate_dst (N := 2) rfl ?_); refine bh_ 2 #[.int .i64 a0_0, .int .i64 a0_1, .string a0_2, .slice A0_3 l0_3.length c0_3] 118 HB ?_; intro gb114 hg w4 BK114 GE114 hb; replace HB := ms_ HB hb; clear hb hg; obtain ⟨z5_0, z5_1, z5_2, z5_3, zf5_0, zf5_1, zf5_2, zf5_3⟩ := cz4 BK114)); go_ret; exact ⟨me_, mb_ HB⟩
 ·rw [if_neg c3] at H; have c3b0 := cf_ c3; clear c3; obtain ⟨t115, A6, H⟩ := ob_ H; by_cases c7 : t115 < 0
  ·rw [if_pos c7] at H; have c7b0 := ct_ c7; clear c7; obtain rfl := oi_ H; go_enter Tryz.func68, Tryz.ntmps68; go_wp2_with (first | ((with_reducible refine gate_dst (N := 2) rfl ?_); refine bh_ 2 #[.int .i64 a0_0, .int .i64 a0_1, .string a0_2, .slice A0_3 l0_3.length c0_3] 118 HB ?_; intro gb114 hg w8 BK114 GE114 hb; replace HB := ms_ HB hb; clear hb hg; obtain ⟨z9_0, z9_1, z9_2, z9_3, zf9_0, zf9_1, zf9_2, zf9_3⟩ := cz4 BK114) | ((with_reducible refine gate_callee (f := 22) rfl ?_); refine goesL_ (some 15) rfl rfl Tryz.func22 (by kernel_rfl) rfl #[.slice A0_3 l0_3.length c0_3, .int .i64 (wrap64 (a1 - (a0_2.size : Int)))] rfl mw_ ?_; (with_reducible refine (laws_szIntS.calls _ _ l0_3 (wrap64 (a1 - (a0_2.size : Int))) t115 _ ?side1 HC0_3.out A6.out).mono ?_); (case side1 => exact mt_ HR0_3 HB); rintro e w' ⟨rfl, ⟨nd, rfl⟩⟩; refine ⟨_, rfl, ?_⟩)); go_ret; exact ⟨me_, mb_ HB⟩
  ·rw [if_neg c7] at H; have c7b0 := cf_ c7; clear c7; obtain rfl := oi_ H; go_enter Tryz.func68, Tryz.ntmps68; go_wp2_with (first | ((with_reducible refine gate_dst (N := 2) rfl ?_); refine bh_ 2 #[.int .i64 a0_0, .int .i64 a0_1, .string a0_2, .slice A0_3 l0_3.length c0_3] 118 HB ?_; intro gb114 hg w10 BK114 GE114 hb; replace HB := ms_ HB hb; clear hb hg; obtain ⟨z11_0, z11_1, z11_2, z11_3, zf11_0, zf11_1, zf11_2, zf11_3⟩ := cz4 BK114) | ((with_reducible refine gate_callee (f := 22) rfl ?_); refine goesL_ (some 15) rfl rfl Tryz.func22 (by kernel_rfl) rfl #[.slice A0_3 l0_3.length c0_3, .int .i64 (wrap64 (a1 - (a0_2.size : Int)))] rfl mw_ ?_; (with_reducible refine (laws_szIntS.calls _ _ l0_3 (wrap64 (a1 - (a0_2.size : Int))) t115 _ ?side1 HC0_3.out A6.out).mono ?_); (case side1 => exact mt_ HR0_3 HB); rintro e w' ⟨rfl, ⟨nd, rfl⟩⟩; refine ⟨_, rfl, ?_⟩)); go_ret; exact ⟨me_, mb_ HB⟩
end Go.Proofs.YtejjlkbbnhpbdaaGreat.P
namespace Go.Proofs.YtejjlkbbnhpbdaaGreat.P
open Go.Proofs.YtejjlkbbnhpbdaaGreatX
open Go.RowKit Go.Proofs.YtejjlkbbnhpbdaaGreatW.PrintWords Go.Proofs.YtejjlkbbnhpbdaaGreatW.PrintLast Go.Proofs.YtejjlkbbnhpbdaaGreatW.PrintMore
attribute [local go_sem] max2_int min2_int max_two min_two max_three min_three max_four min_four
set_option linter.unusedVariables false
set_option linter.unusedSimpArgs false
def laws_szActionS.l0 : Nat → List (S118) → Int → Int → Option (Int)
 | 0, _, _, _ => none
 | k + 1, x0, x1, x5 => if x5 < (x0.length : Int) then (if 0 ≤ x5 then ((laws_szAction.f ((rd_T118 x0 x5).f0) ((rd_T118 x0 x5).f1) ((rd_T118 x0 x5).f2) ((rd_T118 x0 x5).f3) x1).bind fun t117 => (if t117 < 0 then (some (-1)) else (laws_szActionS.l0 k x0 t117 (wrap64 (x5 + 1))))) else (none)) else (some x1)
def laws_szActionS.f (k : Nat) (l0 : List (S118)) (a1 : Int) : Option (Int) := if (wrap64 (a1 - (l0.length : Int))) < 0 then (some (-1)) else (laws_szActionS.l0 k l0 (wrap64 (a1 - (l0.length : Int))) 0)
theorem laws_szActionS.mono_l : ∀ k, (∀ y0 y1 y2, LeO (laws_szActionS.l0 k y0 y1 y2) (laws_szActionS.l0 (k + 1) y0 y1 y2))
 | 0 => fun _ _ _ r h => by simp [laws_szActionS.l0] at h
 | k + 1 => by
  have ih0 := laws_szActionS.mono_l k
  ·intro y0 y1 y2; unfold laws_szActionS.l0
   repeat' with_reducible first | apply ih0 | apply LeO.refl | apply LeO.none | refine LeO.ite ?_ ?_ | refine LeO.bind ?_ (fun _ => ?_)
theorem laws_szActionS.mono : ∀ a0 a1 k, LeO (laws_szActionS.f k a0 a1) (laws_szActionS.f (k + 1) a0 a1) := by
 intro a0 a1 k; have ih0 := laws_szActionS.mono_l k; unfold laws_szActionS.f
 repeat' with_reducible first | apply ih0 | apply LeO.refl | apply LeO.none | refine LeO.ite ?_ ?_ | refine LeO.bind ?_ (fun _ => ?_)
set_option maxHeartbeats 8000000 in
set_option maxRecDepth 100000 in
theorem laws_szActionS.calls (k : Nat) (A0 : Option Addr) (c0 : Nat) (l0 : List (S118)) (a1 : Int) (r : Int) (w : World) (hr0 : Kd.C k118 w A0 l0.length l0) (hc0 : l0.length ≤ c0) (h : laws_szActionS.f k l0 a1 = some r) :
  Calls Tryz.prog 48 #[.slice A0 l0.length c0, .int .i64 a1] w fun e w' => e = .returned (.int .i64 r) ∧ Below w.heap.size w w' := by
 have hu118 := Tryz.underlying118; have HR0 := a_ hr0; have HC0 := a_ hc0; clear hr0 hc0; have HB := a_ (Below.refl w.heap.size w); have H : (if (wrap64 (a1 - (l0.length : Int))) < 0 then (some (-1)) else (laws_szActionS.l0 k l0 (wrap64 (a1 - (l0.length : Int))) 0)) = some r := h
 clear h; by_cases c3 : (wrap64 (a1 - (l0.length : Int))) < 0
 ·rw [if_pos c3] at H; have c3b0 := ct_ c3; clear c3; obtain rfl := oi_ H; go_enter Tryz.func48, Tryz.ntmps48; go_wp2; go_ret; exact ⟨me_, mb_ HB⟩
 ·rw [if_neg c3] at H; have c3b0 := cf_ c3; clear c3; have H' := a_ H; clear H; go_enter Tryz.func48, Tryz.ntmps48; go_wp2; go_loopg [1, 5] k (fun kq v1 v5 w' => ∃ (x1_1 : Int) (x5_1 : Int), v1 = .int .i64 x1_1 ∧ v5 = .int .i64 x5_1 ∧ Aside0 (laws_szActionS.l0 kq l0 x1_1 x5_1 = some r) ∧ Aside0 (kq ≤ k) ∧ Aside0 (Below w.heap.size w w'))
  case atStart => exact ⟨(wrap64 (a1 - (l0.length : Int))), (0), mq_, mq_, H', ⟨Nat.le_refl _⟩, ⟨mb_ HB⟩⟩
  clear H'; (try clear c3b0); obtain ⟨x1_1, x5_1, rfl, rfl, HA, HK1, HB⟩ := hrel; obtain _ | k1 := gk
  ·exact absurd HA.out (by simp [laws_szActionS.l0])
  have H := HA.out; clear HA; simp only [laws_szActionS.l0] at H; by_cases c4 : x5_1 < (l0.length : Int)
  ·rw [if_pos c4] at H; have c4b0 := ct_ c4; clear c4; by_cases c5 : 0 ≤ x5_1
   case neg => rw [if_neg c5] at H; cases H
   rw [if_pos c5] at H; have c5b0 := ct_ c5; clear c5; obtain ⟨t117, A6, H⟩ := ob_ H; by_cases c7 : t117 < 0
   ·rw [if_pos c7] at H; have c7b0 := ct_ c7; clear c7; obtain rfl := oi_ H; have p116 : 0 ≤ (x5_1 : Int) := md_
    have q116 : x5_1 < (l0.length : Int) := md_
    obtain ⟨ad116, A116_3, c116_3, e116, hx116_0, hx116_1, hx116_2, hx116_3, hl116_3, hi116_3⟩ := at_T118 HR0.out x5_1 p116 q116; cases e116; replace hx116_0 := mx_ HB hx116_0; replace hx116_1 := mx_ HB hx116_1; replace hx116_2 := mx_ HB hx116_2; replace hx116_3 := mx_ HB hx116_3; have HR116_3 := a_ hi116_3; have HC116_3 := a_ hl116_3; clear hi116_3 hl116_3; replace p116 := eq_true p116; replace q116 := eq_true q116; go_wp2_with (first | ((with_reducible refine gate_callee (f := 68) rfl ?_); refine goesL_ (some 23) rfl rfl Tryz.func68 (by kernel_rfl) rfl #[.agg #[.int .i64 ((rd_T118 l0 x5_1).f0), .int .i64 ((rd_T118 l0 x5_1).f1), .string ((rd_T118 l0 x5_1).f2), .slice A116_3 ((rd_T118 l0 x5_1).f3).length c116_3], .int .i64 x1_1] rfl mw_ ?_; (with_reducible refine (laws_szAction.calls ((rd_T118 l0 x5_1).f0) ((rd_T118 l0 x5_1).f1) ((rd_T118 l0 x5_1).f2) _ _ ((rd_T118 l0 x5_1).f3) x1_1 t117 _ ?side1 HC116_3.out A6.out).mono ?_); (case side1 => exact mt_ HR116_3 HB); rintro e w8 ⟨rfl, hb⟩; refine ⟨_, rfl, ?_⟩; replace HB := ms_ HB hb; (try clear hb))); go_ret; exact ⟨me_, mb_ HB⟩
   ·rw [if_neg c7] at H; have c7b0 := cf_ c7; clear c7; have H' := a_ H; clear H; have p116 : 0 ≤ (x5_1 : Int) := md_
    have q116 : x5_1 < (l0.length : Int) := md_
    obtain ⟨ad116, A116_3, c116_3, e116, hx116_0, hx116_1, hx116_2, hx116_3, hl116_3, hi116_3⟩ := at_T118 HR0.out x5_1 p116 q116; cases e116; replace hx116_0 := mx_ HB hx116_0; replace hx116_1 := mx_ HB hx116_1; replace hx116_2 := mx_ HB hx116_2; replace hx116_3 := mx_ HB hx116_3; have HR116_3 := a_ hi116_3; have HC116_3 := a_ hl116_3; clear hi116_3 hl116_3; replace p116 := eq_true p116; replace q116 := eq_true q116; go_wp2_with (first | ((with_reducible refine gate_callee (f := 68) rfl ?_); refine goesL_ (some 23) rfl rfl Tryz.func68 (by kernel_rfl) rfl #[.agg #[.int .i64 ((rd_T118 l0 x5_1).f0), .int .i64 ((rd_T118 l0 x5_1).f1), .string ((rd_T118 l0 x5_1).f2), .slice A116_3 ((rd_T118 l0 x5_1).f3).length c116_3], .int .i64 x1_1] rfl mw_ ?_; (with_reducible refine (laws_szAction.calls ((rd_T118 l0 x5_1).f0) ((rd_T118 l0 x5_1).f1) ((rd_T118 l0 x5_1).f2) _ _ ((rd_T118 l0 x5_1).f3) x1_1 t117 _ ?side1 HC116_3.out A6.out).mono ?_); (case side1 => exact mt_ HR116_3 HB); rintro e w9 ⟨rfl, hb⟩; refine ⟨_, rfl, ?_⟩; replace HB := ms_ HB hb; (try clear hb))); go_roundg k1
    case measure => have := HK1.out; omega
    case rel => exact ⟨(t117), (wrap64 (x5_1 + 1)), mq_, mq_, H', ⟨by have := HK1.out; omega⟩, ⟨mb_ HB⟩⟩
  ·rw [if_neg c4] at H; have c4b0 := cf_ c4; clear c4; obtain rfl := oi_ H; go_wp2; go_ret; exact ⟨me_, mb_ HB⟩
def laws_szRule.f (k : Nat) (a0_0 : ByteArray) (a0_1 : Int) (l0_2 : List (S112)) (l0_3 : List (S116)) (l0_4 : List (S118)) (a1 : Int) : Option (Int) := if (wrap64 (a1 - (a0_0.size : Int))) < 0 then (some (-1)) else ((laws_szPatternS.f k l0_2 (wrap64 (a1 - (a0_0.size : Int)))).bind fun t119 => (if t119 < 0 then (some (-1)) else ((laws_szExprS.f k l0_3 t119).bind fun t120 => (if t120 < 0 then (some (-1)) else ((laws_szActionS.f k l0_4 t120).bind fun t121 => (if t121 < 0 then (some (-1)) else (some t121)))))))
theorem laws_szRule.mono : ∀ a0 a1 a2 a3 a4 a5 k, LeO (laws_szRule.f k a0 a1 a2 a3 a4 a5) (laws_szRule.f (k + 1) a0 a1 a2 a3 a4 a5) := by
 intro a0 a1 a2 a3 a4 a5 k; unfold laws_szRule.f
 repeat' with_reducible first | apply laws_szActionS.mono | apply laws_szExprS.mono | apply laws_szPatternS.mono | apply LeO.refl | apply LeO.none | refine LeO.ite ?_ ?_ | refine LeO.bind ?_ (fun _ => ?_)
set_option maxHeartbeats 8000000 in
set_option maxRecDepth 100000 in
theorem laws_szRule.calls (k : Nat) (a0_0 : ByteArray) (a0_1 : Int) (A0_2 : Option Addr) (c0_2 : Nat) (l0_2 : List (S112)) (A0_3 : Option Addr) (c0_3 : Nat) (l0_3 : List (S116)) (A0_4 : Option Addr) (c0_4 : Nat) (l0_4 : List (S118)) (a1 : Int) (r : Int) (w : World) (hr0_2 : Kd.C k112 w A0_2 l0_2.length l0_2) (hc0_2 : l0_2.length ≤ c0_2) (hr0_3 : Kd.C k116 w A0_3 l0_3.length l0_3) (hc0_3 : l0_3.length ≤ c0_3) (hr0_4 : Kd.C k118 w A0_4 l0_4.length l0_4) (hc0_4 : l0_4.length ≤ c0_4) (h : laws_szRule.f k a0_0 a0_1 l0_2 l0_3 l0_4 a1 = some r) :
  Calls Tryz.prog 21 #[.agg #[.string a0_0, .int .i64 a0_1, .slice A0_2 l0_2.length c0_2, .slice A0_3 l0_3.length c0_3, .slice A0_4 l0_4.length c0_4], .int .i64 a1] w fun e w' => e = .returned (.int .i64 r) ∧ Below w.heap.size w w' := by
 have hu50 := Tryz.underlying50; have HR0_2 := a_ hr0_2; have HC0_2 := a_ hc0_2; clear hr0_2 hc0_2; have HR0_3 := a_ hr0_3; have HC0_3 := a_ hc0_3; clear hr0_3 hc0_3; have HR0_4 := a_ hr0_4; have HC0_4 := a_ hc0_4; clear hr0_4 hc0_4; have HB := a_ (Below.refl w.heap.size w); have H : (if (wrap64 (a1 - (a0_0.size : Int))) < 0 then (some (-1)) else ((laws_szPatternS.f k l0_2 (wrap64 (a1 - (a0_0.size : Int)))).bind fun t119 => (if t119 < 0 then (some (-1)) else ((laws_szExprS.f k l0_3 t119).bind fun t120 => (if t120 < 0 then (some (-1)) else ((laws_szActionS.f k l0_4 t120).bind fun t121 => (if t121 < 0 then (some (-1)) else (some t121)))))))) = some r := h
 clear h; by_cases c3 : (wrap64 (a1 - (a0_0.size : Int))) < 0
 ·rw [if_pos c3] at H; have c3b0 := ct_ c3; clear c3; obtain rfl := oi_ H; go_enter Tryz.func21, Tryz.ntmps21; go_wp2_with (first | ((with_reducible refine gate_dst (N := 2) rfl ?_); refine bh_ 2 #[.string a0_0, .int .i64 a0_1, .slice A0_2 l0_2.length c0_2, .slice A0_3 l0_3.length c0_3, .slice A0_4 l0_4.length c0_4] 50 HB ?_; intro gb118 hg w4 BK118 GE118 hb; replace HB := ms_ HB hb; clear hb hg; obtain ⟨z5_0, z5_1, z5_2, z5_3, z5_4, zf5_0, zf5_1, zf5_2, zf5_3, zf5_4⟩ := cz5 BK118)); go_ret; exact ⟨me_, mb_ HB⟩
 ·rw [if_neg c3] at H; have c3b0 := cf_ c3; clear c3; obtain ⟨t119, A6, H⟩ := ob_ H; by_cases c7 : t119 < 0
  ·rw [if_pos c7] at H; have c7b0 := ct_ c7; clear c7; obtain rfl := oi_ H; go_enter Tryz.func21, Tryz.ntmps21; go_wp2_with (first | ((with_reducible refine gate_dst (N := 2) rfl ?_); refine bh_ 2 #[.string a0_0, .int .i64 a0_1, .slice A0_2 l0_2.length c0_2, .slice A0_3 l0_3.length c0_3, .slice A0_4 l0_4.length c0_4] 50 HB ?_; intro gb118 hg w8 BK118 GE118 hb; replace HB := ms_ HB hb; clear hb hg; obtain ⟨z9_0, z9_1, z9_2, z9_3, z9_4, zf9_0, zf9_1, zf9_2, zf9_3, zf9_4⟩ := cz5 BK118) | ((with_reducible refine gate_callee (f := 46) rfl ?_); refine goesL_ (some 15) rfl rfl Tryz.func46 (by kernel_rfl) rfl #[.slice A0_2 l0_2.length c0_2, .int .i64 (wrap64 (a1 - (a0_0.size : Int)))] rfl mw_ ?_; (with_reducible refine (laws_szPatternS.calls k _ _ l0_2 (wrap64 (a1 - (a0_0.size : Int))) t119 _ ?side1 HC0_2.out A6.out).mono ?_); (case side1 => exact mt_ HR0_2 HB); rintro e w10 ⟨rfl, hb⟩; refine ⟨_, rfl, ?_⟩; replace BK118 := mk_ BK118 hb; replace HB := ms_ HB hb; (try clear hb))); go_ret; exact ⟨me_, mb_ HB⟩
  ·rw [if_neg c7] at H; have c7b0 := cf_ c7; clear c7; obtain ⟨t120, A11, H⟩ := ob_ H; by_cases c12 : t120 < 0
   ·rw [if_pos c12] at H; have c12b0 := ct_ c12; clear c12; obtain rfl := oi_ H; go_enter Tryz.func21, Tryz.ntmps21; go_wp2_with (first | ((with_reducible refine gate_dst (N := 2) rfl ?_); refine bh_ 2 #[.string a0_0, .int .i64 a0_1, .slice A0_2 l0_2.length c0_2, .slice A0_3 l0_3.length c0_3, .slice A0_4 l0_4.length c0_4] 50 HB ?_; intro gb118 hg w13 BK118 GE118 hb; replace HB := ms_ HB hb; clear hb hg; obtain ⟨z14_0, z14_1, z14_2, z14_3, z14_4, zf14_0, zf14_1, zf14_2, zf14_3, zf14_4⟩ := cz5 BK118) | ((with_reducible refine gate_callee (f := 46) rfl ?_); refine goesL_ (some 15) rfl rfl Tryz.func46 (by kernel_rfl) rfl #[.slice A0_2 l0_2.length c0_2, .int .i64 (wrap64 (a1 - (a0_0.size : Int)))] rfl mw_ ?_; (with_reducible refine (laws_szPatternS.calls k _ _ l0_2 (wrap64 (a1 - (a0_0.size : Int))) t119 _ ?side1 HC0_2.out A6.out).mono ?_); (case side1 => exact mt_ HR0_2 HB); rintro e w15 ⟨rfl, hb⟩; refine ⟨_, rfl, ?_⟩; replace BK118 := mk_ BK118 hb; replace HB := ms_ HB hb; (try clear hb); obtain ⟨z16_0, z16_1, z16_2, z16_3, z16_4, zf16_0, zf16_1, zf16_2, zf16_3, zf16_4⟩ := cz5 BK118) | ((with_reducible refine gate_callee (f := 47) rfl ?_); refine goesL_ (some 21) rfl rfl Tryz.func47 (by kernel_rfl) rfl #[.slice A0_3 l0_3.length c0_3, .int .i64 t119] rfl mw_ ?_; (with_reducible refine (laws_szExprS.calls k _ _ l0_3 t119 t120 _ ?side1 HC0_3.out A11.out).mono ?_); (case side1 => exact mt_ HR0_3 HB); rintro e w17 ⟨rfl, hb⟩; refine ⟨_, rfl, ?_⟩; replace BK118 := mk_ BK118 hb; replace HB := ms_ HB hb; (try clear hb))); go_ret; exact ⟨me_, mb_ HB⟩
   ·rw [if_neg c12] at H; have c12b0 := cf_ c12; clear c12; obtain ⟨t121, A18, H⟩ := ob_ H; by_cases c19 : t121 < 0
    ·rw [if_pos c19] at H; have c19b0 := ct_ c19; clear c19; obtain rfl := oi_ H; go_enter Tryz.func21, Tryz.ntmps21; go_wp2_with (first | ((with_reducible refine gate_dst (N := 2) rfl ?_); refine bh_ 2 #[.string a0_0, .int .i64 a0_1, .slice A0_2 l0_2.length c0_2, .slice A0_3 l0_3.length c0_3, .slice A0_4 l0_4.length c0_4] 50 HB ?_; intro gb118 hg w20 BK118 GE118 hb; replace HB := ms_ HB hb; clear hb hg; obtain ⟨z21_0, z21_1, z21_2, z21_3, z21_4, zf21_0, zf21_1, zf21_2, zf21_3, zf21_4⟩ := cz5 BK118) | ((with_reducible refine gate_callee (f := 46) rfl ?_); refine goesL_ (some 15) rfl rfl Tryz.func46 (by kernel_rfl) rfl #[.slice A0_2 l0_2.length c0_2, .int .i64 (wrap64 (a1 - (a0_0.size : Int)))] rfl mw_ ?_; (with_reducible refine (laws_szPatternS.calls k _ _ l0_2 (wrap64 (a1 - (a0_0.size : Int))) t119 _ ?side1 HC0_2.out A6.out).mono ?_); (case side1 => exact mt_ HR0_2 HB); rintro e w22 ⟨rfl, hb⟩; refine ⟨_, rfl, ?_⟩; replace BK118 := mk_ BK118 hb; replace HB := ms_ HB hb; (try clear hb); obtain ⟨z23_0, z23_1, z23_2, z23_3, z23_4, zf23_0, zf23_1, zf23_2, zf23_3, zf23_4⟩ := cz5 BK118) | ((with_reducible refine gate_callee (f := 47) rfl ?_); refine goesL_ (some 21) rfl rfl Tryz.func47 (by kernel_rfl) rfl #[.slice A0_3 l0_3.length c0_3, .int .i64 t119] rfl mw_ ?_; (with_reducible refine (laws_szExprS.calls k _ _ l0_3 t119 t120 _ ?side1 HC0_3.out A11.out).mono ?_); (case side1 => exact mt_ HR0_3 HB); rintro e w24 ⟨rfl, hb⟩; refine ⟨_, rfl, ?_⟩; replace BK118 := mk_ BK118 hb; replace HB := ms_ HB hb; (try clear hb); obtain ⟨z25_0, z25_1, z25_2, z25_3, z25_4, zf25_0, zf25_1, zf25_2, zf25_3, zf25_4⟩ := cz5 BK118) | ((with_reducible refine gate_callee (f := 48) rfl ?_); refine goesL_ (some 27) rfl rfl Tryz.func48 (by kernel_rfl) rfl #[.slice A0_4 l0_4.length c0_4, .int .i64 t120] rfl mw_ ?_; (with_reducible refine (laws_szActionS.calls k _ _ l0_4 t120 t121 _ ?side1 HC0_4.out A18.out).mono ?_); (case side1 => exact mt_ HR0_4 HB); rintro e w26 ⟨rfl, hb⟩; refine ⟨_, rfl, ?_⟩; replace BK118 := mk_ BK118 hb; replace HB := ms_ HB hb; (try clear hb))); go_ret; exact ⟨me_, mb_ HB⟩
    ·rw [if_neg c19] at H; have c19b0 := cf_ c19; clear c19; obtain rfl := oi_ H; go_enter Tryz.func21, Tryz.ntmps21; go_wp2_with (first | ((with_reducible refine gate_dst (N := 2) rfl ?_); refine bh_ 2 #[.string a0_0, .int .i64 a0_1, .slice A0_2 l0_2.length c0_2, .slice A0_3 l0_3.length c0_3, .slice A0_4 l0_4.length c0_4] 50 HB ?_; intro gb118 hg w27 BK118 GE118 hb; replace HB := ms_ HB hb; clear hb hg; obtain ⟨z28_0, z28_1, z28_2, z28_3, z28_4, zf28_0, zf28_1, zf28_2, zf28_3, zf28_4⟩ := cz5 BK118) | ((with_reducible refine gate_callee (f := 46) rfl ?_); refine goesL_ (some 15) rfl rfl Tryz.func46 (by kernel_rfl) rfl #[.slice A0_2 l0_2.length c0_2, .int .i64 (wrap64 (a1 - (a0_0.size : Int)))] rfl mw_ ?_; (with_reducible refine (laws_szPatternS.calls k _ _ l0_2 (wrap64 (a1 - (a0_0.size : Int))) t119 _ ?side1 HC0_2.out A6.out).mono ?_); (case side1 => exact mt_ HR0_2 HB); rintro e w29 ⟨rfl, hb⟩; refine ⟨_, rfl, ?_⟩; replace BK118 := mk_ BK118 hb; replace HB := ms_ HB hb; (try clear hb); obtain ⟨z30_0, z30_1, z30_2, z30_3, z30_4, zf30_0, zf30_1, zf30_2, zf30_3, zf30_4⟩ := cz5 BK118) | ((with_reducible refine gate_callee (f := 47) rfl ?_); refine goesL_ (some 21) rfl rfl Tryz.func47 (by kernel_rfl) rfl #[.slice A0_3 l0_3.length c0_3, .int .i64 t119] rfl mw_ ?_; (with_reducible refine (laws_szExprS.calls k _ _ l0_3 t119 t120 _ ?side1 HC0_3.out A11.out).mono ?_); (case side1 => exact mt_ HR0_3 HB); rintro e w31 ⟨rfl, hb⟩; refine ⟨_, rfl, ?_⟩; replace BK118 := mk_ BK118 hb; replace HB := ms_ HB hb; (try clear hb); obtain ⟨z32_0, z32_1, z32_2, z32_3, z32_4, zf32_0, zf32_1, zf32_2, zf32_3, zf32_4⟩ := cz5 BK118) | ((with_reducible refine gate_callee (f := 48) rfl ?_); refine goesL_ (some 27) rfl rfl Tryz.func48 (by kernel_rfl) rfl #[.slice A0_4 l0_4.length c0_4, .int .i64 t120] rfl mw_ ?_; (with_reducible refine (laws_szActionS.calls k _ _ l0_4 t120 t121 _ ?side1 HC0_4.out A18.out).mono ?_); (case side1 => exact mt_ HR0_4 HB); rintro e w33 ⟨rfl, hb⟩; refine ⟨_, rfl, ?_⟩; replace BK118 := mk_ BK118 hb; replace HB := ms_ HB hb; (try clear hb))); go_ret; exact ⟨me_, mb_ HB⟩
def laws_szRuleS.l0 : Nat → List (S50) → Int → Int → Option (Int)
 | 0, _, _, _ => none
 | k + 1, x0, x1, x5 => if x5 < (x0.length : Int) then (if 0 ≤ x5 then ((laws_szRule.f k ((rd_T50 x0 x5).f0) ((rd_T50 x0 x5).f1) ((rd_T50 x0 x5).f2) ((rd_T50 x0 x5).f3) ((rd_T50 x0 x5).f4) x1).bind fun t123 => (if t123 < 0 then (some (-1)) else (laws_szRuleS.l0 k x0 t123 (wrap64 (x5 + 1))))) else (none)) else (some x1)
def laws_szRuleS.f (k : Nat) (l0 : List (S50)) (a1 : Int) : Option (Int) := if (wrap64 (a1 - (l0.length : Int))) < 0 then (some (-1)) else (laws_szRuleS.l0 k l0 (wrap64 (a1 - (l0.length : Int))) 0)
theorem laws_szRuleS.mono_l : ∀ k, (∀ y0 y1 y2, LeO (laws_szRuleS.l0 k y0 y1 y2) (laws_szRuleS.l0 (k + 1) y0 y1 y2))
 | 0 => fun _ _ _ r h => by simp [laws_szRuleS.l0] at h
 | k + 1 => by
  have ih0 := laws_szRuleS.mono_l k
  ·intro y0 y1 y2; unfold laws_szRuleS.l0
   repeat' with_reducible first | apply ih0 | apply laws_szRule.mono | apply LeO.refl | apply LeO.none | refine LeO.ite ?_ ?_ | refine LeO.bind ?_ (fun _ => ?_)
theorem laws_szRuleS.mono : ∀ a0 a1 k, LeO (laws_szRuleS.f k a0 a1) (laws_szRuleS.f (k + 1) a0 a1) := by
 intro a0 a1 k; have ih0 := laws_szRuleS.mono_l k; unfold laws_szRuleS.f
 repeat' with_reducible first | apply ih0 | apply laws_szRule.mono | apply LeO.refl | apply LeO.none | refine LeO.ite ?_ ?_ | refine LeO.bind ?_ (fun _ => ?_)
set_option maxHeartbeats 8000000 in
set_option maxRecDepth 100000 in
theorem laws_szRuleS.calls (k : Nat) (A0 : Option Addr) (c0 : Nat) (l0 : List (S50)) (a1 : Int) (r : Int) (w : World) (hr0 : Kd.C k50 w A0 l0.length l0) (hc0 : l0.length ≤ c0) (h : laws_szRuleS.f k l0 a1 = some r) :
  Calls Tryz.prog 5 #[.slice A0 l0.length c0, .int .i64 a1] w fun e w' => e = .returned (.int .i64 r) ∧ Below w.heap.size w w' := by
 have hu50 := Tryz.underlying50; have HR0 := a_ hr0; have HC0 := a_ hc0; clear hr0 hc0; have HB := a_ (Below.refl w.heap.size w); have H : (if (wrap64 (a1 - (l0.length : Int))) < 0 then (some (-1)) else (laws_szRuleS.l0 k l0 (wrap64 (a1 - (l0.length : Int))) 0)) = some r := h
 clear h; by_cases c3 : (wrap64 (a1 - (l0.length : Int))) < 0
 ·rw [if_pos c3] at H; have c3b0 := ct_ c3; clear c3; obtain rfl := oi_ H; go_enter Tryz.func5, Tryz.ntmps5; go_wp2; go_ret; exact ⟨me_, mb_ HB⟩
 ·rw [if_neg c3] at H; have c3b0 := cf_ c3; clear c3; have H' := a_ H; clear H; go_enter Tryz.func5, Tryz.ntmps5; go_wp2; go_loopg [1, 5] k (fun kq v1 v5 w' => ∃ (x1_1 : Int) (x5_1 : Int), v1 = .int .i64 x1_1 ∧ v5 = .int .i64 x5_1 ∧ Aside0 (laws_szRuleS.l0 kq l0 x1_1 x5_1 = some r) ∧ Aside0 (kq ≤ k) ∧ Aside0 (Below w.heap.size w w'))
  case atStart => exact ⟨(wrap64 (a1 - (l0.length : Int))), (0), mq_, mq_, H', ⟨Nat.le_refl _⟩, ⟨mb_ HB⟩⟩
  clear H'; (try clear c3b0); obtain ⟨x1_1, x5_1, rfl, rfl, HA, HK1, HB⟩ := hrel; obtain _ | k1 := gk
  ·exact absurd HA.out (by simp [laws_szRuleS.l0])
  have H := HA.out; clear HA; simp only [laws_szRuleS.l0] at H; by_cases c4 : x5_1 < (l0.length : Int)
  ·rw [if_pos c4] at H; have c4b0 := ct_ c4; clear c4; by_cases c5 : 0 ≤ x5_1
   case neg => rw [if_neg c5] at H; cases H
   rw [if_pos c5] at H; have c5b0 := ct_ c5; clear c5; obtain ⟨t123, A6, H⟩ := ob_ H; by_cases c7 : t123 < 0
   ·rw [if_pos c7] at H; have c7b0 := ct_ c7; clear c7; obtain rfl := oi_ H; have p122 : 0 ≤ (x5_1 : Int) := md_
    have q122 : x5_1 < (l0.length : Int) := md_
    obtain ⟨ad122, A122_2, c122_2, A122_3, c122_3, A122_4, c122_4, e122, hx122_0, hx122_1, hx122_2, hx122_3, hx122_4, hl122_2, hi122_2, hl122_3, hi122_3, hl122_4, hi122_4⟩ := at_T50 HR0.out x5_1 p122 q122; cases e122; replace hx122_0 := mx_ HB hx122_0; replace hx122_1 := mx_ HB hx122_1; replace hx122_2 := mx_ HB hx122_2; replace hx122_3 := mx_ HB hx122_3; replace hx122_4 := mx_ HB hx122_4; have HR122_2 := a_ hi122_2; have HC122_2 := a_ hl122_2; clear hi122_2 hl122_2; have HR122_3 := a_ hi122_3; have HC122_3 := a_ hl122_3; clear hi122_3 hl122_3; have HR122_4 := a_ hi122_4; have HC122_4 := a_ hl122_4; clear hi122_4 hl122_4; replace p122 := eq_true p122; replace q122 := eq_true q122; go_wp2_with (first | ((with_reducible refine gate_callee (f := 21) rfl ?_); refine goesL_ (some 23) rfl rfl Tryz.func21 (by kernel_rfl) rfl #[.agg #[.string ((rd_T50 l0 x5_1).f0), .int .i64 ((rd_T50 l0 x5_1).f1), .slice A122_2 ((rd_T50 l0 x5_1).f2).length c122_2, .slice A122_3 ((rd_T50 l0 x5_1).f3).length c122_3, .slice A122_4 ((rd_T50 l0 x5_1).f4).length c122_4], .int .i64 x1_1] rfl mw_ ?_; (with_reducible refine (laws_szRule.calls k1 ((rd_T50 l0 x5_1).f0) ((rd_T50 l0 x5_1).f1) _ _ ((rd_T50 l0 x5_1).f2) _ _ ((rd_T50 l0 x5_1).f3) _ _ ((rd_T50 l0 x5_1).f4) x1_1 t123 _ ?side1 HC122_2.out ?side3 HC122_3.out ?side5 HC122_4.out A6.out).mono ?_); (case side1 => exact mt_ HR122_2 HB); (case side3 => exact mt_ HR122_3 HB); (case side5 => exact mt_ HR122_4 HB); rintro e w8 ⟨rfl, hb⟩; refine ⟨_, rfl, ?_⟩; replace HB := ms_ HB hb; (try clear hb))); go_ret; exact ⟨me_, mb_ HB⟩
   ·rw [if_neg c7] at H; have c7b0 := cf_ c7; clear c7; have H' := a_ H; clear H; have p122 : 0 ≤ (x5_1 : Int) := md_
    have q122 : x5_1 < (l0.length : Int) := md_
    obtain ⟨ad122, A122_2, c122_2, A122_3, c122_3, A122_4, c122_4, e122, hx122_0, hx122_1, hx122_2, hx122_3, hx122_4, hl122_2, hi122_2, hl122_3, hi122_3, hl122_4, hi122_4⟩ := at_T50 HR0.out x5_1 p122 q122; cases e122; replace hx122_0 := mx_ HB hx122_0; replace hx122_1 := mx_ HB hx122_1; replace hx122_2 := mx_ HB hx122_2; replace hx122_3 := mx_ HB hx122_3; replace hx122_4 := mx_ HB hx122_4; have HR122_2 := a_ hi122_2; have HC122_2 := a_ hl122_2; clear hi122_2 hl122_2; have HR122_3 := a_ hi122_3; have HC122_3 := a_ hl122_3; clear hi122_3 hl122_3; have HR122_4 := a_ hi122_4; have HC122_4 := a_ hl122_4; clear hi122_4 hl122_4; replace p122 := eq_true p122; replace q122 := eq_true q122; go_wp2_with (first | ((with_reducible refine gate_callee (f := 21) rfl ?_); refine goesL_ (some 23) rfl rfl Tryz.func21 (by kernel_rfl) rfl #[.agg #[.string ((rd_T50 l0 x5_1).f0), .int .i64 ((rd_T50 l0 x5_1).f1), .slice A122_2 ((rd_T50 l0 x5_1).f2).length c122_2, .slice A122_3 ((rd_T50 l0 x5_1).f3).length c122_3, .slice A122_4 ((rd_T50 l0 x5_1).f4).length c122_4], .int .i64 x1_1] rfl mw_ ?_; (with_reducible refine (laws_szRule.calls k1 ((rd_T50 l0 x5_1).f0) ((rd_T50 l0 x5_1).f1) _ _ ((rd_T50 l0 x5_1).f2) _ _ ((rd_T50 l0 x5_1).f3) _ _ ((rd_T50 l0 x5_1).f4) x1_1 t123 _ ?side1 HC122_2.out ?side3 HC122_3.out ?side5 HC122_4.out A6.out).mono ?_); (case side1 => exact mt_ HR122_2 HB); (case side3 => exact mt_ HR122_3 HB); (case side5 => exact mt_ HR122_4 HB); rintro e w9 ⟨rfl, hb⟩; refine ⟨_, rfl, ?_⟩; replace HB := ms_ HB hb; (try clear hb))); go_roundg k1
    case measure => have := HK1.out; omega
    case rel => exact ⟨(t123), (wrap64 (x5_1 + 1)), mq_, mq_, H', ⟨by have := HK1.out; omega⟩, ⟨mb_ HB⟩⟩
  ·rw [if_neg c4] at H; have c4b0 := cf_ c4; clear c4; obtain rfl := oi_ H; go_wp2; go_ret; exact ⟨me_, mb_ HB⟩
def laws_szInst.f (a0_0 : Int) (l0_1 : List Int) (a1 : Int) : Option (Int) := (laws_szIntS.f l0_1 a1).bind fun t125 => (if t125 < 0 then (some (-1)) else (some t125))
set_option maxHeartbeats 8000000 in
set_option maxRecDepth 100000 in
theorem laws_szInst.calls (a0_0 : Int) (A0_1 : Option Addr) (c0_1 : Nat) (l0_1 : List Int) (a1 : Int) (r : Int) (w : World) (hr0_1 : Kd.C (Kd.int .i64) w A0_1 l0_1.length l0_1) (hc0_1 : l0_1.length ≤ c0_1) (h : laws_szInst.f a0_0 l0_1 a1 = some r) :
  Calls Tryz.prog 6 #[.agg #[.int .i64 a0_0, .slice A0_1 l0_1.length c0_1], .int .i64 a1] w fun e w' => e = .returned (.int .i64 r) ∧ Below w.heap.size w w' := by
 have hu25 := Tryz.underlying25; have HR0_1 := a_ hr0_1; have HC0_1 := a_ hc0_1; clear hr0_1 hc0_1; have HB := a_ (Below.refl w.heap.size w); have H : ((laws_szIntS.f l0_1 a1).bind fun t125 => (if t125 < 0 then (some (-1)) else (some t125))) = some r := h
 clear h; obtain ⟨t125, A3, H⟩ := ob_ H; by_cases c4 : t125 < 0
 ·rw [if_pos c4] at H; have c4b0 := ct_ c4; clear c4; obtain rfl := oi_ H; go_enter Tryz.func6, Tryz.ntmps6; go_wp2_with (first | ((with_reducible refine gate_dst (N := 2) rfl ?_); refine bh_ 2 #[.int .i64 a0_0, .slice A0_1 l0_1.length c0_1] 25 HB ?_; intro gb124 hg w5 BK124 GE124 hb; replace HB := ms_ HB hb; clear hb hg; obtain ⟨z6_0, z6_1, zf6_0, zf6_1⟩ := cz2 BK124) | ((with_reducible refine gate_callee (f := 22) rfl ?_); refine goesL_ (some 8) rfl rfl Tryz.func22 (by kernel_rfl) rfl #[.slice A0_1 l0_1.length c0_1, .int .i64 a1] rfl mw_ ?_; (with_reducible refine (laws_szIntS.calls _ _ l0_1 a1 t125 _ ?side1 HC0_1.out A3.out).mono ?_); (case side1 => exact mt_ HR0_1 HB); rintro e w' ⟨rfl, ⟨nd, rfl⟩⟩; refine ⟨_, rfl, ?_⟩)); go_ret; exact ⟨me_, mb_ HB⟩
 ·rw [if_neg c4] at H; have c4b0 := cf_ c4; clear c4; obtain rfl := oi_ H; go_enter Tryz.func6, Tryz.ntmps6; go_wp2_with (first | ((with_reducible refine gate_dst (N := 2) rfl ?_); refine bh_ 2 #[.int .i64 a0_0, .slice A0_1 l0_1.length c0_1] 25 HB ?_; intro gb124 hg w7 BK124 GE124 hb; replace HB := ms_ HB hb; clear hb hg; obtain ⟨z8_0, z8_1, zf8_0, zf8_1⟩ := cz2 BK124) | ((with_reducible refine gate_callee (f := 22) rfl ?_); refine goesL_ (some 8) rfl rfl Tryz.func22 (by kernel_rfl) rfl #[.slice A0_1 l0_1.length c0_1, .int .i64 a1] rfl mw_ ?_; (with_reducible refine (laws_szIntS.calls _ _ l0_1 a1 t125 _ ?side1 HC0_1.out A3.out).mono ?_); (case side1 => exact mt_ HR0_1 HB); rintro e w' ⟨rfl, ⟨nd, rfl⟩⟩; refine ⟨_, rfl, ?_⟩)); go_ret; exact ⟨me_, mb_ HB⟩
def spec_l5There.f (l0 : List (S58)) (a1_0 : Int) (l1_1 : List Int) : Option (Bool) := if a1_0 ≥ 0 then (if a1_0 < (l0.length : Int) then (some (decide ((l1_1.length : Int) ≤ 3))) else (some false)) else (some false)
set_option maxHeartbeats 8000000 in
set_option maxRecDepth 100000 in
theorem spec_l5There.calls (A0 : Option Addr) (c0 : Nat) (l0 : List (S58)) (a1_0 : Int) (A1_1 : Option Addr) (c1_1 : Nat) (l1_1 : List Int) (r : Bool) (w : World) (hr0 : Kd.C k58 w A0 l0.length l0) (hc0 : l0.length ≤ c0) (hr1_1 : Kd.C (Kd.int .i64) w A1_1 l1_1.length l1_1) (hc1_1 : l1_1.length ≤ c1_1) (h : spec_l5There.f l0 a1_0 l1_1 = some r) :
  Calls Tryz.prog 23 #[.slice A0 l0.length c0, .agg #[.int .i64 a1_0, .slice A1_1 l1_1.length c1_1]] w fun e w' => e = .returned (.bool r) ∧ Below w.heap.size w w' := by
 have hu31 := Tryz.underlying31; have HR0 := a_ hr0; have HC0 := a_ hc0; clear hr0 hc0; have HR1_1 := a_ hr1_1; have HC1_1 := a_ hc1_1; clear hr1_1 hc1_1; have HB := a_ (Below.refl w.heap.size w); have H : (if a1_0 ≥ 0 then (if a1_0 < (l0.length : Int) then (some (decide ((l1_1.length : Int) ≤ 3))) else (some false)) else (some false)) = some r := h
 clear h; by_cases c3 : a1_0 ≥ 0
 ·rw [if_pos c3] at H; have c3b0 := ct_ c3; clear c3; by_cases c4 : a1_0 < (l0.length : Int)
  ·rw [if_pos c4] at H; have c4b0 := ct_ c4; clear c4; obtain rfl := oi_ H; go_enter Tryz.func23, Tryz.ntmps23; go_wp2_with (first | ((with_reducible refine gate_dst (N := 3) rfl ?_); (try (refine gate_guard (by rfl) ?_; dsimp only)); refine bh_ 3 #[.int .i64 a1_0, .slice A1_1 l1_1.length c1_1] 31 HB ?_; intro gb126 hg w5 BK126 GE126 hb; replace HB := ms_ HB hb; clear hb hg; obtain ⟨z6_0, z6_1, zf6_0, zf6_1⟩ := cz2 BK126)); go_ret; exact ⟨me_, mb_ HB⟩
  ·rw [if_neg c4] at H; have c4b0 := cf_ c4; clear c4; obtain rfl := oi_ H; go_enter Tryz.func23, Tryz.ntmps23; go_wp2_with (first | ((with_reducible refine gate_dst (N := 3) rfl ?_); (try (refine gate_guard (by rfl) ?_; dsimp only)); refine bh_ 3 #[.int .i64 a1_0, .slice A1_1 l1_1.length c1_1] 31 HB ?_; intro gb126 hg w7 BK126 GE126 hb; replace HB := ms_ HB hb; clear hb hg; obtain ⟨z8_0, z8_1, zf8_0, zf8_1⟩ := cz2 BK126)); go_ret; exact ⟨me_, mb_ HB⟩
 ·rw [if_neg c3] at H; have c3b0 := cf_ c3; clear c3; obtain rfl := oi_ H; go_enter Tryz.func23, Tryz.ntmps23; go_wp2_with (first | ((with_reducible refine gate_dst (N := 3) rfl ?_); (try (refine gate_guard (by rfl) ?_; dsimp only)); refine bh_ 3 #[.int .i64 a1_0, .slice A1_1 l1_1.length c1_1] 31 HB ?_; intro gb126 hg w9 BK126 GE126 hb; replace HB := ms_ HB hb; clear hb hg; obtain ⟨z10_0, z10_1, zf10_0, zf10_1⟩ := cz2 BK126)); go_ret; exact ⟨me_, mb_ HB⟩
end Go.Proofs.YtejjlkbbnhpbdaaGreat.P
namespace Go.Proofs.YtejjlkbbnhpbdaaGreat.P
open Go.Proofs.YtejjlkbbnhpbdaaGreatX
open Go.RowKit Go.Proofs.YtejjlkbbnhpbdaaGreatW.PrintWords Go.Proofs.YtejjlkbbnhpbdaaGreatW.PrintLast Go.Proofs.YtejjlkbbnhpbdaaGreatW.PrintMore
attribute [local go_sem] max2_int min2_int max_two min_two max_three min_three max_four min_four
set_option linter.unusedVariables false
set_option linter.unusedSimpArgs false
theorem eqA80 (d : Nat) (w : World) (x0 y0 : Int) (x1 y1 : Int) (x2 y2 : Int) :
  (Op.equalIn (d + 2) 80 (.agg #[.int .i64 x0, .int .i64 x1, .int .i64 x2]) (.agg #[.int .i64 y0, .int .i64 y1, .int .i64 y2])).run Tryz.prog w = .ok (x0 == y0 && (x1 == y1 && (x2 == y2))) w := by
 refine eqA_of Tryz.underlying80 (by kernel_rfl) ?_; refine eqf_cons (by rfl) (by go_simp; rfl) (by go_simp; rfl) (by go_simp) ?_; refine eqf_cons (by rfl) (by go_simp; rfl) (by go_simp; rfl) (by go_simp) ?_; exact eqf_last (by rfl) (by go_simp; rfl) (by go_simp; rfl) (by go_simp)
end Go.Proofs.YtejjlkbbnhpbdaaGreat.P
namespace Go.Proofs.YtejjlkbbnhpbdaaGreat.P
open Go.Proofs.YtejjlkbbnhpbdaaGreatX
open Go.RowKit Go.Proofs.YtejjlkbbnhpbdaaGreatW.PrintWords Go.Proofs.YtejjlkbbnhpbdaaGreatW.PrintLast Go.Proofs.YtejjlkbbnhpbdaaGreatW.PrintMore
attribute [local go_sem] max2_int min2_int max_two min_two max_three min_three max_four min_four
set_option linter.unusedVariables false
set_option linter.unusedSimpArgs false
theorem eqA104 (d : Nat) (w : World) (x0 y0 : Int) (x1 y1 : Int) (x2 y2 : ByteArray) :
  (Op.equalIn (d + 2) 104 (.agg #[.int .i64 x0, .int .i64 x1, .string x2]) (.agg #[.int .i64 y0, .int .i64 y1, .string y2])).run Tryz.prog w = .ok (x0 == y0 && (x1 == y1 && (x2.toList == y2.toList))) w := by
 refine eqA_of Tryz.underlying104 (by kernel_rfl) ?_; refine eqf_cons (by rfl) (by go_simp; rfl) (by go_simp; rfl) (by go_simp) ?_; refine eqf_cons (by rfl) (by go_simp; rfl) (by go_simp; rfl) (by go_simp) ?_; exact eqf_last (by rfl) (by go_simp; rfl) (by go_simp; rfl) (by go_simp)
end Go.Proofs.YtejjlkbbnhpbdaaGreat.P
namespace Go.Proofs.YtejjlkbbnhpbdaaGreat.P
open Go.Proofs.YtejjlkbbnhpbdaaGreatX
open Go.RowKit Go.Proofs.YtejjlkbbnhpbdaaGreatW.PrintWords Go.Proofs.YtejjlkbbnhpbdaaGreatW.PrintLast Go.Proofs.YtejjlkbbnhpbdaaGreatW.PrintMore
attribute [local go_sem] max2_int min2_int max_two min_two max_three min_three max_four min_four
set_option linter.unusedVariables false
set_option linter.unusedSimpArgs false
attribute [local go_sem high] eqA104
mutual
def spec_l1GoodSym.j0 : Nat → ByteArray → Bool → Option (Bool)
 | 0, _, _ => none
 | k + 1, x0, x22 => if x22 = true then (some false) else (spec_l1GoodSym.l0 k x0 0)
def spec_l1GoodSym.l0 : Nat → ByteArray → Int → Option (Bool)
 | 0, _, _ => none
 | k + 1, x0, x3 => if x3 < (x0.size : Int) then (if 0 ≤ x3 then (if (bt x0 x3) ≥ 97 then (if (bt x0 x3) ≤ 122 then (spec_l1GoodSym.l0 k x0 (wrap64 (x3 + 1))) else (if (bt x0 x3) ≥ 48 then (if (bt x0 x3) ≤ 57 then (spec_l1GoodSym.l0 k x0 (wrap64 (x3 + 1))) else (if ((bt x0 x3) = 45) then (spec_l1GoodSym.l0 k x0 (wrap64 (x3 + 1))) else (some false))) else (if ((bt x0 x3) = 45) then (spec_l1GoodSym.l0 k x0 (wrap64 (x3 + 1))) else (some false)))) else (if (bt x0 x3) ≥ 48 then (if (bt x0 x3) ≤ 57 then (spec_l1GoodSym.l0 k x0 (wrap64 (x3 + 1))) else (if ((bt x0 x3) = 45) then (spec_l1GoodSym.l0 k x0 (wrap64 (x3 + 1))) else (some false))) else (if ((bt x0 x3) = 45) then (spec_l1GoodSym.l0 k x0 (wrap64 (x3 + 1))) else (some false)))) else (none)) else (some true)
end
def spec_l1GoodSym.f (k : Nat) (a0 : ByteArray) : Option (Bool) := if (a0.size : Int) < 1 then (spec_l1GoodSym.j0 k a0 true) else (if (a0.size : Int) > 20 then (spec_l1GoodSym.j0 k a0 true) else (if 0 < (a0.size : Int) then (if (bt a0 0) < 97 then (spec_l1GoodSym.j0 k a0 true) else (spec_l1GoodSym.j0 k a0 (decide ((bt a0 0) > 122)))) else (none)))
theorem spec_l1GoodSym.mono_l : ∀ k, (∀ y0 y1, LeO (spec_l1GoodSym.j0 k y0 y1) (spec_l1GoodSym.j0 (k + 1) y0 y1)) ∧ (∀ y0 y1, LeO (spec_l1GoodSym.l0 k y0 y1) (spec_l1GoodSym.l0 (k + 1) y0 y1))
 | 0 => ⟨fun _ _ r h => by simp [spec_l1GoodSym.j0] at h, fun _ _ r h => by simp [spec_l1GoodSym.l0] at h⟩
 | k + 1 => by
  obtain ⟨ih0, ih1⟩ := spec_l1GoodSym.mono_l k; refine ⟨?_, ?_⟩
  ·intro y0 y1; unfold spec_l1GoodSym.j0
   repeat' with_reducible first | apply ih0 | apply ih1 | apply LeO.refl | apply LeO.none | refine LeO.ite ?_ ?_ | refine LeO.bind ?_ (fun _ => ?_)
  ·intro y0 y1; unfold spec_l1GoodSym.l0
   repeat' with_reducible first | apply ih0 | apply ih1 | apply LeO.refl | apply LeO.none | refine LeO.ite ?_ ?_ | refine LeO.bind ?_ (fun _ => ?_)
theorem spec_l1GoodSym.mono : ∀ a0 k, LeO (spec_l1GoodSym.f k a0) (spec_l1GoodSym.f (k + 1) a0) := by
 intro a0 k; obtain ⟨ih0, ih1⟩ := spec_l1GoodSym.mono_l k; unfold spec_l1GoodSym.f
 repeat' with_reducible first | apply ih0 | apply ih1 | apply LeO.refl | apply LeO.none | refine LeO.ite ?_ ?_ | refine LeO.bind ?_ (fun _ => ?_)
set_option maxHeartbeats 8000000 in
set_option maxRecDepth 100000 in
theorem spec_l1GoodSym.calls (k : Nat) (a0 : ByteArray) (r : Bool) (w : World) (h : spec_l1GoodSym.f k a0 = some r) :
  Calls Tryz.prog 87 #[.string a0] w fun e w' => e = .returned (.bool r) ∧ Drawn0 w w' := by
 have H : (if (a0.size : Int) < 1 then (spec_l1GoodSym.j0 k a0 true) else (if (a0.size : Int) > 20 then (spec_l1GoodSym.j0 k a0 true) else (if 0 < (a0.size : Int) then (if (bt a0 0) < 97 then (spec_l1GoodSym.j0 k a0 true) else (spec_l1GoodSym.j0 k a0 (decide ((bt a0 0) > 122)))) else (none)))) = some r := h
 clear h; have HC2 := a_ H; clear H; go_enter Tryz.func87, Tryz.ntmps87; go_upto_region 1 with (fail); go_cut [22] (fun v22 wc => ∃ (kq : Nat) (x22_1 : Bool), v22 = .bool x22_1 ∧ Aside0 (spec_l1GoodSym.j0 kq a0 x22_1 = some r) ∧ Aside0 (kq ≤ k) ∧ Drawn0 w wc)
 case first =>
  have H := HC2.out; clear HC2; by_cases c3 : (a0.size : Int) < 1
  ·rw [if_pos c3] at H; have c3b0 := ct_ c3; have c3b1 : decide (a0.size < 1) = true := decide_eq_true (by omega)
   clear c3; (first | rw [c3b0] | (simp only [i64_w, i32_w]; rw [c3b0]) | skip); have H' := a_ H; clear H; go_wp2; go_meet
   case rel => exact ⟨_, (true), mq_, H', ⟨by first | omega | exact Nat.le_refl _⟩, by repeat (first | exact Drawn0.refl _ | apply Drawn0.step)⟩
  ·rw [if_neg c3] at H; have c3b0 := cf_ c3; have c3b1 : decide (a0.size < 1) = false := decide_eq_false (by omega)
   clear c3; (first | rw [c3b0] | (simp only [i64_w, i32_w]; rw [c3b0]) | skip); by_cases c4 : (a0.size : Int) > 20
   ·rw [if_pos c4] at H; have c4b0 := ct_ c4; have c4b1 : decide (20 < a0.size) = true := decide_eq_true (by omega)
    clear c4; have H' := a_ H; clear H; go_wp2; go_meet
    case rel => exact ⟨_, (true), mq_, H', ⟨by first | omega | exact Nat.le_refl _⟩, by repeat (first | exact Drawn0.refl _ | apply Drawn0.step)⟩
   ·rw [if_neg c4] at H; have c4b0 := cf_ c4; have c4b1 : decide (20 < a0.size) = false := decide_eq_false (by omega)
    clear c4; by_cases c5 : 0 < (a0.size : Int)
    case neg => rw [if_neg c5] at H; cases H
    rw [if_pos c5] at H; have c5b0 := ct_ c5; have c5b1 : decide (0 < a0.size) = true := decide_eq_true (by omega)
    clear c5; by_cases c7 : (bt a0 0) < 97
    ·rw [if_pos c7] at H; have c7b0 := ct_ c7; clear c7; have H' := a_ H; clear H; have p6 : 0 ≤ (0 : Int) := (by omega)
     have q6 : 0 < a0.size := (by have : (0 : Int) < (a0.size : Int) := md_; omega)
     have hx6 : ∀ h : 0 < a0.size, ((a0[0]'h).toNat : Int) = bt a0 0 := bt_at a0 0
     clear p6; have qi6 : (0 < (a0.size : Int)) = True := eq_true (md_)
     replace q6 := eq_true q6; go_wp2; go_meet
     case rel => exact ⟨_, (true), mq_, H', ⟨by first | omega | exact Nat.le_refl _⟩, by repeat (first | exact Drawn0.refl _ | apply Drawn0.step)⟩
    ·rw [if_neg c7] at H; have c7b0 := cf_ c7; clear c7; have H' := a_ H; clear H; have p6 : 0 ≤ (0 : Int) := (by omega)
     have q6 : 0 < a0.size := (by have : (0 : Int) < (a0.size : Int) := md_; omega)
     have hx6 : ∀ h : 0 < a0.size, ((a0[0]'h).toNat : Int) = bt a0 0 := bt_at a0 0
     clear p6; have qi6 : (0 < (a0.size : Int)) = True := eq_true (md_)
     replace q6 := eq_true q6; have p8 : 0 ≤ (0 : Int) := (by omega)
     have q8 : 0 < a0.size := (by have : (0 : Int) < (a0.size : Int) := md_; omega)
     have hx8 : ∀ h : 0 < a0.size, ((a0[0]'h).toNat : Int) = bt a0 0 := bt_at a0 0
     clear p8; have qi8 : (0 < (a0.size : Int)) = True := eq_true (md_)
     replace q8 := eq_true q8; go_wp2; go_meet
     case rel => exact ⟨_, (decide ((bt a0 0) > 122)), mq_, H', ⟨by first | omega | exact Nat.le_refl _⟩, by repeat (first | exact Drawn0.refl _ | apply Drawn0.step)⟩
 clear HC2; obtain ⟨kq, x22_1, rfl, HA, HJ1, ⟨mc1, rfl⟩⟩ := hcut; obtain _ | kj1 := kq
 ·exact absurd HA.out (by simp [spec_l1GoodSym.j0])
 have H := HA.out; clear HA; simp only [spec_l1GoodSym.j0] at H; by_cases c9 : x22_1 = true
 ·subst c9; rw [if_pos rfl] at H; obtain rfl := oi_ H; go_wp2; go_ret; exact ⟨by first | rfl | (simp; done) | (simp [*]; done), by repeat (first | exact Drawn0.refl _ | apply Drawn0.step)⟩
 ·replace c9 := Bool.eq_false_iff.mpr c9; subst c9; rw [if_neg (show ¬ (false = true) by decide)] at H; have H' := a_ H; clear H; go_wp2; go_loopg [3] kj1 (fun kq v3 w' => ∃ (x3_2 : Int), v3 = .int .i64 x3_2 ∧ Aside0 (spec_l1GoodSym.l0 kq a0 x3_2 = some r) ∧ Aside0 (kq ≤ kj1) ∧ Drawn0 w w')
  case atStart => exact ⟨(0), mq_, H', ⟨Nat.le_refl _⟩, by repeat (first | exact Drawn0.refl _ | apply Drawn0.step)⟩
  clear H'; (try clear c9); obtain ⟨x3_2, rfl, HA, HK2, ⟨m2, rfl⟩⟩ := hrel; obtain _ | k2 := gk
  ·exact absurd HA.out (by simp [spec_l1GoodSym.l0])
  have H := HA.out; clear HA; simp only [spec_l1GoodSym.l0] at H; by_cases c10 : x3_2 < (a0.size : Int)
  ·rw [if_pos c10] at H; have c10b0 := ct_ c10; clear c10; by_cases c11 : 0 ≤ x3_2
   case neg => rw [if_neg c11] at H; cases H
   rw [if_pos c11] at H; have c11b0 := ct_ c11; clear c11; by_cases c13 : (bt a0 x3_2) ≥ 97
   ·rw [if_pos c13] at H; have c13b0 := ct_ c13; clear c13; by_cases c14 : (bt a0 x3_2) ≤ 122
    ·rw [if_pos c14] at H; have c14b0 := ct_ c14; clear c14; have H' := a_ H; clear H; have p12 : 0 ≤ (x3_2 : Int) := md_
     have q12 : x3_2 < (a0.size : Int) := md_
     have hx12 := bt_at a0 x3_2; replace p12 := eq_true p12; replace q12 := eq_true q12; go_wp2; go_roundg k2
     case measure => have := HJ1.out; have := HK2.out; omega
     case rel => exact ⟨(wrap64 (x3_2 + 1)), mq_, H', ⟨by have := HJ1.out; have := HK2.out; omega⟩, by repeat (first | exact Drawn0.refl _ | apply Drawn0.step)⟩
    ·rw [if_neg c14] at H; have c14b0 := cf_ c14; clear c14; by_cases c15 : (bt a0 x3_2) ≥ 48
     ·rw [if_pos c15] at H; have c15b0 := ct_ c15; clear c15; by_cases c16 : (bt a0 x3_2) ≤ 57
      ·rw [if_pos c16] at H; have c16b0 := ct_ c16; clear c16; have H' := a_ H; clear H; have p12 : 0 ≤ (x3_2 : Int) := md_
       have q12 : x3_2 < (a0.size : Int) := md_
       have hx12 := bt_at a0 x3_2; replace p12 := eq_true p12; replace q12 := eq_true q12; go_wp2; go_roundg k2
       case measure => have := HJ1.out; have := HK2.out; omega
       case rel => exact ⟨(wrap64 (x3_2 + 1)), mq_, H', ⟨by have := HJ1.out; have := HK2.out; omega⟩, by repeat (first | exact Drawn0.refl _ | apply Drawn0.step)⟩
      ·rw [if_neg c16] at H; have c16b0 := cf_ c16; clear c16; by_cases c17 : ((bt a0 x3_2) = 45)
       ·rw [if_pos c17] at H; obtain ⟨c17b0, c17b1⟩ := bq_ c17; clear c17; have H' := a_ H; clear H; have p12 : 0 ≤ (x3_2 : Int) := md_
        have q12 : x3_2 < (a0.size : Int) := md_
        have hx12 := bt_at a0 x3_2; replace p12 := eq_true p12; replace q12 := eq_true q12; go_wp2; go_roundg k2
        case measure => have := HJ1.out; have := HK2.out; omega
        case rel => exact ⟨(wrap64 (x3_2 + 1)), mq_, H', ⟨by have := HJ1.out; have := HK2.out; omega⟩, by repeat (first | exact Drawn0.refl _ | apply Drawn0.step)⟩
       ·rw [if_neg c17] at H; obtain ⟨c17b0, c17b1⟩ := bn_ c17; obtain rfl := oi_ H; have p12 : 0 ≤ (x3_2 : Int) := md_
        have q12 : x3_2 < (a0.size : Int) := md_
        have hx12 := bt_at a0 x3_2; replace p12 := eq_true p12; replace q12 := eq_true q12; go_wp2; go_ret; exact ⟨by first | rfl | (simp; done) | (simp [*]; done), by repeat (first | exact Drawn0.refl _ | apply Drawn0.step)⟩
     ·rw [if_neg c15] at H; have c15b0 := cf_ c15; clear c15; by_cases c18 : ((bt a0 x3_2) = 45)
      ·rw [if_pos c18] at H; obtain ⟨c18b0, c18b1⟩ := bq_ c18; clear c18; have H' := a_ H; clear H; have p12 : 0 ≤ (x3_2 : Int) := md_
       have q12 : x3_2 < (a0.size : Int) := md_
       have hx12 := bt_at a0 x3_2; replace p12 := eq_true p12; replace q12 := eq_true q12; go_wp2; go_roundg k2
       case measure => have := HJ1.out; have := HK2.out; omega
       case rel => exact ⟨(wrap64 (x3_2 + 1)), mq_, H', ⟨by have := HJ1.out; have := HK2.out; omega⟩, by repeat (first | exact Drawn0.refl _ | apply Drawn0.step)⟩
      ·rw [if_neg c18] at H; obtain ⟨c18b0, c18b1⟩ := bn_ c18; obtain rfl := oi_ H; have p12 : 0 ≤ (x3_2 : Int) := md_
       have q12 : x3_2 < (a0.size : Int) := md_
       have hx12 := bt_at a0 x3_2; replace p12 := eq_true p12; replace q12 := eq_true q12; go_wp2; go_ret; exact ⟨by first | rfl | (simp; done) | (simp [*]; done), by repeat (first | exact Drawn0.refl _ | apply Drawn0.step)⟩
   ·rw [if_neg c13] at H; have c13b0 := cf_ c13; clear c13; by_cases c19 : (bt a0 x3_2) ≥ 48
    ·rw [if_pos c19] at H; have c19b0 := ct_ c19; clear c19; by_cases c20 : (bt a0 x3_2) ≤ 57
     ·rw [if_pos c20] at H; have c20b0 := ct_ c20; clear c20; have H' := a_ H; clear H; have p12 : 0 ≤ (x3_2 : Int) := md_
      have q12 : x3_2 < (a0.size : Int) := md_
      have hx12 := bt_at a0 x3_2; replace p12 := eq_true p12; replace q12 := eq_true q12; go_wp2; go_roundg k2
      case measure => have := HJ1.out; have := HK2.out; omega
      case rel => exact ⟨(wrap64 (x3_2 + 1)), mq_, H', ⟨by have := HJ1.out; have := HK2.out; omega⟩, by repeat (first | exact Drawn0.refl _ | apply Drawn0.step)⟩
     ·rw [if_neg c20] at H; have c20b0 := cf_ c20; clear c20; by_cases c21 : ((bt a0 x3_2) = 45)
      ·rw [if_pos c21] at H; obtain ⟨c21b0, c21b1⟩ := bq_ c21; clear c21; have H' := a_ H; clear H; have p12 : 0 ≤ (x3_2 : Int) := md_
       have q12 : x3_2 < (a0.size : Int) := md_
       have hx12 := bt_at a0 x3_2; replace p12 := eq_true p12; replace q12 := eq_true q12; go_wp2; go_roundg k2
       case measure => have := HJ1.out; have := HK2.out; omega
       case rel => exact ⟨(wrap64 (x3_2 + 1)), mq_, H', ⟨by have := HJ1.out; have := HK2.out; omega⟩, by repeat (first | exact Drawn0.refl _ | apply Drawn0.step)⟩
      ·rw [if_neg c21] at H; obtain ⟨c21b0, c21b1⟩ := bn_ c21; obtain rfl := oi_ H; have p12 : 0 ≤ (x3_2 : Int) := md_
       have q12 : x3_2 < (a0.size : Int) := md_
       have hx12 := bt_at a0 x3_2; replace p12 := eq_true p12; replace q12 := eq_true q12; go_wp2; go_ret; exact ⟨by first | rfl | (simp; done) | (simp [*]; done), by repeat (first | exact Drawn0.refl _ | apply Drawn0.step)⟩
    ·rw [if_neg c19] at H; have c19b0 := cf_ c19; clear c19; by_cases c22 : ((bt a0 x3_2) = 45)
     ·rw [if_pos c22] at H; obtain ⟨c22b0, c22b1⟩ := bq_ c22; clear c22; have H' := a_ H; clear H; have p12 : 0 ≤ (x3_2 : Int) := md_
      have q12 : x3_2 < (a0.size : Int) := md_
      have hx12 := bt_at a0 x3_2; replace p12 := eq_true p12; replace q12 := eq_true q12; go_wp2; go_roundg k2
      case measure => have := HJ1.out; have := HK2.out; omega
      case rel => exact ⟨(wrap64 (x3_2 + 1)), mq_, H', ⟨by have := HJ1.out; have := HK2.out; omega⟩, by repeat (first | exact Drawn0.refl _ | apply Drawn0.step)⟩
     ·rw [if_neg c22] at H; obtain ⟨c22b0, c22b1⟩ := bn_ c22; obtain rfl := oi_ H; have p12 : 0 ≤ (x3_2 : Int) := md_
      have q12 : x3_2 < (a0.size : Int) := md_
      have hx12 := bt_at a0 x3_2; replace p12 := eq_true p12; replace q12 := eq_true q12; go_wp2; go_ret; exact ⟨by first | rfl | (simp; done) | (simp [*]; done), by repeat (first | exact Drawn0.refl _ | apply Drawn0.step)⟩
  ·rw [if_neg c10] at H; have c10b0 := cf_ c10; clear c10; obtain rfl := oi_ H; go_wp2; go_ret; exact ⟨by first | rfl | (simp; done) | (simp [*]; done), by repeat (first | exact Drawn0.refl _ | apply Drawn0.step)⟩
def spec_l2GoodCls.f (k : Nat) (a0 : ByteArray) : Option (Bool) := (spec_l1GoodSym.f k a0).bind fun t127 => (if t127 = true then (some (a0.toList != ([110, 111, 116] : List UInt8))) else (some false))
theorem spec_l2GoodCls.mono : ∀ a0 k, LeO (spec_l2GoodCls.f k a0) (spec_l2GoodCls.f (k + 1) a0) := by
 intro a0 k; unfold spec_l2GoodCls.f
 repeat' with_reducible first | apply spec_l1GoodSym.mono | apply LeO.refl | apply LeO.none | refine LeO.ite ?_ ?_ | refine LeO.bind ?_ (fun _ => ?_)
set_option maxHeartbeats 8000000 in
set_option maxRecDepth 100000 in
theorem spec_l2GoodCls.calls (k : Nat) (a0 : ByteArray) (r : Bool) (w : World) (h : spec_l2GoodCls.f k a0 = some r) :
  Calls Tryz.prog 105 #[.string a0] w fun e w' => e = .returned (.bool r) ∧ Drawn0 w w' := by
 have H : ((spec_l1GoodSym.f k a0).bind fun t127 => (if t127 = true then (some (a0.toList != ([110, 111, 116] : List UInt8))) else (some false))) = some r := h
 clear h; obtain ⟨t127, A2, H⟩ := ob_ H; by_cases c3 : t127 = true
 ·subst c3; rw [if_pos rfl] at H; obtain rfl := oi_ H; go_enter Tryz.func105, Tryz.ntmps105; go_wp2_with (first | ((with_reducible refine gate_callee (f := 87) rfl ?_); refine goesL_ (some 4) rfl rfl Tryz.func87 (by kernel_rfl) rfl #[.string a0] rfl mw_ ?_; (with_reducible refine (spec_l1GoodSym.calls k a0 true _ A2.out).mono ?_); rintro e w' ⟨rfl, ⟨nd, rfl⟩⟩; refine ⟨_, rfl, ?_⟩)); go_ret; exact ⟨by first | rfl | (simp; done) | (simp [*]; done), by repeat (first | exact Drawn0.refl _ | apply Drawn0.step)⟩
 ·replace c3 := Bool.eq_false_iff.mpr c3; subst c3; rw [if_neg (show ¬ (false = true) by decide)] at H; obtain rfl := oi_ H; go_enter Tryz.func105, Tryz.ntmps105; go_wp2_with (first | ((with_reducible refine gate_callee (f := 87) rfl ?_); refine goesL_ (some 4) rfl rfl Tryz.func87 (by kernel_rfl) rfl #[.string a0] rfl mw_ ?_; (with_reducible refine (spec_l1GoodSym.calls k a0 false _ A2.out).mono ?_); rintro e w' ⟨rfl, ⟨nd, rfl⟩⟩; refine ⟨_, rfl, ?_⟩)); go_ret; exact ⟨by first | rfl | (simp; done) | (simp [*]; done), by repeat (first | exact Drawn0.refl _ | apply Drawn0.step)⟩
def spec_l1GoodVal.f (k : Nat) (a0_0 : Int) (a0_1 : Int) (a0_2 : ByteArray) : Option (Bool) := if a0_0 = 0 then (if a0_2.toList = ([] : List UInt8) then (some true) else (if a0_0 = 1 then (if a0_1 = 0 then ((spec_l1GoodSym.f k a0_2).bind fun t129 => (some t129)) else (some false)) else (some false))) else (if a0_0 = 1 then (if a0_1 = 0 then ((spec_l1GoodSym.f k a0_2).bind fun t130 => (some t130)) else (some false)) else (some false))
theorem spec_l1GoodVal.mono : ∀ a0 a1 a2 k, LeO (spec_l1GoodVal.f k a0 a1 a2) (spec_l1GoodVal.f (k + 1) a0 a1 a2) := by
 intro a0 a1 a2 k; unfold spec_l1GoodVal.f
 repeat' with_reducible first | apply spec_l1GoodSym.mono | apply LeO.refl | apply LeO.none | refine LeO.ite ?_ ?_ | refine LeO.bind ?_ (fun _ => ?_)
set_option maxHeartbeats 8000000 in
set_option maxRecDepth 100000 in
theorem spec_l1GoodVal.calls (k : Nat) (a0_0 : Int) (a0_1 : Int) (a0_2 : ByteArray) (r : Bool) (w : World) (h : spec_l1GoodVal.f k a0_0 a0_1 a0_2 = some r) :
  Calls Tryz.prog 107 #[.agg #[.int .i64 a0_0, .int .i64 a0_1, .string a0_2]] w fun e w' => e = .returned (.bool r) ∧ Below w.heap.size w w' := by
 have hu104 := Tryz.underlying104; have HB := a_ (Below.refl w.heap.size w); have H : (if a0_0 = 0 then (if a0_2.toList = ([] : List UInt8) then (some true) else (if a0_0 = 1 then (if a0_1 = 0 then ((spec_l1GoodSym.f k a0_2).bind fun t129 => (some t129)) else (some false)) else (some false))) else (if a0_0 = 1 then (if a0_1 = 0 then ((spec_l1GoodSym.f k a0_2).bind fun t130 => (some t130)) else (some false)) else (some false))) = some r := h
 clear h; by_cases c2 : a0_0 = 0
 ·rw [if_pos c2] at H; obtain ⟨c2b0, c2b1⟩ := bq_ c2; clear c2; by_cases c3 : a0_2.toList = ([] : List UInt8)
  ·rw [if_pos c3] at H; obtain ⟨c3b0, c3b1⟩ := bq_ c3; clear c3; obtain rfl := oi_ H; go_enter Tryz.func107, Tryz.ntmps107; go_wp2_with (first | ((with_reducible refine gate_dst (N := 1) rfl ?_); refine bh_ 1 #[.int .i64 a0_0, .int .i64 a0_1, .string a0_2] 104 HB ?_; intro gb128 hg w4 BK128 GE128 hb; replace HB := ms_ HB hb; clear hb hg; obtain ⟨z5_0, z5_1, z5_2, zf5_0, zf5_1, zf5_2⟩ := cz3 BK128)); go_ret; exact ⟨me_, mb_ HB⟩
  ·rw [if_neg c3] at H; obtain ⟨c3b0, c3b1⟩ := bn_ c3; by_cases c6 : a0_0 = 1
   ·rw [if_pos c6] at H; obtain ⟨c6b0, c6b1⟩ := bq_ c6; clear c6; by_cases c7 : a0_1 = 0
    ·rw [if_pos c7] at H; obtain ⟨c7b0, c7b1⟩ := bq_ c7; clear c7; obtain ⟨t129, A8, H⟩ := ob_ H; obtain rfl := oi_ H; go_enter Tryz.func107, Tryz.ntmps107; go_wp2_with (first | ((with_reducible refine gate_dst (N := 1) rfl ?_); refine bh_ 1 #[.int .i64 a0_0, .int .i64 a0_1, .string a0_2] 104 HB ?_; intro gb128 hg w9 BK128 GE128 hb; replace HB := ms_ HB hb; clear hb hg; obtain ⟨z10_0, z10_1, z10_2, zf10_0, zf10_1, zf10_2⟩ := cz3 BK128) | (go_at_call 87; (with_reducible refine (spec_l1GoodSym.calls k a0_2 t129 _ A8.out).mono ?_); rintro e w' ⟨rfl, ⟨nd, rfl⟩⟩)); go_ret; exact ⟨me_, mb_ HB⟩
    ·rw [if_neg c7] at H; obtain ⟨c7b0, c7b1⟩ := bn_ c7; obtain rfl := oi_ H; go_enter Tryz.func107, Tryz.ntmps107; go_wp2_with (first | ((with_reducible refine gate_dst (N := 1) rfl ?_); refine bh_ 1 #[.int .i64 a0_0, .int .i64 a0_1, .string a0_2] 104 HB ?_; intro gb128 hg w11 BK128 GE128 hb; replace HB := ms_ HB hb; clear hb hg; obtain ⟨z12_0, z12_1, z12_2, zf12_0, zf12_1, zf12_2⟩ := cz3 BK128)); go_ret; exact ⟨me_, mb_ HB⟩
   ·rw [if_neg c6] at H; obtain ⟨c6b0, c6b1⟩ := bn_ c6; obtain rfl := oi_ H; go_enter Tryz.func107, Tryz.ntmps107; go_wp2_with (first | ((with_reducible refine gate_dst (N := 1) rfl ?_); refine bh_ 1 #[.int .i64 a0_0, .int .i64 a0_1, .string a0_2] 104 HB ?_; intro gb128 hg w13 BK128 GE128 hb; replace HB := ms_ HB hb; clear hb hg; obtain ⟨z14_0, z14_1, z14_2, zf14_0, zf14_1, zf14_2⟩ := cz3 BK128)); go_ret; exact ⟨me_, mb_ HB⟩
 ·rw [if_neg c2] at H; obtain ⟨c2b0, c2b1⟩ := bn_ c2; by_cases c15 : a0_0 = 1
  ·rw [if_pos c15] at H; obtain ⟨c15b0, c15b1⟩ := bq_ c15; clear c15; by_cases c16 : a0_1 = 0
   ·rw [if_pos c16] at H; obtain ⟨c16b0, c16b1⟩ := bq_ c16; clear c16; obtain ⟨t130, A17, H⟩ := ob_ H; obtain rfl := oi_ H; go_enter Tryz.func107, Tryz.ntmps107; go_wp2_with (first | ((with_reducible refine gate_dst (N := 1) rfl ?_); refine bh_ 1 #[.int .i64 a0_0, .int .i64 a0_1, .string a0_2] 104 HB ?_; intro gb128 hg w18 BK128 GE128 hb; replace HB := ms_ HB hb; clear hb hg; obtain ⟨z19_0, z19_1, z19_2, zf19_0, zf19_1, zf19_2⟩ := cz3 BK128) | (go_at_call 87; (with_reducible refine (spec_l1GoodSym.calls k a0_2 t130 _ A17.out).mono ?_); rintro e w' ⟨rfl, ⟨nd, rfl⟩⟩)); go_ret; exact ⟨me_, mb_ HB⟩
   ·rw [if_neg c16] at H; obtain ⟨c16b0, c16b1⟩ := bn_ c16; obtain rfl := oi_ H; go_enter Tryz.func107, Tryz.ntmps107; go_wp2_with (first | ((with_reducible refine gate_dst (N := 1) rfl ?_); refine bh_ 1 #[.int .i64 a0_0, .int .i64 a0_1, .string a0_2] 104 HB ?_; intro gb128 hg w20 BK128 GE128 hb; replace HB := ms_ HB hb; clear hb hg; obtain ⟨z21_0, z21_1, z21_2, zf21_0, zf21_1, zf21_2⟩ := cz3 BK128)); go_ret; exact ⟨me_, mb_ HB⟩
  ·rw [if_neg c15] at H; obtain ⟨c15b0, c15b1⟩ := bn_ c15; obtain rfl := oi_ H; go_enter Tryz.func107, Tryz.ntmps107; go_wp2_with (first | ((with_reducible refine gate_dst (N := 1) rfl ?_); refine bh_ 1 #[.int .i64 a0_0, .int .i64 a0_1, .string a0_2] 104 HB ?_; intro gb128 hg w22 BK128 GE128 hb; replace HB := ms_ HB hb; clear hb hg; obtain ⟨z23_0, z23_1, z23_2, zf23_0, zf23_1, zf23_2⟩ := cz3 BK128)); go_ret; exact ⟨me_, mb_ HB⟩
def spec_l2Zero.f (a0_0 : Int) (a0_1 : Int) (a0_2 : ByteArray) : Option (Bool) := some (a0_0 == 0 && (a0_1 == 0 && (a0_2.toList == ([] : List UInt8))))
set_option maxHeartbeats 8000000 in
set_option maxRecDepth 100000 in
theorem spec_l2Zero.calls (a0_0 : Int) (a0_1 : Int) (a0_2 : ByteArray) (r : Bool) (w : World) (h : spec_l2Zero.f a0_0 a0_1 a0_2 = some r) :
  Calls Tryz.prog 108 #[.agg #[.int .i64 a0_0, .int .i64 a0_1, .string a0_2]] w fun e w' => e = .returned (.bool r) ∧ Below w.heap.size w w' := by
 have hu104 := Tryz.underlying104; have HB := a_ (Below.refl w.heap.size w); have H : (some (a0_0 == 0 && (a0_1 == 0 && (a0_2.toList == ([] : List UInt8))))) = some r := h
 clear h; obtain rfl := oi_ H; go_enter Tryz.func108, Tryz.ntmps108; go_wp2_with (first | ((with_reducible refine gate_dst (N := 1) rfl ?_); refine bh_ 1 #[.int .i64 a0_0, .int .i64 a0_1, .string a0_2] 104 HB ?_; intro gb131 hg w2 BK131 GE131 hb; replace HB := ms_ HB hb; clear hb hg; obtain ⟨z3_0, z3_1, z3_2, zf3_0, zf3_1, zf3_2⟩ := cz3 BK131)); go_ret; exact ⟨me_, mb_ HB⟩
end Go.Proofs.YtejjlkbbnhpbdaaGreat.P
namespace Go.Proofs.YtejjlkbbnhpbdaaGreat.P
open Go.Proofs.YtejjlkbbnhpbdaaGreatX
open Go.RowKit Go.Proofs.YtejjlkbbnhpbdaaGreatW.PrintWords Go.Proofs.YtejjlkbbnhpbdaaGreatW.PrintLast Go.Proofs.YtejjlkbbnhpbdaaGreatW.PrintMore
attribute [local go_sem] max2_int min2_int max_two min_two max_three min_three max_four min_four
set_option linter.unusedVariables false
set_option linter.unusedSimpArgs false
def spec_l2GoodTerm.f (k : Nat) (a0_0 : Int) (a0_1 : Int) (a0_2 : ByteArray) (a0_3 : Int) (a0_4 : Int) (a0_5 : ByteArray) : Option (Bool) := if a0_0 = 0 then (if a0_1 = 0 then (if a0_2.toList = ([] : List UInt8) then ((spec_l2Zero.f a0_3 a0_4 a0_5).bind fun t133 => (some t133)) else (some false)) else (some false)) else (if a0_0 = 1 then (if a0_1 = 0 then (if a0_2.toList = ([] : List UInt8) then ((spec_l1GoodVal.f k a0_3 a0_4 a0_5).bind fun t134 => (some t134)) else (some false)) else (some false)) else (if a0_0 = 2 then (if a0_1 = 0 then ((spec_l1GoodSym.f k a0_2).bind fun t135 => (if t135 = true then ((spec_l2Zero.f a0_3 a0_4 a0_5).bind fun t136 => (some t136)) else (some false))) else (some false)) else (if a0_0 = 3 then (if a0_1 ≥ 1 then (if a0_1 ≤ 6 then (if a0_2.toList = ([] : List UInt8) then ((spec_l1GoodVal.f k a0_3 a0_4 a0_5).bind fun t137 => (if t137 = true then (some true) else ((spec_l1GoodSym.f k a0_2).bind fun t138 => (if t138 = true then ((spec_l2Zero.f a0_3 a0_4 a0_5).bind fun t139 => (some t139)) else (some false))))) else ((spec_l1GoodSym.f k a0_2).bind fun t140 => (if t140 = true then ((spec_l2Zero.f a0_3 a0_4 a0_5).bind fun t141 => (some t141)) else (some false)))) else (some false)) else (some false)) else (some false))))
theorem spec_l2GoodTerm.mono : ∀ a0 a1 a2 a3 a4 a5 k, LeO (spec_l2GoodTerm.f k a0 a1 a2 a3 a4 a5) (spec_l2GoodTerm.f (k + 1) a0 a1 a2 a3 a4 a5) := by
 intro a0 a1 a2 a3 a4 a5 k; unfold spec_l2GoodTerm.f
 repeat' with_reducible first | apply spec_l1GoodSym.mono | apply spec_l1GoodVal.mono | apply LeO.refl | apply LeO.none | refine LeO.ite ?_ ?_ | refine LeO.bind ?_ (fun _ => ?_)
set_option maxHeartbeats 8000000 in
set_option maxRecDepth 100000 in
theorem spec_l2GoodTerm.calls (k : Nat) (a0_0 : Int) (a0_1 : Int) (a0_2 : ByteArray) (a0_3 : Int) (a0_4 : Int) (a0_5 : ByteArray) (r : Bool) (w : World) (h : spec_l2GoodTerm.f k a0_0 a0_1 a0_2 a0_3 a0_4 a0_5 = some r) :
  Calls Tryz.prog 106 #[.agg #[.int .i64 a0_0, .int .i64 a0_1, .string a0_2, .int .i64 a0_3, .int .i64 a0_4, .string a0_5]] w fun e w' => e = .returned (.bool r) ∧ Below w.heap.size w w' := by
 have hu134 := Tryz.underlying134; have hu104 := Tryz.underlying104; have HB := a_ (Below.refl w.heap.size w); have H : (if a0_0 = 0 then (if a0_1 = 0 then (if a0_2.toList = ([] : List UInt8) then ((spec_l2Zero.f a0_3 a0_4 a0_5).bind fun t133 => (some t133)) else (some false)) else (some false)) else (if a0_0 = 1 then (if a0_1 = 0 then (if a0_2.toList = ([] : List UInt8) then ((spec_l1GoodVal.f k a0_3 a0_4 a0_5).bind fun t134 => (some t134)) else (some false)) else (some false)) else (if a0_0 = 2 then (if a0_1 = 0 then ((spec_l1GoodSym.f k a0_2).bind fun t135 => (if t135 = true then ((spec_l2Zero.f a0_3 a0_4 a0_5).bind fun t136 => (some t136)) else (some false))) else (some false)) else (if a0_0 = 3 then (if a0_1 ≥ 1 then (if a0_1 ≤ 6 then (if a0_2.toList = ([] : List UInt8) then ((spec_l1GoodVal.f k a0_3 a0_4 a0_5).bind fun t137 => (if t137 = true then (some true) else ((spec_l1GoodSym.f k a0_2).bind fun t138 => (if t138 = true then ((spec_l2Zero.f a0_3 a0_4 a0_5).bind fun t139 => (some t139)) else (some false))))) else ((spec_l1GoodSym.f k a0_2).bind fun t140 => (if t140 = true then ((spec_l2Zero.f a0_3 a0_4 a0_5).bind fun t141 => (some t141)) else (some false)))) else (some false)) else (some false)) else (some false))))) = some r := h
 clear h; by_cases c2 : a0_0 = 0
 ·rw [if_pos c2] at H; obtain ⟨c2b0, c2b1⟩ := bq_ c2; clear c2; by_cases c3 : a0_1 = 0
  ·rw [if_pos c3] at H; obtain ⟨c3b0, c3b1⟩ := bq_ c3; clear c3; by_cases c4 : a0_2.toList = ([] : List UInt8)
   ·rw [if_pos c4] at H; obtain ⟨c4b0, c4b1⟩ := bq_ c4; clear c4; obtain ⟨t133, A5, H⟩ := ob_ H; obtain rfl := oi_ H; go_enter Tryz.func106, Tryz.ntmps106; go_wp2_with (first | ((with_reducible refine gate_dst (N := 1) rfl ?_); refine bh_ 1 #[.int .i64 a0_0, .int .i64 a0_1, .string a0_2, .int .i64 a0_3, .int .i64 a0_4, .string a0_5] 134 HB ?_; intro gb132 hg w6 BK132 GE132 hb; replace HB := ms_ HB hb; clear hb hg; obtain ⟨z7_0, z7_1, z7_2, z7_3, z7_4, z7_5, zf7_0, zf7_1, zf7_2, zf7_3, zf7_4, zf7_5⟩ := cz6 BK132) | (go_at_call 108; (with_reducible refine (spec_l2Zero.calls a0_3 a0_4 a0_5 t133 _ A5.out).mono ?_); rintro e w8 ⟨rfl, hb⟩; replace BK132 := mk_ BK132 hb; replace HB := ms_ HB hb; (try clear hb))); go_ret; exact ⟨me_, mb_ HB⟩
   ·rw [if_neg c4] at H; obtain ⟨c4b0, c4b1⟩ := bn_ c4; obtain rfl := oi_ H; go_enter Tryz.func106, Tryz.ntmps106; go_wp2_with (first | ((with_reducible refine gate_dst (N := 1) rfl ?_); refine bh_ 1 #[.int .i64 a0_0, .int .i64 a0_1, .string a0_2, .int .i64 a0_3, .int .i64 a0_4, .string a0_5] 134 HB ?_; intro gb132 hg w9 BK132 GE132 hb; replace HB := ms_ HB hb; clear hb hg; obtain ⟨z10_0, z10_1, z10_2, z10_3, z10_4, z10_5, zf10_0, zf10_1, zf10_2, zf10_3, zf10_4, zf10_5⟩ := cz6 BK132)); go_ret; exact ⟨me_, mb_ HB⟩
  ·rw [if_neg c3] at H; obtain ⟨c3b0, c3b1⟩ := bn_ c3; obtain rfl := oi_ H; go_enter Tryz.func106, Tryz.ntmps106; go_wp2_with (first | ((with_reducible refine gate_dst (N := 1) rfl ?_); refine bh_ 1 #[.int .i64 a0_0, .int .i64 a0_1, .string a0_2, .int .i64 a0_3, .int .i64 a0_4, .string a0_5] 134 HB ?_; intro gb132 hg w11 BK132 GE132 hb; replace HB := ms_ HB hb; clear hb hg; obtain ⟨z12_0, z12_1, z12_2, z12_3, z12_4, z12_5, zf12_0, zf12_1, zf12_2, zf12_3, zf12_4, zf12_5⟩ := cz6 BK132)); go_ret; exact ⟨me_, mb_ HB⟩
 ·rw [if_neg c2] at H; obtain ⟨c2b0, c2b1⟩ := bn_ c2; by_cases c13 : a0_0 = 1
  ·rw [if_pos c13] at H; obtain ⟨c13b0, c13b1⟩ := bq_ c13; clear c13; by_cases c14 : a0_1 = 0
   ·rw [if_pos c14] at H; obtain ⟨c14b0, c14b1⟩ := bq_ c14; clear c14; by_cases c15 : a0_2.toList = ([] : List UInt8)
    ·rw [if_pos c15] at H; obtain ⟨c15b0, c15b1⟩ := bq_ c15; clear c15; obtain ⟨t134, A16, H⟩ := ob_ H; obtain rfl := oi_ H; go_enter Tryz.func106, Tryz.ntmps106; go_wp2_with (first | ((with_reducible refine gate_dst (N := 1) rfl ?_); refine bh_ 1 #[.int .i64 a0_0, .int .i64 a0_1, .string a0_2, .int .i64 a0_3, .int .i64 a0_4, .string a0_5] 134 HB ?_; intro gb132 hg w17 BK132 GE132 hb; replace HB := ms_ HB hb; clear hb hg; obtain ⟨z18_0, z18_1, z18_2, z18_3, z18_4, z18_5, zf18_0, zf18_1, zf18_2, zf18_3, zf18_4, zf18_5⟩ := cz6 BK132) | (go_at_call 107; (with_reducible refine (spec_l1GoodVal.calls k a0_3 a0_4 a0_5 t134 _ A16.out).mono ?_); rintro e w19 ⟨rfl, hb⟩; replace BK132 := mk_ BK132 hb; replace HB := ms_ HB hb; (try clear hb))); go_ret; exact ⟨me_, mb_ HB⟩
    ·rw [if_neg c15] at H; obtain ⟨c15b0, c15b1⟩ := bn_ c15; obtain rfl := oi_ H; go_enter Tryz.func106, Tryz.ntmps106; go_wp2_with (first | ((with_reducible refine gate_dst (N := 1) rfl ?_); refine bh_ 1 #[.int .i64 a0_0, .int .i64 a0_1, .string a0_2, .int .i64 a0_3, .int .i64 a0_4, .string a0_5] 134 HB ?_; intro gb132 hg w20 BK132 GE132 hb; replace HB := ms_ HB hb; clear hb hg; obtain ⟨z21_0, z21_1, z21_2, z21_3, z21_4, z21_5, zf21_0, zf21_1, zf21_2, zf21_3, zf21_4, zf21_5⟩ := cz6 BK132)); go_ret; exact ⟨me_, mb_ HB⟩
   ·rw [if_neg c14] at H; obtain ⟨c14b0, c14b1⟩ := bn_ c14; obtain rfl := oi_ H; go_enter Tryz.func106, Tryz.ntmps106; go_wp2_with (first | ((with_reducible refine gate_dst (N := 1) rfl ?_); refine bh_ 1 #[.int .i64 a0_0, .int .i64 a0_1, .string a0_2, .int .i64 a0_3, .int .i64 a0_4, .string a0_5] 134 HB ?_; intro gb132 hg w22 BK132 GE132 hb; replace HB := ms_ HB hb; clear hb hg; obtain ⟨z23_0, z23_1, z23_2, z23_3, z23_4, z23_5, zf23_0, zf23_1, zf23_2, zf23_3, zf23_4, zf23_5⟩ := cz6 BK132)); go_ret; exact ⟨me_, mb_ HB⟩
  ·rw [if_neg c13] at H; obtain ⟨c13b0, c13b1⟩ := bn_ c13; by_cases c24 : a0_0 = 2
   ·rw [if_pos c24] at H; obtain ⟨c24b0, c24b1⟩ := bq_ c24; clear c24; by_cases c25 : a0_1 = 0
    ·rw [if_pos c25] at H; obtain ⟨c25b0, c25b1⟩ := bq_ c25; clear c25; obtain ⟨t135, A26, H⟩ := ob_ H; by_cases c27 : t135 = true
     ·subst c27; rw [if_pos rfl] at H; obtain ⟨t136, A28, H⟩ := ob_ H; obtain rfl := oi_ H; go_enter Tryz.func106, Tryz.ntmps106; go_wp2_with (first | ((with_reducible refine gate_dst (N := 1) rfl ?_); refine bh_ 1 #[.int .i64 a0_0, .int .i64 a0_1, .string a0_2, .int .i64 a0_3, .int .i64 a0_4, .string a0_5] 134 HB ?_; intro gb132 hg w29 BK132 GE132 hb; replace HB := ms_ HB hb; clear hb hg; obtain ⟨z30_0, z30_1, z30_2, z30_3, z30_4, z30_5, zf30_0, zf30_1, zf30_2, zf30_3, zf30_4, zf30_5⟩ := cz6 BK132) | (go_at_call 87; (with_reducible refine (spec_l1GoodSym.calls k a0_2 true _ A26.out).mono ?_); rintro e w' ⟨rfl, ⟨nd, rfl⟩⟩) | (go_at_call 108; (with_reducible refine (spec_l2Zero.calls a0_3 a0_4 a0_5 t136 _ A28.out).mono ?_); rintro e w31 ⟨rfl, hb⟩; replace BK132 := mk_ BK132 hb; replace HB := ms_ HB hb; (try clear hb))); go_ret; exact ⟨me_, mb_ HB⟩
     ·replace c27 := Bool.eq_false_iff.mpr c27; subst c27; rw [if_neg (show ¬ (false = true) by decide)] at H; obtain rfl := oi_ H; go_enter Tryz.func106, Tryz.ntmps106; go_wp2_with (first | ((with_reducible refine gate_dst (N := 1) rfl ?_); refine bh_ 1 #[.int .i64 a0_0, .int .i64 a0_1, .string a0_2, .int .i64 a0_3, .int .i64 a0_4, .string a0_5] 134 HB ?_; intro gb132 hg w32 BK132 GE132 hb; replace HB := ms_ HB hb; clear hb hg; obtain ⟨z33_0, z33_1, z33_2, z33_3, z33_4, z33_5, zf33_0, zf33_1, zf33_2, zf33_3, zf33_4, zf33_5⟩ := cz6 BK132) | (go_at_call 87; (with_reducible refine (spec_l1GoodSym.calls k a0_2 false _ A26.out).mono ?_); rintro e w' ⟨rfl, ⟨nd, rfl⟩⟩)); go_ret; exact ⟨me_, mb_ HB⟩
    ·rw [if_neg c25] at H; obtain ⟨c25b0, c25b1⟩ := bn_ c25; obtain rfl := oi_ H; go_enter Tryz.func106, Tryz.ntmps106; go_wp2_with (first | ((with_reducible refine gate_dst (N := 1) rfl ?_); refine bh_ 1 #[.int .i64 a0_0, .int .i64 a0_1, .string a0_2, .int .i64 a0_3, .int .i64 a0_4, .string a0_5] 134 HB ?_; intro gb132 hg w34 BK132 GE132 hb; replace HB := ms_ HB hb; clear hb hg; obtain ⟨z35_0, z35_1, z35_2, z35_3, z35_4, z35_5, zf35_0, zf35_1, zf35_2, zf35_3, zf35_4, zf35_5⟩ := cz6 BK132)); go_ret; exact ⟨me_, mb_ HB⟩
   ·rw [if_neg c24] at H; obtain ⟨c24b0, c24b1⟩ := bn_ c24; by_cases c36 : a0_0 = 3
    ·rw [if_pos c36] at H; obtain ⟨c36b0, c36b1⟩ := bq_ c36; clear c36; by_cases c37 : a0_1 ≥ 1
     ·rw [if_pos c37] at H; have c37b0 := ct_ c37; clear c37; by_cases c38 : a0_1 ≤ 6
      ·rw [if_pos c38] at H; have c38b0 := ct_ c38; clear c38; by_cases c39 : a0_2.toList = ([] : List UInt8)
       ·rw [if_pos c39] at H; obtain ⟨c39b0, c39b1⟩ := bq_ c39; clear c39; obtain ⟨t137, A40, H⟩ := ob_ H; by_cases c41 : t137 = true
        ·subst c41; rw [if_pos rfl] at H; obtain rfl := oi_ H; go_enter Tryz.func106, Tryz.ntmps106; go_wp2_with (first | ((with_reducible refine gate_dst (N := 1) rfl ?_); refine bh_ 1 #[.int .i64 a0_0, .int .i64 a0_1, .string a0_2, .int .i64 a0_3, .int .i64 a0_4, .string a0_5] 134 HB ?_; intro gb132 hg w42 BK132 GE132 hb; replace HB := ms_ HB hb; clear hb hg; obtain ⟨z43_0, z43_1, z43_2, z43_3, z43_4, z43_5, zf43_0, zf43_1, zf43_2, zf43_3, zf43_4, zf43_5⟩ := cz6 BK132) | (go_at_call 107; (with_reducible refine (spec_l1GoodVal.calls k a0_3 a0_4 a0_5 true _ A40.out).mono ?_); rintro e w44 ⟨rfl, hb⟩; replace BK132 := mk_ BK132 hb; replace HB := ms_ HB hb; (try clear hb))); go_ret; exact ⟨me_, mb_ HB⟩
        ·replace c41 := Bool.eq_false_iff.mpr c41; subst c41; rw [if_neg (show ¬ (false = true) by decide)] at H; obtain ⟨t138, A45, H⟩ := ob_ H; by_cases c46 : t138 = true
         ·subst c46; rw [if_pos rfl] at H; obtain ⟨t139, A47, H⟩ := ob_ H; obtain rfl := oi_ H; go_enter Tryz.func106, Tryz.ntmps106; go_wp2_with (first | ((with_reducible refine gate_dst (N := 1) rfl ?_); refine bh_ 1 #[.int .i64 a0_0, .int .i64 a0_1, .string a0_2, .int .i64 a0_3, .int .i64 a0_4, .string a0_5] 134 HB ?_; intro gb132 hg w48 BK132 GE132 hb; replace HB := ms_ HB hb; clear hb hg; obtain ⟨z49_0, z49_1, z49_2, z49_3, z49_4, z49_5, zf49_0, zf49_1, zf49_2, zf49_3, zf49_4, zf49_5⟩ := cz6 BK132) | (go_at_call 107; (with_reducible refine (spec_l1GoodVal.calls k a0_3 a0_4 a0_5 false _ A40.out).mono ?_); rintro e w50 ⟨rfl, hb⟩; replace BK132 := mk_ BK132 hb; replace HB := ms_ HB hb; (try clear hb); obtain ⟨z51_0, z51_1, z51_2, z51_3, z51_4, z51_5, zf51_0, zf51_1, zf51_2, zf51_3, zf51_4, zf51_5⟩ := cz6 BK132) | (go_at_call 87; (with_reducible refine (spec_l1GoodSym.calls k a0_2 true _ A45.out).mono ?_); rintro e w' ⟨rfl, ⟨nd, rfl⟩⟩) | (go_at_call 108; (with_reducible refine (spec_l2Zero.calls a0_3 a0_4 a0_5 t139 _ A47.out).mono ?_); rintro e w52 ⟨rfl, hb⟩; replace BK132 := mk_ BK132 hb; replace HB := ms_ HB hb; (try clear hb))); go_ret; exact ⟨me_, mb_ HB⟩
         ·replace c46 := Bool.eq_false_iff.mpr c46; subst c46; rw [if_neg (show ¬ (false = true) by decide)] at H; obtain rfl := oi_ H; go_enter Tryz.func106, Tryz.ntmps106; go_wp2_with (first | ((with_reducible refine gate_dst (N := 1) rfl ?_); refine bh_ 1 #[.int .i64 a0_0, .int .i64 a0_1, .string a0_2, .int .i64 a0_3, .int .i64 a0_4, .string a0_5] 134 HB ?_; intro gb132 hg w53 BK132 GE132 hb; replace HB := ms_ HB hb; clear hb hg; obtain ⟨z54_0, z54_1, z54_2, z54_3, z54_4, z54_5, zf54_0, zf54_1, zf54_2, zf54_3, zf54_4, zf54_5⟩ := cz6 BK132) | (go_at_call 107; (with_reducible refine (spec_l1GoodVal.calls k a0_3 a0_4 a0_5 false _ A40.out).mono ?_); rintro e w55 ⟨rfl, hb⟩; replace BK132 := mk_ BK132 hb; replace HB := ms_ HB hb; (try clear hb); obtain ⟨z56_0, z56_1, z56_2, z56_3, z56_4, z56_5, zf56_0, zf56_1, zf56_2, zf56_3, zf56_4, zf56_5⟩ := cz6 BK132) | (go_at_call 87; (with_reducible refine (spec_l1GoodSym.calls k a0_2 false _ A45.out).mono ?_); rintro e w' ⟨rfl, ⟨nd, rfl⟩⟩)); go_ret; exact ⟨me_, mb_ HB⟩
       ·rw [if_neg c39] at H; obtain ⟨c39b0, c39b1⟩ := bn_ c39; obtain ⟨t140, A57, H⟩ := ob_ H; by_cases c58 : t140 = true
        ·subst c58; rw [if_pos rfl] at H; obtain ⟨t141, A59, H⟩ := ob_ H; obtain rfl := oi_ H; go_enter Tryz.func106, Tryz.ntmps106; go_wp2_with (first | ((with_reducible refine gate_dst (N := 1) rfl ?_); refine bh_ 1 #[.int .i64 a0_0, .int .i64 a0_1, .string a0_2, .int .i64 a0_3, .int .i64 a0_4, .string a0_5] 134 HB ?_; intro gb132 hg w60 BK132 GE132 hb; replace HB := ms_ HB hb; clear hb hg; obtain ⟨z61_0, z61_1, z61_2, z61_3, z61_4, z61_5, zf61_0, zf61_1, zf61_2, zf61_3, zf61_4, zf61_5⟩ := cz6 BK132) | (go_at_call 87; (with_reducible refine (spec_l1GoodSym.calls k a0_2 true _ A57.out).mono ?_); rintro e w' ⟨rfl, ⟨nd, rfl⟩⟩) | (go_at_call 108; (with_reducible refine (spec_l2Zero.calls a0_3 a0_4 a0_5 t141 _ A59.out).mono ?_); rintro e w62 ⟨rfl, hb⟩; replace BK132 := mk_ BK132 hb; replace HB := ms_ HB hb; (try clear hb))); go_ret; exact ⟨me_, mb_ HB⟩
        ·replace c58 := Bool.eq_false_iff.mpr c58; subst c58; rw [if_neg (show ¬ (false = true) by decide)] at H; obtain rfl := oi_ H; go_enter Tryz.func106, Tryz.ntmps106; go_wp2_with (first | ((with_reducible refine gate_dst (N := 1) rfl ?_); refine bh_ 1 #[.int .i64 a0_0, .int .i64 a0_1, .string a0_2, .int .i64 a0_3, .int .i64 a0_4, .string a0_5] 134 HB ?_; intro gb132 hg w63 BK132 GE132 hb; replace HB := ms_ HB hb; clear hb hg; obtain ⟨z64_0, z64_1, z64_2, z64_3, z64_4, z64_5, zf64_0, zf64_1, zf64_2, zf64_3, zf64_4, zf64_5⟩ := cz6 BK132) | (go_at_call 87; (with_reducible refine (spec_l1GoodSym.calls k a0_2 false _ A57.out).mono ?_); rintro e w' ⟨rfl, ⟨nd, rfl⟩⟩)); go_ret; exact ⟨me_, mb_ HB⟩
      ·rw [if_neg c38] at H; have c38b0 := cf_ c38; clear c38; obtain rfl := oi_ H; go_enter Tryz.func106, Tryz.ntmps106; go_wp2_with (first | ((with_reducible refine gate_dst (N := 1) rfl ?_); refine bh_ 1 #[.int .i64 a0_0, .int .i64 a0_1, .string a0_2, .int .i64 a0_3, .int .i64 a0_4, .string a0_5] 134 HB ?_; intro gb132 hg w65 BK132 GE132 hb; replace HB := ms_ HB hb; clear hb hg; obtain ⟨z66_0, z66_1, z66_2, z66_3, z66_4, z66_5, zf66_0, zf66_1, zf66_2, zf66_3, zf66_4, zf66_5⟩ := cz6 BK132)); go_ret; exact ⟨me_, mb_ HB⟩
     ·rw [if_neg c37] at H; have c37b0 := cf_ c37; clear c37; obtain rfl := oi_ H; go_enter Tryz.func106, Tryz.ntmps106; go_wp2_with (first | ((with_reducible refine gate_dst (N := 1) rfl ?_); refine bh_ 1 #[.int .i64 a0_0, .int .i64 a0_1, .string a0_2, .int .i64 a0_3, .int .i64 a0_4, .string a0_5] 134 HB ?_; intro gb132 hg w67 BK132 GE132 hb; replace HB := ms_ HB hb; clear hb hg; obtain ⟨z68_0, z68_1, z68_2, z68_3, z68_4, z68_5, zf68_0, zf68_1, zf68_2, zf68_3, zf68_4, zf68_5⟩ := cz6 BK132)); go_ret; exact ⟨me_, mb_ HB⟩
    ·rw [if_neg c36] at H; obtain ⟨c36b0, c36b1⟩ := bn_ c36; obtain rfl := oi_ H; go_enter Tryz.func106, Tryz.ntmps106; go_wp2_with (first | ((with_reducible refine gate_dst (N := 1) rfl ?_); refine bh_ 1 #[.int .i64 a0_0, .int .i64 a0_1, .string a0_2, .int .i64 a0_3, .int .i64 a0_4, .string a0_5] 134 HB ?_; intro gb132 hg w69 BK132 GE132 hb; replace HB := ms_ HB hb; clear hb hg; obtain ⟨z70_0, z70_1, z70_2, z70_3, z70_4, z70_5, zf70_0, zf70_1, zf70_2, zf70_3, zf70_4, zf70_5⟩ := cz6 BK132)); go_ret; exact ⟨me_, mb_ HB⟩
mutual
def spec_l2GoodPat.j0 : Nat → Bool → Bool → ByteArray → List (S134) → Option (Bool)
 | 0, _, _, _, _ => none
 | k + 1, x14, x143000, x143001, x143002 => if x14 = true then (some false) else (spec_l2GoodPat.l0 k x143002 (x143002.length : Int) 0)
def spec_l2GoodPat.l0 : Nat → List (S134) → Int → Int → Option (Bool)
 | 0, _, _, _ => none
 | k + 1, x16, x17, x18 => if x18 < x17 then (if 0 ≤ x18 then (if x18 < (x16.length : Int) then ((spec_l2GoodTerm.f k ((rd_T134 x16 x18).f0) ((rd_T134 x16 x18).f1) ((rd_T134 x16 x18).f2) ((rd_T134 x16 x18).f3.f0) ((rd_T134 x16 x18).f3.f1) ((rd_T134 x16 x18).f3.f2)).bind fun t146 => (if t146 = true then (spec_l2GoodPat.l0 k x16 x17 (wrap64 (x18 + 1))) else (some false))) else (none)) else (none)) else (some true)
end
def spec_l2GoodPat.f (k : Nat) (a0_0 : Bool) (a0_1 : ByteArray) (l0_2 : List (S134)) : Option (Bool) := (spec_l2GoodCls.f k a0_1).bind fun t143 => (if t143 = true then (spec_l2GoodPat.j0 k (decide ((l0_2.length : Int) > 6)) a0_0 a0_1 l0_2) else (spec_l2GoodPat.j0 k true a0_0 a0_1 l0_2))
theorem spec_l2GoodPat.mono_l : ∀ k, (∀ y0 y1 y2 y3, LeO (spec_l2GoodPat.j0 k y0 y1 y2 y3) (spec_l2GoodPat.j0 (k + 1) y0 y1 y2 y3)) ∧ (∀ y0 y1 y2, LeO (spec_l2GoodPat.l0 k y0 y1 y2) (spec_l2GoodPat.l0 (k + 1) y0 y1 y2))
 | 0 => ⟨fun _ _ _ _ r h => by simp [spec_l2GoodPat.j0] at h, fun _ _ _ r h => by simp [spec_l2GoodPat.l0] at h⟩
 | k + 1 => by
  obtain ⟨ih0, ih1⟩ := spec_l2GoodPat.mono_l k; refine ⟨?_, ?_⟩
  ·intro y0 y1 y2 y3; unfold spec_l2GoodPat.j0
   repeat' with_reducible first | apply ih0 | apply ih1 | apply spec_l2GoodCls.mono | apply spec_l2GoodTerm.mono | apply LeO.refl | apply LeO.none | refine LeO.ite ?_ ?_ | refine LeO.bind ?_ (fun _ => ?_)
  ·intro y0 y1 y2; unfold spec_l2GoodPat.l0
   repeat' with_reducible first | apply ih0 | apply ih1 | apply spec_l2GoodCls.mono | apply spec_l2GoodTerm.mono | apply LeO.refl | apply LeO.none | refine LeO.ite ?_ ?_ | refine LeO.bind ?_ (fun _ => ?_)
theorem spec_l2GoodPat.mono : ∀ a0 a1 a2 k, LeO (spec_l2GoodPat.f k a0 a1 a2) (spec_l2GoodPat.f (k + 1) a0 a1 a2) := by
 intro a0 a1 a2 k; obtain ⟨ih0, ih1⟩ := spec_l2GoodPat.mono_l k; unfold spec_l2GoodPat.f
 repeat' with_reducible first | apply ih0 | apply ih1 | apply spec_l2GoodCls.mono | apply spec_l2GoodTerm.mono | apply LeO.refl | apply LeO.none | refine LeO.ite ?_ ?_ | refine LeO.bind ?_ (fun _ => ?_)
set_option maxHeartbeats 8000000 in
set_option maxRecDepth 100000 in
theorem spec_l2GoodPat.calls (k : Nat) (a0_0 : Bool) (a0_1 : ByteArray) (A0_2 : Option Addr) (c0_2 : Nat) (l0_2 : List (S134)) (r : Bool) (w : World) (hr0_2 : Kd.C k134 w A0_2 l0_2.length l0_2) (hc0_2 : l0_2.length ≤ c0_2) (h : spec_l2GoodPat.f k a0_0 a0_1 l0_2 = some r) :
  Calls Tryz.prog 88 #[.agg #[.bool a0_0, .string a0_1, .slice A0_2 l0_2.length c0_2]] w fun e w' => e = .returned (.bool r) ∧ Below w.heap.size w w' := by
 have hu101 := Tryz.underlying101; have hu134 := Tryz.underlying134; have HR0_2 := a_ hr0_2; have HC0_2 := a_ hc0_2; clear hr0_2 hc0_2; have HB := a_ (Below.refl w.heap.size w); have H : ((spec_l2GoodCls.f k a0_1).bind fun t143 => (if t143 = true then (spec_l2GoodPat.j0 k (decide ((l0_2.length : Int) > 6)) a0_0 a0_1 l0_2) else (spec_l2GoodPat.j0 k true a0_0 a0_1 l0_2))) = some r := h
 clear h; have HC2 := a_ H; clear H; go_enter Tryz.func88, Tryz.ntmps88; go_upto_region 1 with (first | ((with_reducible refine gate_dst (N := 1) rfl ?_); (try (refine gate_guard (by rfl) ?_; dsimp only)); refine bh_ 1 #[.bool a0_0, .string a0_1, .slice A0_2 l0_2.length c0_2] 101 HB ?_; intro gb142 hg w3 BK142 GE142 hb; replace HB := ms_ HB hb; clear hb hg)); (try simp only [Act.put, List.setIfInBounds_toArray, List.set_cons_zero, List.set_cons_succ]); go_cut [14] (fun v14 wc => ∃ (kq : Nat) (x14_1 : Bool), v14 = .bool x14_1 ∧ Aside0 (spec_l2GoodPat.j0 kq x14_1 a0_0 a0_1 l0_2 = some r) ∧ Aside0 (kq ≤ k) ∧ Aside0 (wc.heap[gb142]? = some (.cells #[.bool a0_0, .string a0_1, (.slice A0_2 l0_2.length c0_2)] 101 (0, 0))) ∧ Aside0 (Below w.heap.size w wc))
 case first =>
  have H := HC2.out; clear HC2; obtain ⟨t143, A4, H⟩ := ob_ H; by_cases c5 : t143 = true
  ·subst c5; rw [if_pos rfl] at H; have H' := a_ H; clear H; obtain ⟨z6_0, z6_1, z6_2, zf6_0, zf6_1, zf6_2⟩ := cz3 BK142; go_wp2_with (first | ((with_reducible refine gate_callee (f := 105) rfl ?_); refine goesL_ (some 7) rfl rfl Tryz.func105 (by kernel_rfl) rfl #[.string a0_1] rfl mw_ ?_; (with_reducible refine (spec_l2GoodCls.calls k a0_1 true _ A4.out).mono ?_); rintro e w' ⟨rfl, ⟨nd, rfl⟩⟩; refine ⟨_, rfl, ?_⟩)); go_meet
   case rel => exact ⟨_, (decide ((l0_2.length : Int) > 6)), mq_, H', ⟨by first | omega | exact Nat.le_refl _⟩, ⟨mc_ BK142⟩, ⟨mb_ HB⟩⟩
  ·replace c5 := Bool.eq_false_iff.mpr c5; subst c5; rw [if_neg (show ¬ (false = true) by decide)] at H; have H' := a_ H; clear H; obtain ⟨z7_0, z7_1, z7_2, zf7_0, zf7_1, zf7_2⟩ := cz3 BK142; go_wp2_with (first | ((with_reducible refine gate_callee (f := 105) rfl ?_); refine goesL_ (some 7) rfl rfl Tryz.func105 (by kernel_rfl) rfl #[.string a0_1] rfl mw_ ?_; (with_reducible refine (spec_l2GoodCls.calls k a0_1 false _ A4.out).mono ?_); rintro e w' ⟨rfl, ⟨nd, rfl⟩⟩; refine ⟨_, rfl, ?_⟩)); go_meet
   case rel => exact ⟨_, (true), mq_, H', ⟨by first | omega | exact Nat.le_refl _⟩, ⟨mc_ BK142⟩, ⟨mb_ HB⟩⟩
 clear HC2; obtain ⟨kq, x14_1, rfl, HA, HJ1, BK142, HB⟩ := hcut; obtain _ | kj1 := kq
 ·exact absurd HA.out (by simp [spec_l2GoodPat.j0])
 have H := HA.out; clear HA; simp only [spec_l2GoodPat.j0] at H; by_cases c8 : x14_1 = true
 ·subst c8; rw [if_pos rfl] at H; obtain rfl := oi_ H; go_wp2; go_ret; exact ⟨me_, mb_ HB⟩
 ·replace c8 := Bool.eq_false_iff.mpr c8; subst c8; rw [if_neg (show ¬ (false = true) by decide)] at H; have H' := a_ H; clear H; obtain ⟨z9_0, z9_1, z9_2, zf9_0, zf9_1, zf9_2⟩ := cz3 BK142; go_wp2; go_loopg [18] kj1 (fun kq v18 w' => ∃ (x18_2 : Int), v18 = .int .i64 x18_2 ∧ Aside0 (spec_l2GoodPat.l0 kq l0_2 (l0_2.length : Int) x18_2 = some r) ∧ Aside0 (kq ≤ kj1) ∧ Aside0 (w'.heap[gb142]? = some (.cells #[.bool a0_0, .string a0_1, (.slice A0_2 l0_2.length c0_2)] 101 (0, 0))) ∧ Aside0 (Below w.heap.size w w'))
  case atStart => exact ⟨(0), mq_, H', ⟨Nat.le_refl _⟩, ⟨mc_ BK142⟩, ⟨mb_ HB⟩⟩
  clear H'; (try clear c8); obtain ⟨x18_2, rfl, HA, HK2, BK142, HB⟩ := hrel; obtain _ | k2 := gk
  ·exact absurd HA.out (by simp [spec_l2GoodPat.l0])
  have H := HA.out; clear HA; simp only [spec_l2GoodPat.l0] at H; by_cases c10 : x18_2 < (l0_2.length : Int)
  ·rw [if_pos c10] at H; have c10b0 := ct_ c10; clear c10; by_cases c11 : 0 ≤ x18_2
   case neg => rw [if_neg c11] at H; cases H
   rw [if_pos c11] at H; have c11b0 := ct_ c11; clear c11; by_cases c12 : x18_2 < (l0_2.length : Int)
   case neg => rw [if_neg c12] at H; cases H
   rw [if_pos c12] at H; have c12b0 := ct_ c12; clear c12; obtain ⟨t146, A13, H⟩ := ob_ H; by_cases c14 : t146 = true
   ·subst c14; rw [if_pos rfl] at H; have H' := a_ H; clear H; have p144 : 0 ≤ (x18_2 : Int) := md_
    have q144 : x18_2 < (l0_2.length : Int) := md_
    obtain ⟨ad144, e144, hx144_0, hx144_1, hx144_2, hx144_3, hx144_4, hx144_5⟩ := at_T134 HR0_2.out x18_2 p144 q144; cases e144; replace hx144_0 := mx_ HB hx144_0; replace hx144_1 := mx_ HB hx144_1; replace hx144_2 := mx_ HB hx144_2; replace hx144_3 := mx_ HB hx144_3; replace hx144_4 := mx_ HB hx144_4; replace hx144_5 := mx_ HB hx144_5; replace p144 := eq_true p144; replace q144 := eq_true q144; go_wp2_with (first | ((with_reducible refine gate_dst (N := 4) rfl ?_); (try (refine gate_guard (by rfl) ?_; dsimp only)); refine bh_ 4 #[.int .i64 0, .int .i64 0, .string (⟨#[]⟩ : ByteArray), .int .i64 0, .int .i64 0, .string (⟨#[]⟩ : ByteArray)] 134 HB ?_; intro gb145 hg w15 BK145 GE145 hb; obtain ⟨NB142_145, NB145_142⟩ := mn_ BK142 hg; replace BK142 := mk_ BK142 hb; replace HB := ms_ HB hb; clear hb hg; have hnb16 := NB145_142.out; have hnc16 := NB142_145.out; obtain ⟨z17_0, z17_1, z17_2, z17_3, z17_4, z17_5, zf17_0, zf17_1, zf17_2, zf17_3, zf17_4, zf17_5⟩ := cz6 BK145) | ((with_reducible refine gate_callee (f := 106) rfl ?_); refine goesL_ (some 23) rfl rfl Tryz.func106 (by kernel_rfl) rfl #[.agg #[.int .i64 ((rd_T134 l0_2 x18_2).f0), .int .i64 ((rd_T134 l0_2 x18_2).f1), .string ((rd_T134 l0_2 x18_2).f2), .int .i64 ((rd_T134 l0_2 x18_2).f3.f0), .int .i64 ((rd_T134 l0_2 x18_2).f3.f1), .string ((rd_T134 l0_2 x18_2).f3.f2)]] rfl mw_ ?_; (with_reducible refine (spec_l2GoodTerm.calls k2 ((rd_T134 l0_2 x18_2).f0) ((rd_T134 l0_2 x18_2).f1) ((rd_T134 l0_2 x18_2).f2) ((rd_T134 l0_2 x18_2).f3.f0) ((rd_T134 l0_2 x18_2).f3.f1) ((rd_T134 l0_2 x18_2).f3.f2) true _ A13.out).mono ?_); rintro e w18 ⟨rfl, hb⟩; refine ⟨_, rfl, ?_⟩; replace BK142 := mk_ BK142 hb; replace BK145 := a_ (blk_below (g := gb145) (o := .cells #[.int .i64 ((rd_T134 l0_2 x18_2).f0), .int .i64 ((rd_T134 l0_2 x18_2).f1), .string ((rd_T134 l0_2 x18_2).f2), .int .i64 ((rd_T134 l0_2 x18_2).f3.f0), .int .i64 ((rd_T134 l0_2 x18_2).f3.f1), .string ((rd_T134 l0_2 x18_2).f3.f2)] 134 (0, 0)) (mp_ BK145) hb); replace HB := ms_ HB hb; (try clear hb))); go_roundg k2
    case measure => have := HJ1.out; have := HK2.out; omega
    case rel => exact ⟨(wrap64 (x18_2 + 1)), mq_, H', ⟨by have := HJ1.out; have := HK2.out; omega⟩, ⟨mc_ BK142⟩, ⟨mb_ HB⟩⟩
   ·replace c14 := Bool.eq_false_iff.mpr c14; subst c14; rw [if_neg (show ¬ (false = true) by decide)] at H; obtain rfl := oi_ H; have p144 : 0 ≤ (x18_2 : Int) := md_
    have q144 : x18_2 < (l0_2.length : Int) := md_
    obtain ⟨ad144, e144, hx144_0, hx144_1, hx144_2, hx144_3, hx144_4, hx144_5⟩ := at_T134 HR0_2.out x18_2 p144 q144; cases e144; replace hx144_0 := mx_ HB hx144_0; replace hx144_1 := mx_ HB hx144_1; replace hx144_2 := mx_ HB hx144_2; replace hx144_3 := mx_ HB hx144_3; replace hx144_4 := mx_ HB hx144_4; replace hx144_5 := mx_ HB hx144_5; replace p144 := eq_true p144; replace q144 := eq_true q144; go_wp2_with (first | ((with_reducible refine gate_dst (N := 4) rfl ?_); (try (refine gate_guard (by rfl) ?_; dsimp only)); refine bh_ 4 #[.int .i64 0, .int .i64 0, .string (⟨#[]⟩ : ByteArray), .int .i64 0, .int .i64 0, .string (⟨#[]⟩ : ByteArray)] 134 HB ?_; intro gb145 hg w19 BK145 GE145 hb; obtain ⟨NB142_145, NB145_142⟩ := mn_ BK142 hg; replace BK142 := mk_ BK142 hb; replace HB := ms_ HB hb; clear hb hg; have hnb20 := NB145_142.out; have hnc20 := NB142_145.out; obtain ⟨z21_0, z21_1, z21_2, z21_3, z21_4, z21_5, zf21_0, zf21_1, zf21_2, zf21_3, zf21_4, zf21_5⟩ := cz6 BK145) | ((with_reducible refine gate_callee (f := 106) rfl ?_); refine goesL_ (some 23) rfl rfl Tryz.func106 (by kernel_rfl) rfl #[.agg #[.int .i64 ((rd_T134 l0_2 x18_2).f0), .int .i64 ((rd_T134 l0_2 x18_2).f1), .string ((rd_T134 l0_2 x18_2).f2), .int .i64 ((rd_T134 l0_2 x18_2).f3.f0), .int .i64 ((rd_T134 l0_2 x18_2).f3.f1), .string ((rd_T134 l0_2 x18_2).f3.f2)]] rfl mw_ ?_; (with_reducible refine (spec_l2GoodTerm.calls k2 ((rd_T134 l0_2 x18_2).f0) ((rd_T134 l0_2 x18_2).f1) ((rd_T134 l0_2 x18_2).f2) ((rd_T134 l0_2 x18_2).f3.f0) ((rd_T134 l0_2 x18_2).f3.f1) ((rd_T134 l0_2 x18_2).f3.f2) false _ A13.out).mono ?_); rintro e w22 ⟨rfl, hb⟩; refine ⟨_, rfl, ?_⟩; replace BK142 := mk_ BK142 hb; replace BK145 := a_ (blk_below (g := gb145) (o := .cells #[.int .i64 ((rd_T134 l0_2 x18_2).f0), .int .i64 ((rd_T134 l0_2 x18_2).f1), .string ((rd_T134 l0_2 x18_2).f2), .int .i64 ((rd_T134 l0_2 x18_2).f3.f0), .int .i64 ((rd_T134 l0_2 x18_2).f3.f1), .string ((rd_T134 l0_2 x18_2).f3.f2)] 134 (0, 0)) (mp_ BK145) hb); replace HB := ms_ HB hb; (try clear hb))); go_ret; exact ⟨me_, mb_ HB⟩
  ·rw [if_neg c10] at H; have c10b0 := cf_ c10; clear c10; obtain rfl := oi_ H; go_wp2; go_ret; exact ⟨me_, mb_ HB⟩
def spec_l2Is.l0 : Nat → ByteArray → List ByteArray → Int → Int → Option (Bool)
 | 0, _, _, _, _ => none
 | k + 1, x0, x7, x8, x9 => if x9 < x8 then (if 0 ≤ x9 then (if x9 < (x7.length : Int) then (if x0.toList = (rdOf ByteArray.empty x7 x9).toList then (some true) else (spec_l2Is.l0 k x0 x7 x8 (wrap64 (x9 + 1)))) else (none)) else (none)) else (some false)
def spec_l2Is.f (k : Nat) (a0 : ByteArray) (l1 : List ByteArray) : Option (Bool) := spec_l2Is.l0 k a0 l1 (l1.length : Int) 0
theorem spec_l2Is.mono_l : ∀ k, (∀ y0 y1 y2 y3, LeO (spec_l2Is.l0 k y0 y1 y2 y3) (spec_l2Is.l0 (k + 1) y0 y1 y2 y3))
 | 0 => fun _ _ _ _ r h => by simp [spec_l2Is.l0] at h
 | k + 1 => by
  have ih0 := spec_l2Is.mono_l k
  ·intro y0 y1 y2 y3; unfold spec_l2Is.l0
   repeat' with_reducible first | apply ih0 | apply LeO.refl | apply LeO.none | refine LeO.ite ?_ ?_ | refine LeO.bind ?_ (fun _ => ?_)
theorem spec_l2Is.mono : ∀ a0 a1 k, LeO (spec_l2Is.f k a0 a1) (spec_l2Is.f (k + 1) a0 a1) := by
 intro a0 a1 k; have ih0 := spec_l2Is.mono_l k; unfold spec_l2Is.f
 repeat' with_reducible first | apply ih0 | apply LeO.refl | apply LeO.none | refine LeO.ite ?_ ?_ | refine LeO.bind ?_ (fun _ => ?_)
set_option maxHeartbeats 8000000 in
set_option maxRecDepth 100000 in
theorem spec_l2Is.calls (k : Nat) (a0 : ByteArray) (A1 : Option Addr) (c1 : Nat) (l1 : List ByteArray) (r : Bool) (w : World) (hr1 : Kd.C Kd.string w A1 l1.length l1) (hc1 : l1.length ≤ c1) (h : spec_l2Is.f k a0 l1 = some r) :
  Calls Tryz.prog 91 #[.string a0, .slice A1 l1.length c1] w fun e w' => e = .returned (.bool r) ∧ Drawn0 w w' := by
 have HR1 := a_ hr1; have HC1 := a_ hc1; clear hr1 hc1; have H : (spec_l2Is.l0 k a0 l1 (l1.length : Int) 0) = some r := h
 clear h; have H' := a_ H; clear H; go_enter Tryz.func91, Tryz.ntmps91; go_wp2; go_loopg [9] k (fun kq v9 w' => ∃ (x9_1 : Int), v9 = .int .i64 x9_1 ∧ Aside0 (spec_l2Is.l0 kq a0 l1 (l1.length : Int) x9_1 = some r) ∧ Aside0 (kq ≤ k) ∧ Drawn0 w w')
 case atStart => exact ⟨(0), mq_, H', ⟨Nat.le_refl _⟩, by repeat (first | exact Drawn0.refl _ | apply Drawn0.step)⟩
 clear H'; obtain ⟨x9_1, rfl, HA, HK1, ⟨m1, rfl⟩⟩ := hrel; obtain _ | k1 := gk
 ·exact absurd HA.out (by simp [spec_l2Is.l0])
 have H := HA.out; clear HA; simp only [spec_l2Is.l0] at H; by_cases c3 : x9_1 < (l1.length : Int)
 ·rw [if_pos c3] at H; have c3b0 := ct_ c3; clear c3; by_cases c4 : 0 ≤ x9_1
  case neg => rw [if_neg c4] at H; cases H
  rw [if_pos c4] at H; have c4b0 := ct_ c4; clear c4; by_cases c5 : x9_1 < (l1.length : Int)
  case neg => rw [if_neg c5] at H; cases H
  rw [if_pos c5] at H; have c5b0 := ct_ c5; clear c5; by_cases c6 : a0.toList = (rdOf ByteArray.empty l1 x9_1).toList
  ·rw [if_pos c6] at H; obtain ⟨c6b0, c6b1⟩ := bq_ c6; clear c6; obtain rfl := oi_ H; have p147 : 0 ≤ (x9_1 : Int) := md_
   have q147 : x9_1 < (l1.length : Int) := md_
   obtain ⟨ad147, e147, hx147_0⟩ := Kd.at_string HR1.out x9_1 p147 q147; cases e147; replace p147 := eq_true p147; replace q147 := eq_true q147; go_wp2; go_ret; exact ⟨by first | rfl | (simp; done) | (simp [*]; done), by repeat (first | exact Drawn0.refl _ | apply Drawn0.step)⟩
  ·rw [if_neg c6] at H; obtain ⟨c6b0, c6b1⟩ := bn_ c6; have H' := a_ H; clear H; have p147 : 0 ≤ (x9_1 : Int) := md_
   have q147 : x9_1 < (l1.length : Int) := md_
   obtain ⟨ad147, e147, hx147_0⟩ := Kd.at_string HR1.out x9_1 p147 q147; cases e147; replace p147 := eq_true p147; replace q147 := eq_true q147; go_wp2; go_roundg k1
   case measure => have := HK1.out; omega
   case rel => exact ⟨(wrap64 (x9_1 + 1)), mq_, H', ⟨by have := HK1.out; omega⟩, by repeat (first | exact Drawn0.refl _ | apply Drawn0.step)⟩
 ·rw [if_neg c3] at H; have c3b0 := cf_ c3; clear c3; obtain rfl := oi_ H; go_wp2; go_ret; exact ⟨by first | rfl | (simp; done) | (simp [*]; done), by repeat (first | exact Drawn0.refl _ | apply Drawn0.step)⟩
end Go.Proofs.YtejjlkbbnhpbdaaGreat.P
namespace Go.Proofs.YtejjlkbbnhpbdaaGreat.P
open Go.Proofs.YtejjlkbbnhpbdaaGreatX
open Go.RowKit Go.Proofs.YtejjlkbbnhpbdaaGreatW.PrintWords Go.Proofs.YtejjlkbbnhpbdaaGreatW.PrintLast Go.Proofs.YtejjlkbbnhpbdaaGreatW.PrintMore
attribute [local go_sem] max2_int min2_int max_two min_two max_three min_three max_four min_four
set_option linter.unusedVariables false
set_option linter.unusedSimpArgs false
def spec_l2First.l0 : Nat → List (S106) → Int → Option (Int)
 | 0, _, _ => none
 | k + 1, x0, x1 => if 0 ≤ x1 then (if x1 < (x0.length : Int) then (if ((rd_T106 x0 x1).f0) = 2 then (spec_l2First.l0 k x0 ((rd_T106 x0 x1).f4)) else (some x1)) else (none)) else (none)
def spec_l2First.f (k : Nat) (l0 : List (S106)) (a1 : Int) : Option (Int) := spec_l2First.l0 k l0 a1
theorem spec_l2First.mono_l : ∀ k, (∀ y0 y1, LeO (spec_l2First.l0 k y0 y1) (spec_l2First.l0 (k + 1) y0 y1))
 | 0 => fun _ _ r h => by simp [spec_l2First.l0] at h
 | k + 1 => by
  have ih0 := spec_l2First.mono_l k
  ·intro y0 y1; unfold spec_l2First.l0
   repeat' with_reducible first | apply ih0 | apply LeO.refl | apply LeO.none | refine LeO.ite ?_ ?_ | refine LeO.bind ?_ (fun _ => ?_)
theorem spec_l2First.mono : ∀ a0 a1 k, LeO (spec_l2First.f k a0 a1) (spec_l2First.f (k + 1) a0 a1) := by
 intro a0 a1 k; have ih0 := spec_l2First.mono_l k; unfold spec_l2First.f
 repeat' with_reducible first | apply ih0 | apply LeO.refl | apply LeO.none | refine LeO.ite ?_ ?_ | refine LeO.bind ?_ (fun _ => ?_)
set_option maxHeartbeats 8000000 in
set_option maxRecDepth 100000 in
theorem spec_l2First.calls (k : Nat) (A0 : Option Addr) (c0 : Nat) (l0 : List (S106)) (a1 : Int) (r : Int) (w : World) (hr0 : Kd.C k106 w A0 l0.length l0) (hc0 : l0.length ≤ c0) (h : spec_l2First.f k l0 a1 = some r) :
  Calls Tryz.prog 92 #[.slice A0 l0.length c0, .int .i64 a1] w fun e w' => e = .returned (.int .i64 r) ∧ Drawn0 w w' := by
 have HR0 := a_ hr0; have HC0 := a_ hc0; clear hr0 hc0; have H : (spec_l2First.l0 k l0 a1) = some r := h
 clear h; have H' := a_ H; clear H; go_enter Tryz.func92, Tryz.ntmps92; go_wp2; go_loopg [1] k (fun kq v1 w' => ∃ (x1_1 : Int), v1 = .int .i64 x1_1 ∧ Aside0 (spec_l2First.l0 kq l0 x1_1 = some r) ∧ Aside0 (kq ≤ k) ∧ Drawn0 w w')
 case atStart => exact ⟨(a1), mq_, H', ⟨Nat.le_refl _⟩, by repeat (first | exact Drawn0.refl _ | apply Drawn0.step)⟩
 clear H'; obtain ⟨x1_1, rfl, HA, HK1, ⟨m1, rfl⟩⟩ := hrel; obtain _ | k1 := gk
 ·exact absurd HA.out (by simp [spec_l2First.l0])
 have H := HA.out; clear HA; simp only [spec_l2First.l0] at H; by_cases c3 : 0 ≤ x1_1
 case neg => rw [if_neg c3] at H; cases H
 rw [if_pos c3] at H; have c3b0 := ct_ c3; clear c3; by_cases c4 : x1_1 < (l0.length : Int)
 case neg => rw [if_neg c4] at H; cases H
 rw [if_pos c4] at H; have c4b0 := ct_ c4; clear c4; by_cases c5 : ((rd_T106 l0 x1_1).f0) = 2
 ·rw [if_pos c5] at H; obtain ⟨c5b0, c5b1⟩ := bq_ c5; clear c5; have H' := a_ H; clear H; have p148 : 0 ≤ (x1_1 : Int) := md_
  have q148 : x1_1 < (l0.length : Int) := md_
  obtain ⟨ad148, e148, hx148_0, hx148_1, hx148_2, hx148_3, hx148_4, hx148_5, hx148_6, hx148_7⟩ := at_T106 HR0.out x1_1 p148 q148; cases e148; replace p148 := eq_true p148; replace q148 := eq_true q148; have p149 : 0 ≤ (x1_1 : Int) := md_
  have q149 : x1_1 < (l0.length : Int) := md_
  obtain ⟨ad149, e149, hx149_0, hx149_1, hx149_2, hx149_3, hx149_4, hx149_5, hx149_6, hx149_7⟩ := at_T106 HR0.out x1_1 p149 q149; obtain rfl : ad148 = ad149 := (by injection e149); replace p149 := eq_true p149; replace q149 := eq_true q149; go_wp2; go_roundg k1
  case measure => have := HK1.out; omega
  case rel => exact ⟨((rd_T106 l0 x1_1).f4), mq_, H', ⟨by have := HK1.out; omega⟩, by repeat (first | exact Drawn0.refl _ | apply Drawn0.step)⟩
 ·rw [if_neg c5] at H; obtain ⟨c5b0, c5b1⟩ := bn_ c5; obtain rfl := oi_ H; have p148 : 0 ≤ (x1_1 : Int) := md_
  have q148 : x1_1 < (l0.length : Int) := md_
  obtain ⟨ad148, e148, hx148_0, hx148_1, hx148_2, hx148_3, hx148_4, hx148_5, hx148_6, hx148_7⟩ := at_T106 HR0.out x1_1 p148 q148; cases e148; replace p148 := eq_true p148; replace q148 := eq_true q148; go_wp2; go_ret; exact ⟨by first | rfl | (simp; done) | (simp [*]; done), by repeat (first | exact Drawn0.refl _ | apply Drawn0.step)⟩
def spec_l2Ariths.f  : Option (List ByteArray) := some (([(⟨#[43]⟩ : ByteArray), (⟨#[45]⟩ : ByteArray), (⟨#[42]⟩ : ByteArray), (⟨#[47]⟩ : ByteArray), (⟨#[37]⟩ : ByteArray)] : List ByteArray))
set_option maxHeartbeats 8000000 in
set_option maxRecDepth 100000 in
theorem spec_l2Ariths.calls  (r : List ByteArray) (w : World) (h : spec_l2Ariths.f  = some r) :
  Calls Tryz.prog 109 #[] w fun e w' => ∃ v0_ : Value, e = .returned (v0_) ∧ Kd.R Kd.string 9 w' w.heap.size (fun _ => True) v0_ r ∧ Below w.heap.size w w' := by
 have HB := a_ (Below.refl w.heap.size w); have H : (some (([(⟨#[43]⟩ : ByteArray), (⟨#[45]⟩ : ByteArray), (⟨#[42]⟩ : ByteArray), (⟨#[47]⟩ : ByteArray), (⟨#[37]⟩ : ByteArray)] : List ByteArray))) = some r := h
 clear h; obtain ⟨y150, hy150⟩ : ∃ y_ : List ByteArray, y_ = (([(⟨#[43]⟩ : ByteArray), (⟨#[45]⟩ : ByteArray), (⟨#[42]⟩ : ByteArray), (⟨#[47]⟩ : ByteArray), (⟨#[37]⟩ : ByteArray)] : List ByteArray)) := ⟨_, rfl⟩; rw [← hy150] at H; (try rw [Option.bind_some] at H); have Ny150 := a_ hy150; clear hy150; obtain rfl := oi_ H; go_enter Tryz.func109, Tryz.ntmps109; go_wp2_with (first | ((with_reducible refine gate_dst (N := 1) rfl ?_); refine Kd.R_lit Kd.string _ 9 ?hg (N := 1) ?hd (xs := ([(⟨#[43]⟩ : ByteArray), (⟨#[45]⟩ : ByteArray), (⟨#[42]⟩ : ByteArray), (⟨#[47]⟩ : ByteArray), (⟨#[37]⟩ : ByteArray)] : List ByteArray)) (inner := [.string (⟨#[43]⟩ : ByteArray), .string (⟨#[45]⟩ : ByteArray), .string (⟨#[42]⟩ : ByteArray), .string (⟨#[47]⟩ : ByteArray), .string (⟨#[37]⟩ : ByteArray)]) (ok := fun _ => True) (okp := fun _ => True) ?hr ?hp (fun _ hk => hk) trivial (Below.refl _ _) (Nat.le_refl _) (by simp) ?_; (case hd => rfl); (case hg => rfl); (case hr => first | (go_simp; done) | (go_simp; rfl)); (case hp => exact (Reps.one (show Kd.M Kd.string _ _ _ (⟨#[43]⟩ : ByteArray) [.string (⟨#[43]⟩ : ByteArray)] from rfl) (Reps.one (show Kd.M Kd.string _ _ _ (⟨#[45]⟩ : ByteArray) [.string (⟨#[45]⟩ : ByteArray)] from rfl) (Reps.one (show Kd.M Kd.string _ _ _ (⟨#[42]⟩ : ByteArray) [.string (⟨#[42]⟩ : ByteArray)] from rfl) (Reps.one (show Kd.M Kd.string _ _ _ (⟨#[47]⟩ : ByteArray) [.string (⟨#[47]⟩ : ByteArray)] from rfl) (Reps.one (show Kd.M Kd.string _ _ _ (⟨#[37]⟩ : ByteArray) [.string (⟨#[37]⟩ : ByteArray)] from rfl) (Reps.none _ _))))))); intro v151 w1 ho2 hb hg_ hnew_; clear hg_ hnew_; (first | rw [← Ny150.out] at ho2 | (simp only [Int.reduceToNat] at ho2; rw [← Ny150.out] at ho2)); have HO152 := a_ (Kd.R_lower ho2 (below_size (mb_ HB))); replace HB := ms_ HB hb; clear hb ho2)); go_ret; exact ⟨_, me_, mo_ HO152.out, mb_ HB⟩
def spec_l2Depth.f : Nat → List (S106) → Int → Option (Int)
 | 0, _, _ => none
 | k + 1, l0, a1 => if 0 ≤ a1 then (if a1 < (l0.length : Int) then (if ((rd_T106 l0 a1).f0) = 2 then ((spec_l2Depth.f k l0 ((rd_T106 l0 a1).f4)).bind fun t155 => ((spec_l2Depth.f k l0 ((rd_T106 l0 a1).f5)).bind fun t157 => (if t155 < t157 then (some (wrap64 (t157 + 1))) else (some (wrap64 (t155 + 1)))))) else (some 0)) else (none)) else (none)
theorem spec_l2Depth.mono_l : ∀ k, (∀ y0 y1, LeO (spec_l2Depth.f k y0 y1) (spec_l2Depth.f (k + 1) y0 y1))
 | 0 => fun _ _ r h => by simp [spec_l2Depth.f] at h
 | k + 1 => by
  have ih0 := spec_l2Depth.mono_l k
  ·intro y0 y1; unfold spec_l2Depth.f
   repeat' with_reducible first | apply ih0 | apply LeO.refl | apply LeO.none | refine LeO.ite ?_ ?_ | refine LeO.bind ?_ (fun _ => ?_)
theorem spec_l2Depth.mono : ∀ a0 a1 k, LeO (spec_l2Depth.f k a0 a1) (spec_l2Depth.f (k + 1) a0 a1) := by
 intro a0 a1 k; have ih0 := spec_l2Depth.mono_l k; exact ih0 a0 a1
set_option maxHeartbeats 8000000 in
set_option maxRecDepth 100000 in
theorem spec_l2Depth.calls (k : Nat) : ∀ (A0 : Option Addr) (c0 : Nat) (l0 : List (S106)) (a1 : Int) (r : Int) (w : World) (hr0 : Kd.C k106 w A0 l0.length l0) (hc0 : l0.length ≤ c0) (h : spec_l2Depth.f k l0 a1 = some r),
  Calls Tryz.prog 110 #[.slice A0 l0.length c0, .int .i64 a1] w fun e w' => e = .returned (.int .i64 r) ∧ Drawn0 w w' := by
 induction k using Nat.strongRecOn with
 | _ k ih =>
 intro A0 c0 l0 a1 r w hr0 hc0 h; cases k with
 | zero => exact absurd h (by simp [spec_l2Depth.f])
 | succ k =>
 simp only [spec_l2Depth.f] at h; have HR0 := a_ hr0; have HC0 := a_ hc0; clear hr0 hc0; have H : (if 0 ≤ a1 then (if a1 < (l0.length : Int) then (if ((rd_T106 l0 a1).f0) = 2 then ((spec_l2Depth.f k l0 ((rd_T106 l0 a1).f4)).bind fun t155 => ((spec_l2Depth.f k l0 ((rd_T106 l0 a1).f5)).bind fun t157 => (if t155 < t157 then (some (wrap64 (t157 + 1))) else (some (wrap64 (t155 + 1)))))) else (some 0)) else (none)) else (none)) = some r := h
 clear h; by_cases c3 : 0 ≤ a1
 case neg => rw [if_neg c3] at H; cases H
 rw [if_pos c3] at H; have c3b0 := ct_ c3; clear c3; by_cases c4 : a1 < (l0.length : Int)
 case neg => rw [if_neg c4] at H; cases H
 rw [if_pos c4] at H; have c4b0 := ct_ c4; clear c4; by_cases c5 : ((rd_T106 l0 a1).f0) = 2
 ·rw [if_pos c5] at H; obtain ⟨c5b0, c5b1⟩ := bq_ c5; clear c5; obtain ⟨t155, A6, H⟩ := ob_ H; obtain ⟨t157, A7, H⟩ := ob_ H; by_cases c8 : t155 < t157
  ·rw [if_pos c8] at H; have c8b0 := ct_ c8; clear c8; obtain rfl := oi_ H; have p153 : 0 ≤ (a1 : Int) := md_
   have q153 : a1 < (l0.length : Int) := md_
   obtain ⟨ad153, e153, hx153_0, hx153_1, hx153_2, hx153_3, hx153_4, hx153_5, hx153_6, hx153_7⟩ := at_T106 HR0.out a1 p153 q153; cases e153; replace p153 := eq_true p153; replace q153 := eq_true q153; have p154 : 0 ≤ (a1 : Int) := md_
   have q154 : a1 < (l0.length : Int) := md_
   obtain ⟨ad154, e154, hx154_0, hx154_1, hx154_2, hx154_3, hx154_4, hx154_5, hx154_6, hx154_7⟩ := at_T106 HR0.out a1 p154 q154; obtain rfl : ad153 = ad154 := (by injection e154); replace p154 := eq_true p154; replace q154 := eq_true q154; go_enter Tryz.func110, Tryz.ntmps110; go_wp2_with (first | ((with_reducible refine gate_callee (f := 110) rfl ?_); refine goesL_ (some 19) rfl rfl Tryz.func110 (by kernel_rfl) rfl #[.slice (some ad153) l0.length c0, .int .i64 ((rd_T106 l0 a1).f4)] rfl mw_ ?_; (with_reducible refine (ih k (by omega) _ _ l0 ((rd_T106 l0 a1).f4) t155 _ ?side1 HC0.out A6.out).mono ?_); (case side1 => repeat (first | exact HR0.out | (with_reducible refine Kd.C_alloc ?_ _) | (with_reducible refine Kd.C_drewN ?_ _) | (with_reducible refine Kd.C_drew ?_))); rintro e w' ⟨rfl, ⟨nd, rfl⟩⟩; refine ⟨_, rfl, ?_⟩; have p156 : 0 ≤ (a1 : Int) := md_; have q156 : a1 < (l0.length : Int) := md_; obtain ⟨ad156, e156, hx156_0, hx156_1, hx156_2, hx156_3, hx156_4, hx156_5, hx156_6, hx156_7⟩ := at_T106 HR0.out a1 p156 q156; obtain rfl : ad153 = ad156 := (by injection e156); replace p156 := eq_true p156; replace q156 := eq_true q156) | ((with_reducible refine gate_callee (f := 110) rfl ?_); refine goesL_ (some 26) rfl rfl Tryz.func110 (by kernel_rfl) rfl #[.slice (some ad153) l0.length c0, .int .i64 ((rd_T106 l0 a1).f5)] rfl mw_ ?_; (with_reducible refine (ih k (by omega) _ _ l0 ((rd_T106 l0 a1).f5) t157 _ ?side1 HC0.out A7.out).mono ?_); (case side1 => repeat (first | exact HR0.out | (with_reducible refine Kd.C_alloc ?_ _) | (with_reducible refine Kd.C_drewN ?_ _) | (with_reducible refine Kd.C_drew ?_))); rintro e w' ⟨rfl, ⟨nd, rfl⟩⟩; refine ⟨_, rfl, ?_⟩)); go_ret; exact ⟨by first | rfl | (simp; done) | (simp [*]; done), by repeat (first | exact Drawn0.refl _ | apply Drawn0.step)⟩
  ·rw [if_neg c8] at H; have c8b0 := cf_ c8; clear c8; obtain rfl := oi_ H; have p153 : 0 ≤ (a1 : Int) := md_
   have q153 : a1 < (l0.length : Int) := md_
   obtain ⟨ad153, e153, hx153_0, hx153_1, hx153_2, hx153_3, hx153_4, hx153_5, hx153_6, hx153_7⟩ := at_T106 HR0.out a1 p153 q153; cases e153; replace p153 := eq_true p153; replace q153 := eq_true q153; have p154 : 0 ≤ (a1 : Int) := md_
   have q154 : a1 < (l0.length : Int) := md_
   obtain ⟨ad154, e154, hx154_0, hx154_1, hx154_2, hx154_3, hx154_4, hx154_5, hx154_6, hx154_7⟩ := at_T106 HR0.out a1 p154 q154; obtain rfl : ad153 = ad154 := (by injection e154); replace p154 := eq_true p154; replace q154 := eq_true q154; go_enter Tryz.func110, Tryz.ntmps110; go_wp2_with (first | ((with_reducible refine gate_callee (f := 110) rfl ?_); refine goesL_ (some 19) rfl rfl Tryz.func110 (by kernel_rfl) rfl #[.slice (some ad153) l0.length c0, .int .i64 ((rd_T106 l0 a1).f4)] rfl mw_ ?_; (with_reducible refine (ih k (by omega) _ _ l0 ((rd_T106 l0 a1).f4) t155 _ ?side1 HC0.out A6.out).mono ?_); (case side1 => repeat (first | exact HR0.out | (with_reducible refine Kd.C_alloc ?_ _) | (with_reducible refine Kd.C_drewN ?_ _) | (with_reducible refine Kd.C_drew ?_))); rintro e w' ⟨rfl, ⟨nd, rfl⟩⟩; refine ⟨_, rfl, ?_⟩; have p156 : 0 ≤ (a1 : Int) := md_; have q156 : a1 < (l0.length : Int) := md_; obtain ⟨ad156, e156, hx156_0, hx156_1, hx156_2, hx156_3, hx156_4, hx156_5, hx156_6, hx156_7⟩ := at_T106 HR0.out a1 p156 q156; obtain rfl : ad153 = ad156 := (by injection e156); replace p156 := eq_true p156; replace q156 := eq_true q156) | ((with_reducible refine gate_callee (f := 110) rfl ?_); refine goesL_ (some 26) rfl rfl Tryz.func110 (by kernel_rfl) rfl #[.slice (some ad153) l0.length c0, .int .i64 ((rd_T106 l0 a1).f5)] rfl mw_ ?_; (with_reducible refine (ih k (by omega) _ _ l0 ((rd_T106 l0 a1).f5) t157 _ ?side1 HC0.out A7.out).mono ?_); (case side1 => repeat (first | exact HR0.out | (with_reducible refine Kd.C_alloc ?_ _) | (with_reducible refine Kd.C_drewN ?_ _) | (with_reducible refine Kd.C_drew ?_))); rintro e w' ⟨rfl, ⟨nd, rfl⟩⟩; refine ⟨_, rfl, ?_⟩)); go_ret; exact ⟨by first | rfl | (simp; done) | (simp [*]; done), by repeat (first | exact Drawn0.refl _ | apply Drawn0.step)⟩
 ·rw [if_neg c5] at H; obtain ⟨c5b0, c5b1⟩ := bn_ c5; obtain rfl := oi_ H; have p153 : 0 ≤ (a1 : Int) := md_
  have q153 : a1 < (l0.length : Int) := md_
  obtain ⟨ad153, e153, hx153_0, hx153_1, hx153_2, hx153_3, hx153_4, hx153_5, hx153_6, hx153_7⟩ := at_T106 HR0.out a1 p153 q153; cases e153; replace p153 := eq_true p153; replace q153 := eq_true q153; go_enter Tryz.func110, Tryz.ntmps110; go_wp2; go_ret; exact ⟨by first | rfl | (simp; done) | (simp [*]; done), by repeat (first | exact Drawn0.refl _ | apply Drawn0.step)⟩
end Go.Proofs.YtejjlkbbnhpbdaaGreat.P
namespace Go.Proofs.YtejjlkbbnhpbdaaGreat.P
open Go.Proofs.YtejjlkbbnhpbdaaGreatX
open Go.RowKit Go.Proofs.YtejjlkbbnhpbdaaGreatW.PrintWords Go.Proofs.YtejjlkbbnhpbdaaGreatW.PrintLast Go.Proofs.YtejjlkbbnhpbdaaGreatW.PrintMore
attribute [local go_sem] max2_int min2_int max_two min_two max_three min_three max_four min_four
set_option linter.unusedVariables false
set_option linter.unusedSimpArgs false
mutual
def spec_l2GoodExpr.j0 : Nat → List (S106) → Int → Bool → Int → Int → ByteArray → Int → Int → ByteArray → Int → Int → Option (Bool)
 | 0, _, _, _, _, _, _, _, _, _, _, _ => none
 | k + 1, x0, x1, x6, x160000, x160001, x160002, x160003, x160004, x160005, x160006, x160007 => if x160000 = 0 then (if x6 = true then (if x160002.toList = ([] : List UInt8) then ((spec_l1GoodVal.f k x160003 x160004 x160005).bind fun t160 => (some t160)) else (some false)) else (some false)) else (if x160000 = 1 then (if x6 = true then ((spec_l1GoodSym.f k x160002).bind fun t161 => (if t161 = true then ((spec_l2Zero.f x160003 x160004 x160005).bind fun t162 => (some t162)) else (some false))) else (some false)) else (if x160000 = 2 then ((spec_l2Ariths.f).bind fun t166 => ((spec_l2Is.f k (strOfNums (([x160001] : List Int))) t166).bind fun t169 => (if t169 = true then (if x160002.toList = ([] : List UInt8) then ((spec_l2Zero.f x160003 x160004 x160005).bind fun t170 => (if t170 = true then (if x160007 = (wrap64 (x1 - 1)) then (if x160007 < 0 then (spec_l2GoodExpr.j1 k x0 x1 true x160000 x160001 x160002 x160003 x160004 x160005 x160006 x160007) else (spec_l2GoodExpr.j1 k x0 x1 (decide (x160006 < 0)) x160000 x160001 x160002 x160003 x160004 x160005 x160006 x160007)) else (spec_l2GoodExpr.j1 k x0 x1 true x160000 x160001 x160002 x160003 x160004 x160005 x160006 x160007)) else (spec_l2GoodExpr.j1 k x0 x1 true x160000 x160001 x160002 x160003 x160004 x160005 x160006 x160007))) else (spec_l2GoodExpr.j1 k x0 x1 true x160000 x160001 x160002 x160003 x160004 x160005 x160006 x160007)) else (spec_l2GoodExpr.j1 k x0 x1 true x160000 x160001 x160002 x160003 x160004 x160005 x160006 x160007)))) else (some false)))
def spec_l2GoodExpr.j1 : Nat → List (S106) → Int → Bool → Int → Int → ByteArray → Int → Int → ByteArray → Int → Int → Option (Bool)
 | 0, _, _, _, _, _, _, _, _, _, _, _ => none
 | k + 1, x0, x1, x88, x160000, x160001, x160002, x160003, x160004, x160005, x160006, x160007 => if x88 = true then (some false) else ((spec_l2First.f k x0 x160007).bind fun t171 => (if x160006 = (wrap64 (t171 - 1)) then ((spec_l2Depth.f k x0 x1).bind fun t172 => (some (decide (t172 ≤ 20)))) else (some false)))
end
def spec_l2GoodExpr.f (k : Nat) (l0 : List (S106)) (a1 : Int) : Option (Bool) := if 0 ≤ a1 then (if a1 < (l0.length : Int) then (if ((rd_T106 l0 a1).f1) = 0 then (if ((rd_T106 l0 a1).f4) = 0 then (spec_l2GoodExpr.j0 k l0 a1 (((rd_T106 l0 a1).f5) == 0) ((rd_T106 l0 a1).f0) ((rd_T106 l0 a1).f1) ((rd_T106 l0 a1).f2) ((rd_T106 l0 a1).f3.f0) ((rd_T106 l0 a1).f3.f1) ((rd_T106 l0 a1).f3.f2) ((rd_T106 l0 a1).f4) ((rd_T106 l0 a1).f5)) else (spec_l2GoodExpr.j0 k l0 a1 false ((rd_T106 l0 a1).f0) ((rd_T106 l0 a1).f1) ((rd_T106 l0 a1).f2) ((rd_T106 l0 a1).f3.f0) ((rd_T106 l0 a1).f3.f1) ((rd_T106 l0 a1).f3.f2) ((rd_T106 l0 a1).f4) ((rd_T106 l0 a1).f5))) else (spec_l2GoodExpr.j0 k l0 a1 false ((rd_T106 l0 a1).f0) ((rd_T106 l0 a1).f1) ((rd_T106 l0 a1).f2) ((rd_T106 l0 a1).f3.f0) ((rd_T106 l0 a1).f3.f1) ((rd_T106 l0 a1).f3.f2) ((rd_T106 l0 a1).f4) ((rd_T106 l0 a1).f5))) else (none)) else (none)
theorem spec_l2GoodExpr.mono_l : ∀ k, (∀ y0 y1 y2 y3 y4 y5 y6 y7 y8 y9 y10, LeO (spec_l2GoodExpr.j0 k y0 y1 y2 y3 y4 y5 y6 y7 y8 y9 y10) (spec_l2GoodExpr.j0 (k + 1) y0 y1 y2 y3 y4 y5 y6 y7 y8 y9 y10)) ∧ (∀ y0 y1 y2 y3 y4 y5 y6 y7 y8 y9 y10, LeO (spec_l2GoodExpr.j1 k y0 y1 y2 y3 y4 y5 y6 y7 y8 y9 y10) (spec_l2GoodExpr.j1 (k + 1) y0 y1 y2 y3 y4 y5 y6 y7 y8 y9 y10))
 | 0 => ⟨fun _ _ _ _ _ _ _ _ _ _ _ r h => by simp [spec_l2GoodExpr.j0] at h, fun _ _ _ _ _ _ _ _ _ _ _ r h => by simp [spec_l2GoodExpr.j1] at h⟩
 | k + 1 => by
  obtain ⟨ih0, ih1⟩ := spec_l2GoodExpr.mono_l k; refine ⟨?_, ?_⟩
  ·intro y0 y1 y2 y3 y4 y5 y6 y7 y8 y9 y10; unfold spec_l2GoodExpr.j0
   repeat' with_reducible first | apply ih0 | apply ih1 | apply spec_l1GoodSym.mono | apply spec_l1GoodVal.mono | apply spec_l2Depth.mono | apply spec_l2First.mono | apply spec_l2Is.mono | apply LeO.refl | apply LeO.none | refine LeO.ite ?_ ?_ | refine LeO.bind ?_ (fun _ => ?_)
  ·intro y0 y1 y2 y3 y4 y5 y6 y7 y8 y9 y10; unfold spec_l2GoodExpr.j1
   repeat' with_reducible first | apply ih0 | apply ih1 | apply spec_l1GoodSym.mono | apply spec_l1GoodVal.mono | apply spec_l2Depth.mono | apply spec_l2First.mono | apply spec_l2Is.mono | apply LeO.refl | apply LeO.none | refine LeO.ite ?_ ?_ | refine LeO.bind ?_ (fun _ => ?_)
theorem spec_l2GoodExpr.mono : ∀ a0 a1 k, LeO (spec_l2GoodExpr.f k a0 a1) (spec_l2GoodExpr.f (k + 1) a0 a1) := by
 intro a0 a1 k; obtain ⟨ih0, ih1⟩ := spec_l2GoodExpr.mono_l k; unfold spec_l2GoodExpr.f
 repeat' with_reducible first | apply ih0 | apply ih1 | apply spec_l1GoodSym.mono | apply spec_l1GoodVal.mono | apply spec_l2Depth.mono | apply spec_l2First.mono | apply spec_l2Is.mono | apply LeO.refl | apply LeO.none | refine LeO.ite ?_ ?_ | refine LeO.bind ?_ (fun _ => ?_)
def spec_l2GoodExpr.T9 : Bool × List (List Nat × List Nat) := (true, [([], []), ([0], [0]), ([1], [1]), ([2], [2]), ([], []), ([3, 4, 4], [3, 4]), ([5], [5]), ([6, 5], [6]), ([7], [7]), ([8, 7], [7, 8]), ([9, 7], [7, 9]), ([7, 10], [7, 10]), ([11, 7], [11]), ([12], [12]), ([13, 12], [12, 13]), ([14, 12, 12], [12, 14]), ([15, 12], [12, 15]), ([12, 16], [12, 16]), ([17, 15], [17]), ([18], [18]), ([19, 18], [18, 19]), ([18], [18]), ([21, 18], [18, 21]), ([20, 22, 18], [18, 20, 22]), ([18, 23], [18, 23]), ([24, 18], [24]), ([25], [25]), ([26, 25], [25, 26]), ([27, 25], [25, 27]), ([25, 28], [25, 28]), ([29, 25], [29]), ([30], [30]), ([31, 30], [30, 31]), ([32, 30], [30, 32]), ([30, 33], [30, 33])])
def spec_l2GoodExpr.B9 : List Nat := [0, 1, 3, 7, 0, 31, 63, 127, 255, 511, 1023, 2047, 4095, 8191, 16383, 32767, 65535, 131071, 262143, 524287, 1048575, 524287, 2621439, 8388607, 16777215, 33554431, 67108863, 134217727, 268435455, 536870911, 1073741823, 2147483647, 4294967295, 8589934591, 17179869183]
theorem spec_l2GoodExpr.tab9 : rtab .any (opsOf Tryz.f89 9) = spec_l2GoodExpr.T9 := by kernel_rfl
theorem spec_l2GoodExpr.bits9 : waitsOk spec_l2GoodExpr.T9.2 spec_l2GoodExpr.B9 = true := by kernel_rfl
def spec_l2GoodExpr.T11 : Bool × List (List Nat × List Nat) := (true, [([], []), ([0], [0]), ([], []), ([], []), ([3], [3]), ([2, 4], [2, 4]), ([5], [5]), ([1, 6], [1, 6]), ([7, 5], [7]), ([8], [8]), ([8], [8]), ([9, 10, 8, 8], [8, 9, 10]), ([11, 8], [8, 11]), ([8, 12], [8, 12]), ([13, 11, 0, 1, 2, 3, 4, 5, 6, 7, 8, 9, 10, 11, 12, 13], [13])])
def spec_l2GoodExpr.B11 : List Nat := [0, 1, 0, 0, 8, 28, 60, 127, 255, 511, 511, 2047, 4095, 8191, 16383]
theorem spec_l2GoodExpr.tab11 : rtab .any (opsOf Tryz.f89 11) = spec_l2GoodExpr.T11 := by kernel_rfl
theorem spec_l2GoodExpr.bits11 : waitsOk spec_l2GoodExpr.T11.2 spec_l2GoodExpr.B11 = true := by kernel_rfl
abbrev be48_0 : Array Bool := #[f_,f_,f_,f_,f_,f_,f_,f_,f_,f_,f_,f_,f_,f_,f_,f_,f_,f_,f_,f_,f_,f_,f_,f_,f_,f_,f_,f_,f_,f_,f_,f_,f_,f_,f_]
abbrev be48_1 : Array Bool := #[t_,f_,f_,f_,f_,f_,f_,f_,f_,f_,f_,f_,f_,f_,f_,f_,f_,f_,f_,f_,f_,f_,f_,f_,f_,f_,f_,f_,f_,f_,f_,f_,f_,f_,f_]
abbrev be48_2 : Array Bool := #[t_,t_,f_,f_,f_,f_,f_,f_,f_,f_,f_,f_,f_,f_,f_,f_,f_,f_,f_,f_,f_,f_,f_,f_,f_,f_,f_,f_,f_,f_,f_,f_,f_,f_,f_]
abbrev be48_3 : Array Bool := #[t_,t_,t_,t_,t_,f_,f_,f_,f_,f_,f_,f_,f_,f_,f_,f_,f_,f_,f_,f_,f_,f_,f_,f_,f_,f_,f_,f_,f_,f_,f_,f_,f_,f_,f_]
abbrev be48_4 : Array Bool := #[t_,t_,t_,f_,f_,f_,f_,f_,f_,f_,f_,f_,f_,f_,f_,f_,f_,f_,f_,f_,f_,f_,f_,f_,f_,f_,f_,f_,f_,f_,f_,f_,f_,f_,f_]
abbrev be48_5 : Array Bool := #[t_,t_,f_,f_,t_,f_,f_,f_,f_,f_,f_,f_,f_,f_,f_,f_,f_,f_,f_,f_,f_,f_,f_,f_,f_,f_,f_,f_,f_,f_,f_,f_,f_,f_,f_]
abbrev be48_6 : Array Bool := #[t_,t_,t_,t_,f_,f_,f_,f_,f_,f_,f_,f_,f_,f_,f_,f_,f_,f_,f_,f_,f_,f_,f_,f_,f_,f_,f_,f_,f_,f_,f_,f_,f_,f_,f_]
abbrev be48_7 : Array Bool := #[t_,t_,t_,f_,t_,f_,f_,f_,f_,f_,f_,f_,f_,f_,f_,f_,f_,f_,f_,f_,f_,f_,f_,f_,f_,f_,f_,f_,f_,f_,f_,f_,f_,f_,f_]
abbrev be48_8 : Array Bool := #[t_,t_,t_,t_,t_,t_,f_,f_,f_,f_,f_,f_,f_,f_,f_,f_,f_,f_,f_,f_,f_,f_,f_,f_,f_,f_,f_,f_,f_,f_,f_,f_,f_,f_,f_]
abbrev be48_9 : Array Bool := #[t_,t_,t_,t_,t_,t_,t_,f_,f_,f_,f_,f_,f_,f_,f_,f_,f_,f_,f_,f_,f_,f_,f_,f_,f_,f_,f_,f_,f_,f_,f_,f_,f_,f_,f_]
abbrev be48_10 : Array Bool := #[t_,t_,t_,t_,t_,t_,t_,t_,f_,f_,f_,f_,f_,f_,f_,f_,f_,f_,f_,f_,f_,f_,f_,f_,f_,f_,f_,f_,f_,f_,f_,f_,f_,f_,f_]
abbrev be48_11 : Array Bool := #[t_,t_,t_,t_,t_,t_,t_,t_,t_,f_,f_,f_,f_,f_,f_,f_,f_,f_,f_,f_,f_,f_,f_,f_,f_,f_,f_,f_,f_,f_,f_,f_,f_,f_,f_]
abbrev be48_12 : Array Bool := #[t_,t_,t_,t_,t_,t_,t_,t_,t_,t_,f_,f_,f_,f_,f_,f_,f_,f_,f_,f_,f_,f_,f_,f_,f_,f_,f_,f_,f_,f_,f_,f_,f_,f_,f_]
abbrev be48_13 : Array Bool := #[t_,t_,t_,t_,t_,t_,t_,t_,t_,t_,t_,f_,f_,f_,f_,f_,f_,f_,f_,f_,f_,f_,f_,f_,f_,f_,f_,f_,f_,f_,f_,f_,f_,f_,f_]
abbrev be48_14 : Array Bool := #[t_,t_,t_,t_,t_,t_,t_,t_,t_,t_,t_,t_,f_,f_,f_,f_,f_,f_,f_,f_,f_,f_,f_,f_,f_,f_,f_,f_,f_,f_,f_,f_,f_,f_,f_]
abbrev be48_15 : Array Bool := #[t_,t_,t_,t_,t_,t_,t_,t_,t_,t_,t_,t_,t_,f_,f_,f_,f_,f_,f_,f_,f_,f_,f_,f_,f_,f_,f_,f_,f_,f_,f_,f_,f_,f_,f_]
abbrev be48_16 : Array Bool := #[t_,t_,t_,t_,t_,t_,t_,t_,t_,t_,t_,t_,t_,t_,f_,f_,f_,f_,f_,f_,f_,f_,f_,f_,f_,f_,f_,f_,f_,f_,f_,f_,f_,f_,f_]
abbrev be48_17 : Array Bool := #[t_,t_,t_,t_,t_,t_,t_,t_,t_,t_,t_,t_,t_,t_,t_,f_,f_,f_,f_,f_,f_,f_,f_,f_,f_,f_,f_,f_,f_,f_,f_,f_,f_,f_,f_]
abbrev be48_18 : Array Bool := #[t_,t_,t_,t_,t_,t_,t_,t_,t_,t_,t_,t_,t_,t_,t_,t_,f_,f_,f_,f_,f_,f_,f_,f_,f_,f_,f_,f_,f_,f_,f_,f_,f_,f_,f_]
abbrev be48_19 : Array Bool := #[t_,t_,t_,t_,t_,t_,t_,t_,t_,t_,t_,t_,t_,t_,t_,t_,t_,f_,f_,f_,f_,f_,f_,f_,f_,f_,f_,f_,f_,f_,f_,f_,f_,f_,f_]
abbrev be48_20 : Array Bool := #[t_,t_,t_,t_,t_,t_,t_,t_,t_,t_,t_,t_,t_,t_,t_,t_,t_,t_,f_,f_,f_,f_,f_,f_,f_,f_,f_,f_,f_,f_,f_,f_,f_,f_,f_]
abbrev be48_21 : Array Bool := #[t_,t_,t_,t_,t_,t_,t_,t_,t_,t_,t_,t_,t_,t_,t_,t_,t_,t_,t_,f_,f_,f_,f_,f_,f_,f_,f_,f_,f_,f_,f_,f_,f_,f_,f_]
abbrev be48_22 : Array Bool := #[t_,t_,t_,t_,t_,t_,t_,t_,t_,t_,t_,t_,t_,t_,t_,t_,t_,t_,t_,t_,f_,f_,f_,f_,f_,f_,f_,f_,f_,f_,f_,f_,f_,f_,f_]
abbrev be48_23 : Array Bool := #[t_,t_,t_,t_,t_,t_,t_,t_,t_,t_,t_,t_,t_,t_,t_,t_,t_,t_,t_,t_,f_,t_,f_,f_,f_,f_,f_,f_,f_,f_,f_,f_,f_,f_,f_]
abbrev be48_24 : Array Bool := #[t_,t_,t_,t_,t_,t_,t_,t_,t_,t_,t_,t_,t_,t_,t_,t_,t_,t_,t_,t_,f_,t_,t_,f_,f_,f_,f_,f_,f_,f_,f_,f_,f_,f_,f_]
abbrev be48_25 : Array Bool := #[t_,t_,t_,t_,t_,t_,t_,t_,t_,t_,t_,t_,t_,t_,t_,t_,t_,t_,t_,t_,t_,t_,t_,f_,f_,f_,f_,f_,f_,f_,f_,f_,f_,f_,f_]
abbrev be48_26 : Array Bool := #[t_,t_,t_,t_,t_,t_,t_,t_,t_,t_,t_,t_,t_,t_,t_,t_,t_,t_,t_,t_,t_,t_,t_,t_,f_,f_,f_,f_,f_,f_,f_,f_,f_,f_,f_]
abbrev be48_27 : Array Bool := #[t_,t_,t_,t_,t_,t_,t_,t_,t_,t_,t_,t_,t_,t_,t_,t_,t_,t_,t_,t_,t_,t_,t_,t_,t_,f_,f_,f_,f_,f_,f_,f_,f_,f_,f_]
abbrev be48_28 : Array Bool := #[t_,t_,t_,t_,t_,t_,t_,t_,t_,t_,t_,t_,t_,t_,t_,t_,t_,t_,t_,t_,t_,t_,t_,t_,t_,t_,f_,f_,f_,f_,f_,f_,f_,f_,f_]
abbrev be48_29 : Array Bool := #[t_,t_,t_,t_,t_,t_,t_,t_,t_,t_,t_,t_,t_,t_,t_,t_,t_,t_,t_,t_,t_,t_,t_,t_,t_,t_,t_,f_,f_,f_,f_,f_,f_,f_,f_]
abbrev be48_30 : Array Bool := #[t_,t_,t_,t_,t_,t_,t_,t_,t_,t_,t_,t_,t_,t_,t_,t_,t_,t_,t_,t_,t_,t_,t_,t_,t_,t_,t_,t_,f_,f_,f_,f_,f_,f_,f_]
abbrev be48_31 : Array Bool := #[t_,t_,t_,t_,t_,t_,t_,t_,t_,t_,t_,t_,t_,t_,t_,t_,t_,t_,t_,t_,t_,t_,t_,t_,t_,t_,t_,t_,t_,f_,f_,f_,f_,f_,f_]
abbrev be48_32 : Array Bool := #[t_,t_,t_,t_,t_,t_,t_,t_,t_,t_,t_,t_,t_,t_,t_,t_,t_,t_,t_,t_,t_,t_,t_,t_,t_,t_,t_,t_,t_,t_,f_,f_,f_,f_,f_]
abbrev be48_33 : Array Bool := #[t_,t_,t_,t_,t_,t_,t_,t_,t_,t_,t_,t_,t_,t_,t_,t_,t_,t_,t_,t_,t_,t_,t_,t_,t_,t_,t_,t_,t_,t_,t_,f_,f_,f_,f_]
abbrev be48_34 : Array Bool := #[t_,t_,t_,t_,t_,t_,t_,t_,t_,t_,t_,t_,t_,t_,t_,t_,t_,t_,t_,t_,t_,t_,t_,t_,t_,t_,t_,t_,t_,t_,t_,t_,f_,f_,f_]
abbrev be48_35 : Array Bool := #[t_,t_,t_,t_,t_,t_,t_,t_,t_,t_,t_,t_,t_,t_,t_,t_,t_,t_,t_,t_,t_,t_,t_,t_,t_,t_,t_,t_,t_,t_,t_,t_,t_,f_,f_]
abbrev be48_36 : Array Bool := #[t_,t_,t_,t_,t_,t_,t_,t_,t_,t_,t_,t_,t_,t_,t_,t_,t_,t_,t_,t_,t_,t_,t_,t_,t_,t_,t_,t_,t_,t_,t_,t_,t_,t_,f_]
abbrev be48_37 : Array Bool := #[t_,t_,t_,t_,t_,t_,t_,t_,t_,t_,t_,t_,t_,t_,t_,t_,t_,t_,t_,t_,t_,t_,t_,t_,t_,t_,t_,t_,t_,t_,t_,t_,t_,t_,t_]
abbrev be48_38 : Array Bool := #[t_,t_,t_,t_,t_,t_,t_,t_,t_,t_,t_,t_,t_,t_,t_,t_,t_,t_,t_,t_,t_,f_,f_,f_,f_,f_,f_,f_,f_,f_,f_,f_,f_,f_,f_]
abbrev be48_39 : Array Bool := #[t_,t_,t_,t_,t_,t_,t_,t_,t_,t_,t_,t_,t_,t_,t_,t_,t_,t_,t_,t_,t_,t_,f_,f_,f_,f_,f_,f_,f_,f_,f_,f_,f_,f_,f_]
abbrev be48_40 : Array Bool := #[f_,f_,f_,f_,f_,f_,f_,f_,f_,f_,f_,f_,f_,f_,f_]
abbrev be48_41 : Array Bool := #[t_,f_,f_,f_,f_,f_,f_,f_,f_,f_,f_,f_,f_,f_,f_]
abbrev be48_42 : Array Bool := #[t_,f_,t_,f_,f_,f_,f_,f_,f_,f_,f_,f_,f_,f_,f_]
abbrev be48_43 : Array Bool := #[t_,f_,t_,t_,f_,f_,f_,f_,f_,f_,f_,f_,f_,f_,f_]
abbrev be48_44 : Array Bool := #[t_,t_,t_,t_,f_,f_,f_,f_,f_,f_,f_,f_,f_,f_,f_]
abbrev be48_45 : Array Bool := #[t_,t_,t_,t_,t_,f_,f_,f_,f_,f_,f_,f_,f_,f_,f_]
abbrev be48_46 : Array Bool := #[t_,t_,t_,t_,t_,t_,f_,f_,f_,f_,f_,f_,f_,f_,f_]
abbrev be48_47 : Array Bool := #[t_,t_,t_,t_,t_,t_,t_,f_,f_,f_,f_,f_,f_,f_,f_]
abbrev be48_48 : Array Bool := #[t_,t_,t_,t_,t_,t_,t_,t_,f_,f_,f_,f_,f_,f_,f_]
abbrev be48_49 : Array Bool := #[t_,t_,t_,t_,t_,t_,t_,t_,t_,f_,f_,f_,f_,f_,f_]
abbrev be48_50 : Array Bool := #[t_,t_,t_,t_,t_,t_,t_,t_,t_,t_,f_,f_,f_,f_,f_]
abbrev be48_51 : Array Bool := #[t_,t_,t_,t_,t_,t_,t_,t_,t_,t_,t_,f_,f_,f_,f_]
abbrev be48_52 : Array Bool := #[t_,t_,t_,t_,t_,t_,t_,t_,t_,t_,t_,t_,f_,f_,f_]
abbrev be48_53 : Array Bool := #[t_,t_,t_,t_,t_,t_,t_,t_,t_,t_,t_,t_,t_,f_,f_]
abbrev be48_54 : Array Bool := #[t_,t_,t_,t_,t_,t_,t_,t_,t_,t_,t_,t_,t_,t_,f_]
abbrev be48_55 : Array Bool := #[t_,t_,t_,t_,t_,t_,t_,t_,t_,t_,t_,t_,t_,t_,t_]
set_option maxHeartbeats 8000000 in
set_option maxRecDepth 100000 in
theorem spec_l2GoodExpr.calls (k : Nat) (A0 : Option Addr) (c0 : Nat) (l0 : List (S106)) (a1 : Int) (r : Bool) (w : World) (hr0 : Kd.C k106 w A0 l0.length l0) (hc0 : l0.length ≤ c0) (h : spec_l2GoodExpr.f k l0 a1 = some r) :
  Calls Tryz.prog 89 #[.slice A0 l0.length c0, .int .i64 a1] w fun e w' => e = .returned (.bool r) ∧ Below w.heap.size w w' := by
 have hu106 := Tryz.underlying106; have hu104 := Tryz.underlying104; have HR0 := a_ hr0; have HC0 := a_ hc0; clear hr0 hc0; have HB := a_ (Below.refl w.heap.size w); have H : (if 0 ≤ a1 then (if a1 < (l0.length : Int) then (if ((rd_T106 l0 a1).f1) = 0 then (if ((rd_T106 l0 a1).f4) = 0 then (spec_l2GoodExpr.j0 k l0 a1 (((rd_T106 l0 a1).f5) == 0) ((rd_T106 l0 a1).f0) ((rd_T106 l0 a1).f1) ((rd_T106 l0 a1).f2) ((rd_T106 l0 a1).f3.f0) ((rd_T106 l0 a1).f3.f1) ((rd_T106 l0 a1).f3.f2) ((rd_T106 l0 a1).f4) ((rd_T106 l0 a1).f5)) else (spec_l2GoodExpr.j0 k l0 a1 false ((rd_T106 l0 a1).f0) ((rd_T106 l0 a1).f1) ((rd_T106 l0 a1).f2) ((rd_T106 l0 a1).f3.f0) ((rd_T106 l0 a1).f3.f1) ((rd_T106 l0 a1).f3.f2) ((rd_T106 l0 a1).f4) ((rd_T106 l0 a1).f5))) else (spec_l2GoodExpr.j0 k l0 a1 false ((rd_T106 l0 a1).f0) ((rd_T106 l0 a1).f1) ((rd_T106 l0 a1).f2) ((rd_T106 l0 a1).f3.f0) ((rd_T106 l0 a1).f3.f1) ((rd_T106 l0 a1).f3.f2) ((rd_T106 l0 a1).f4) ((rd_T106 l0 a1).f5))) else (none)) else (none)) = some r := h
 clear h; by_cases c3 : 0 ≤ a1
 case neg => rw [if_neg c3] at H; cases H
 rw [if_pos c3] at H; have c3b0 := ct_ c3; clear c3; by_cases c4 : a1 < (l0.length : Int)
 case neg => rw [if_neg c4] at H; cases H
 rw [if_pos c4] at H; have c4b0 := ct_ c4; clear c4; have HC5 := a_ H; clear H; have p158 : 0 ≤ (a1 : Int) := md_
 have q158 : a1 < (l0.length : Int) := md_
 obtain ⟨ad158, e158, hx158_0, hx158_1, hx158_2, hx158_3, hx158_4, hx158_5, hx158_6, hx158_7⟩ := at_T106 HR0.out a1 p158 q158; cases e158; replace p158 := eq_true p158; replace q158 := eq_true q158; go_enter Tryz.func89, Tryz.ntmps89; go_upto_region 2 with (first | ((with_reducible refine gate_dst (N := 5) rfl ?_); refine bh_ 5 #[.int .i64 0, .int .u8 0, .string (⟨#[]⟩ : ByteArray), .int .i64 0, .int .i64 0, .string (⟨#[]⟩ : ByteArray), .int .i64 0, .int .i64 0] 106 HB ?_; intro gb159 hg w6 BK159 GE159 hb; replace HB := ms_ HB hb; clear hb hg; obtain ⟨z7_0, z7_1, z7_2, z7_3, z7_4, z7_5, z7_6, z7_7, zf7_0, zf7_1, zf7_2, zf7_3, zf7_4, zf7_5, zf7_6, zf7_7⟩ := cz8 BK159)); (try simp only [Act.put, ps_]); go_cut [6] (fun v6 wc => ∃ (kq : Nat) (x6_4 : Bool), v6 = .bool x6_4 ∧ Aside0 (spec_l2GoodExpr.j0 kq l0 a1 x6_4 ((rd_T106 l0 a1).f0) ((rd_T106 l0 a1).f1) ((rd_T106 l0 a1).f2) ((rd_T106 l0 a1).f3.f0) ((rd_T106 l0 a1).f3.f1) ((rd_T106 l0 a1).f3.f2) ((rd_T106 l0 a1).f4) ((rd_T106 l0 a1).f5) = some r) ∧ Aside0 (kq ≤ k) ∧ Aside0 (wc.heap[gb159]? = some (.cells #[.int .i64 ((rd_T106 l0 a1).f0), .int .u8 ((rd_T106 l0 a1).f1), .string ((rd_T106 l0 a1).f2), .int .i64 ((rd_T106 l0 a1).f3.f0), .int .i64 ((rd_T106 l0 a1).f3.f1), .string ((rd_T106 l0 a1).f3.f2), .int .i64 ((rd_T106 l0 a1).f4), .int .i64 ((rd_T106 l0 a1).f5)] 106 (0, 0))) ∧ Aside0 (Below w.heap.size w wc))
 case first =>
  have H := HC5.out; clear HC5; by_cases c8 : ((rd_T106 l0 a1).f1) = 0
  ·rw [if_pos c8] at H; obtain ⟨c8b0, c8b1⟩ := bq_ c8; clear c8; (first | rw [c8b0] | (simp only [i64_w, i32_w]; rw [c8b0]) | skip); by_cases c9 : ((rd_T106 l0 a1).f4) = 0
   ·rw [if_pos c9] at H; obtain ⟨c9b0, c9b1⟩ := bq_ c9; clear c9; have H' := a_ H; clear H; obtain ⟨z10_0, z10_1, z10_2, z10_3, z10_4, z10_5, z10_6, z10_7, zf10_0, zf10_1, zf10_2, zf10_3, zf10_4, zf10_5, zf10_6, zf10_7⟩ := cz8 BK159; go_wp2; go_meet
    case rel => exact ⟨_, ((((rd_T106 l0 a1).f5) == 0)), mq_, H', ⟨by first | omega | exact Nat.le_refl _⟩, ⟨mp_ BK159⟩, ⟨mb_ HB⟩⟩
   ·rw [if_neg c9] at H; obtain ⟨c9b0, c9b1⟩ := bn_ c9; have H' := a_ H; clear H; obtain ⟨z11_0, z11_1, z11_2, z11_3, z11_4, z11_5, z11_6, z11_7, zf11_0, zf11_1, zf11_2, zf11_3, zf11_4, zf11_5, zf11_6, zf11_7⟩ := cz8 BK159; go_wp2; go_meet
    case rel => exact ⟨_, (false), mq_, H', ⟨by first | omega | exact Nat.le_refl _⟩, ⟨mp_ BK159⟩, ⟨mb_ HB⟩⟩
  ·rw [if_neg c8] at H; obtain ⟨c8b0, c8b1⟩ := bn_ c8; (first | rw [c8b0] | (simp only [i64_w, i32_w]; rw [c8b0]) | skip); have H' := a_ H; clear H; obtain ⟨z12_0, z12_1, z12_2, z12_3, z12_4, z12_5, z12_6, z12_7, zf12_0, zf12_1, zf12_2, zf12_3, zf12_4, zf12_5, zf12_6, zf12_7⟩ := cz8 BK159; go_wp2; go_meet
   case rel => exact ⟨_, (false), mq_, H', ⟨by first | omega | exact Nat.le_refl _⟩, ⟨mp_ BK159⟩, ⟨mb_ HB⟩⟩
 clear HC5; (try clear c3b0); (try clear c4b0); (try clear hx158_0); (try clear hx158_1); (try clear hx158_2); (try clear hx158_3); (try clear hx158_4); (try clear hx158_5); (try clear hx158_6); (try clear hx158_7); (try clear p158); (try clear q158); obtain ⟨kq, x6_4, rfl, HA, HJ4, BK159, HB⟩ := hcut; obtain _ | kj4 := kq
 ·exact absurd HA.out (by simp [spec_l2GoodExpr.j0])
 have H := HA.out; clear HA; simp only [spec_l2GoodExpr.j0] at H; by_cases c13 : ((rd_T106 l0 a1).f0) = 0
 ·rw [if_pos c13] at H; obtain ⟨c13b0, c13b1⟩ := bq_ c13; clear c13; by_cases c14 : x6_4 = true
  ·subst c14; rw [if_pos rfl] at H; by_cases c15 : ((rd_T106 l0 a1).f2).toList = ([] : List UInt8)
   ·rw [if_pos c15] at H; obtain ⟨c15b0, c15b1⟩ := bq_ c15; clear c15; obtain ⟨t160, A16, H⟩ := ob_ H; obtain rfl := oi_ H; obtain ⟨z17_0, z17_1, z17_2, z17_3, z17_4, z17_5, z17_6, z17_7, zf17_0, zf17_1, zf17_2, zf17_3, zf17_4, zf17_5, zf17_6, zf17_7⟩ := cz8 BK159; go_wp2_with (first | (go_at_call 107; (with_reducible refine (spec_l1GoodVal.calls kj4 ((rd_T106 l0 a1).f3.f0) ((rd_T106 l0 a1).f3.f1) ((rd_T106 l0 a1).f3.f2) t160 _ A16.out).mono ?_); rintro e w18 ⟨rfl, hb⟩; replace BK159 := mk_ BK159 hb; replace HB := ms_ HB hb; (try clear hb))); go_ret; exact ⟨me_, mb_ HB⟩
   ·rw [if_neg c15] at H; obtain ⟨c15b0, c15b1⟩ := bn_ c15; obtain rfl := oi_ H; obtain ⟨z19_0, z19_1, z19_2, z19_3, z19_4, z19_5, z19_6, z19_7, zf19_0, zf19_1, zf19_2, zf19_3, zf19_4, zf19_5, zf19_6, zf19_7⟩ := cz8 BK159; go_wp2; go_ret; exact ⟨me_, mb_ HB⟩
  ·replace c14 := Bool.eq_false_iff.mpr c14; subst c14; rw [if_neg (show ¬ (false = true) by decide)] at H; obtain rfl := oi_ H; obtain ⟨z20_0, z20_1, z20_2, z20_3, z20_4, z20_5, z20_6, z20_7, zf20_0, zf20_1, zf20_2, zf20_3, zf20_4, zf20_5, zf20_6, zf20_7⟩ := cz8 BK159; go_wp2; go_ret; exact ⟨me_, mb_ HB⟩
 ·rw [if_neg c13] at H; obtain ⟨c13b0, c13b1⟩ := bn_ c13; by_cases c21 : ((rd_T106 l0 a1).f0) = 1
  ·rw [if_pos c21] at H; obtain ⟨c21b0, c21b1⟩ := bq_ c21; clear c21; by_cases c22 : x6_4 = true
   ·subst c22; rw [if_pos rfl] at H; obtain ⟨t161, A23, H⟩ := ob_ H; by_cases c24 : t161 = true
    ·subst c24; rw [if_pos rfl] at H; obtain ⟨t162, A25, H⟩ := ob_ H; obtain rfl := oi_ H; obtain ⟨z26_0, z26_1, z26_2, z26_3, z26_4, z26_5, z26_6, z26_7, zf26_0, zf26_1, zf26_2, zf26_3, zf26_4, zf26_5, zf26_6, zf26_7⟩ := cz8 BK159; go_wp2_with (first | (go_at_call 87; (with_reducible refine (spec_l1GoodSym.calls kj4 ((rd_T106 l0 a1).f2) true _ A23.out).mono ?_); rintro e w' ⟨rfl, ⟨nd, rfl⟩⟩) | (go_at_call 108; (with_reducible refine (spec_l2Zero.calls ((rd_T106 l0 a1).f3.f0) ((rd_T106 l0 a1).f3.f1) ((rd_T106 l0 a1).f3.f2) t162 _ A25.out).mono ?_); rintro e w27 ⟨rfl, hb⟩; replace BK159 := mk_ BK159 hb; replace HB := ms_ HB hb; (try clear hb))); go_ret; exact ⟨me_, mb_ HB⟩
    ·replace c24 := Bool.eq_false_iff.mpr c24; subst c24; rw [if_neg (show ¬ (false = true) by decide)] at H; obtain rfl := oi_ H; obtain ⟨z28_0, z28_1, z28_2, z28_3, z28_4, z28_5, z28_6, z28_7, zf28_0, zf28_1, zf28_2, zf28_3, zf28_4, zf28_5, zf28_6, zf28_7⟩ := cz8 BK159; go_wp2_with (first | (go_at_call 87; (with_reducible refine (spec_l1GoodSym.calls kj4 ((rd_T106 l0 a1).f2) false _ A23.out).mono ?_); rintro e w' ⟨rfl, ⟨nd, rfl⟩⟩)); go_ret; exact ⟨me_, mb_ HB⟩
   ·replace c22 := Bool.eq_false_iff.mpr c22; subst c22; rw [if_neg (show ¬ (false = true) by decide)] at H; obtain rfl := oi_ H; obtain ⟨z29_0, z29_1, z29_2, z29_3, z29_4, z29_5, z29_6, z29_7, zf29_0, zf29_1, zf29_2, zf29_3, zf29_4, zf29_5, zf29_6, zf29_7⟩ := cz8 BK159; go_wp2; go_ret; exact ⟨me_, mb_ HB⟩
  ·rw [if_neg c21] at H; obtain ⟨c21b0, c21b1⟩ := bn_ c21; by_cases c30 : ((rd_T106 l0 a1).f0) = 2
   ·rw [if_pos c30] at H; obtain ⟨c30b0, c30b1⟩ := bq_ c30; clear c30; have HC31 := a_ H; clear H; obtain ⟨z32_0, z32_1, z32_2, z32_3, z32_4, z32_5, z32_6, z32_7, zf32_0, zf32_1, zf32_2, zf32_3, zf32_4, zf32_5, zf32_6, zf32_7⟩ := cz8 BK159; go_upto_region 9 with (fail); go_cut [88] (fun v88 wc => ∃ (kq : Nat) (x88_30 : Bool), v88 = .bool x88_30 ∧ Aside0 (spec_l2GoodExpr.j1 kq l0 a1 x88_30 ((rd_T106 l0 a1).f0) ((rd_T106 l0 a1).f1) ((rd_T106 l0 a1).f2) ((rd_T106 l0 a1).f3.f0) ((rd_T106 l0 a1).f3.f1) ((rd_T106 l0 a1).f3.f2) ((rd_T106 l0 a1).f4) ((rd_T106 l0 a1).f5) = some r) ∧ Aside0 (kq ≤ kj4) ∧ Aside0 (wc.heap[gb159]? = some (.cells #[.int .i64 ((rd_T106 l0 a1).f0), .int .u8 ((rd_T106 l0 a1).f1), .string ((rd_T106 l0 a1).f2), .int .i64 ((rd_T106 l0 a1).f3.f0), .int .i64 ((rd_T106 l0 a1).f3.f1), .string ((rd_T106 l0 a1).f3.f2), .int .i64 ((rd_T106 l0 a1).f4), .int .i64 ((rd_T106 l0 a1).f5)] 106 (0, 0))) ∧ Aside0 (Below w.heap.size w wc))
    case first =>
     have H := HC31.out; clear HC31; obtain ⟨y163, hy163⟩ : ∃ y_ : List Int, y_ = (([((rd_T106 l0 a1).f1)] : List Int)) := ⟨_, rfl⟩; rw [← hy163] at H; (try rw [Option.bind_some] at H); have Ny163 := a_ hy163; clear hy163; obtain ⟨t166, A33, H⟩ := ob_ H; obtain ⟨t169, A34, H⟩ := ob_ H; by_cases c35 : t169 = true
     ·subst c35; rw [if_pos rfl] at H; by_cases c36 : ((rd_T106 l0 a1).f2).toList = ([] : List UInt8)
      ·rw [if_pos c36] at H; obtain ⟨c36b0, c36b1⟩ := bq_ c36; clear c36; (first | rw [c36b0] | (simp only [i64_w, i32_w]; rw [c36b0]) | skip); obtain ⟨t170, A37, H⟩ := ob_ H; by_cases c38 : t170 = true
       ·subst c38; rw [if_pos rfl] at H; by_cases c39 : ((rd_T106 l0 a1).f5) = (wrap64 (a1 - 1))
        ·rw [if_pos c39] at H; obtain ⟨c39b0, c39b1⟩ := bq_ c39; clear c39; by_cases c40 : ((rd_T106 l0 a1).f5) < 0
         ·rw [if_pos c40] at H; have c40b0 := ct_ c40; clear c40; have H' := a_ H; clear H; try go_wp2
          replace BK159 := a_ (blk_drew BK159.out); replace HB := a_ (below_drew1 HB.out); refine start_ (n := 35) (S := fun w' => w'.cell? ⟨gb159, 0, none⟩ = some (.int .i64 ((rd_T106 l0 a1).f0)) ∧ w'.cell? ⟨gb159, 1, none⟩ = some (.int .u8 ((rd_T106 l0 a1).f1)) ∧ w'.cell? ⟨gb159, 2, none⟩ = some (.string ((rd_T106 l0 a1).f2)) ∧ w'.cell? ⟨gb159, 3, none⟩ = some (.int .i64 ((rd_T106 l0 a1).f3.f0)) ∧ w'.cell? ⟨gb159, 4, none⟩ = some (.int .i64 ((rd_T106 l0 a1).f3.f1)) ∧ w'.cell? ⟨gb159, 5, none⟩ = some (.string ((rd_T106 l0 a1).f3.f2)) ∧ w'.cell? ⟨gb159, 6, none⟩ = some (.int .i64 ((rd_T106 l0 a1).f4)) ∧ w'.cell? ⟨gb159, 7, none⟩ = some (.int .i64 ((rd_T106 l0 a1).f5))) (ds := []) be48_0 (by kernel_rfl) rfl rfl ⟨bk_ BK159 0, bk_ BK159 1, bk_ BK159 2, bk_ BK159 3, bk_ BK159 4, bk_ BK159 5, bk_ BK159 6, bk_ BK159 7⟩ (fun hHeld => ?_); refine with_tabW spec_l2GoodExpr.tab9 spec_l2GoodExpr.bits9 (fun HT_ HW_ => ?_); generalize wc.drew = w41 at BK159 HB hHeld ⊢; refine pu_ 0 54 be48_1 (any_of HT_.out (by kernel_rfl)) ?_; refine tk_ 1 55 be48_2 (take_ofW HT_.out HW_.out (by kernel_rfl)) hHeld ?_; refine join_ (σ := Value × Value) 30 be48_3 (fun s_ => [(56, s_.1), (57, .string (strOfNums y163)), (58, s_.2)]) (fun s_ w' => (w'.cell? ⟨gb159, 0, none⟩ = some (.int .i64 ((rd_T106 l0 a1).f0)) ∧ w'.cell? ⟨gb159, 1, none⟩ = some (.int .u8 ((rd_T106 l0 a1).f1)) ∧ w'.cell? ⟨gb159, 2, none⟩ = some (.string ((rd_T106 l0 a1).f2)) ∧ w'.cell? ⟨gb159, 3, none⟩ = some (.int .i64 ((rd_T106 l0 a1).f3.f0)) ∧ w'.cell? ⟨gb159, 4, none⟩ = some (.int .i64 ((rd_T106 l0 a1).f3.f1)) ∧ w'.cell? ⟨gb159, 5, none⟩ = some (.string ((rd_T106 l0 a1).f3.f2)) ∧ w'.cell? ⟨gb159, 6, none⟩ = some (.int .i64 ((rd_T106 l0 a1).f4)) ∧ w'.cell? ⟨gb159, 7, none⟩ = some (.int .i64 ((rd_T106 l0 a1).f5))) ∧ (Kd.R (Kd.int .u8) 5 w' w.heap.size (fun _ => True) s_.1 y163) ∧ (Kd.R Kd.string 9 w' w.heap.size (fun _ => True) s_.2 t166) ∧ (w'.heap[gb159]? = some (.cells #[.int .i64 ((rd_T106 l0 a1).f0), .int .u8 ((rd_T106 l0 a1).f1), .string ((rd_T106 l0 a1).f2), .int .i64 ((rd_T106 l0 a1).f3.f0), .int .i64 ((rd_T106 l0 a1).f3.f1), .string ((rd_T106 l0 a1).f3.f2), .int .i64 ((rd_T106 l0 a1).f4), .int .i64 ((rd_T106 l0 a1).f5)] 106 (0, 0))) ∧ (Below w.heap.size w w')) ?_ ?_
          rotate_left
          ·intro hCont; refine two_ (i := 2) (j := 4) (Ni := some 56) (Nj := some 58) be48_4 be48_5 rfl rfl rfl rfl (two_of HT_.out (by kernel_rfl)) (by decide) (by decide) (fun K hK => ?_) (fun K hK => ?_)
           ·skip; refine Kd.R_lit_step (Kd.int .u8) _ 5 ?hg (N := 56) ?hd (xs := ([((rd_T106 l0 a1).f1)] : List Int)) (inner := [.int .u8 ((rd_T106 l0 a1).f1)]) (ok := fun _ => True) (okp := fun _ => True) ?hr ?hp (fun _ hk => hk) trivial (Below.refl _ _) (Nat.le_refl _) (by simp) ?_; (case hd => rfl); (case hg => rfl); (case hr => first | (go_simp; done) | (go_simp; rfl)); (case hp => exact (Reps.one (show Kd.M (Kd.int .u8) _ _ _ ((rd_T106 l0 a1).f1) [.int .u8 ((rd_T106 l0 a1).f1)] from rfl) (Reps.none _ _))); intro v164 w42 ho43 hb hg_ hnew_; clear hg_ hnew_; (first | rw [← Ny163.out] at ho43 | (simp only [Int.reduceToNat] at ho43; rw [← Ny163.out] at ho43)); have HO165 := a_ (Kd.R_lower ho43 (below_size (mb_ HB))); replace BK159 := mk_ BK159 hb; replace HB := ms_ HB hb; clear hb ho43; refine hK.out _ _ (bc8 BK159) fun hHeld => ?_
            clear hK K; refine nm_ 56 ?_; refine two_ (i := 3) (j := 4) (Ni := some 57) (Nj := some 58) be48_6 be48_7 rfl rfl rfl rfl (two_of HT_.out (by kernel_rfl)) (by decide) (by decide) (fun K hK => ?_) (fun K hK => ?_)
            ·skip; have hcv44 := own_string (P := Tryz.prog) Tryz.underlying98 Tryz.underlying5 Tryz.underlying9 (Kd.own_of_R HO165.out); refine value_ (w1 := ?_) (v := ?_) (by rfl) rfl ?_ ?_; rotate_left 2
             ·go_simp; constructor
              ·rfl
              ·rfl
             clear hcv44; refine hK.out _ _ (bc8 BK159) fun hHeld => ?_
             clear hK K; refine nm_ 57 ?_; refine one_ (i := 4) (N := some 58) be48_3 rfl rfl (one_of HT_.out (by kernel_rfl)) (by decide) (fun K hK => ?_); refine goes_ Tryz.func109 (by kernel_rfl) rfl #[] (by rfl) rfl rfl mw_ ?_; with_reducible refine (spec_l2Ariths.calls  t166 _ A33.out).mono ?_
             rintro e w45 ⟨v167, rfl, ho0, hb⟩; refine ⟨_, rfl, ?_⟩; have HO168 := a_ (Kd.R_lower ho0 (below_size (mb_ HB))); replace HO165 := ro_ HO165 hb; replace BK159 := mk_ BK159 hb; replace HB := ms_ HB hb; (try clear hb); (try clear hb2); (try clear hk); (try clear hi); (try clear ho0); refine hK.out _ _ (bc8 BK159) fun hHeld => ?_
             clear hK K; refine nm_ 58 ?_; exact norm_ (by simp only [putAll, Act.put, ps_]) (hCont (v164, v167) _ ⟨hHeld, (mo_ HO165.out), (mo_ HO168.out), (mc_ BK159), (mb_ HB)⟩)
            ·skip; refine goes_ Tryz.func109 (by kernel_rfl) rfl #[] (by rfl) rfl rfl mw_ ?_; with_reducible refine (spec_l2Ariths.calls  t166 _ A33.out).mono ?_
             rintro e w44 ⟨v167, rfl, ho0, hb⟩; refine ⟨_, rfl, ?_⟩; have HO168 := a_ (Kd.R_lower ho0 (below_size (mb_ HB))); replace HO165 := ro_ HO165 hb; replace BK159 := mk_ BK159 hb; replace HB := ms_ HB hb; (try clear hb); (try clear hb2); (try clear hk); (try clear hi); (try clear ho0); refine hK.out _ _ (bc8 BK159) fun hHeld => ?_
             clear hK K; refine nm_ 58 ?_; refine one_ (i := 3) (N := some 57) be48_3 rfl rfl (one_of HT_.out (by kernel_rfl)) (by decide) (fun K hK => ?_); have hcv45 := own_string (P := Tryz.prog) Tryz.underlying98 Tryz.underlying5 Tryz.underlying9 (Kd.own_of_R HO165.out); refine value_ (w1 := ?_) (v := ?_) (by rfl) rfl ?_ ?_; rotate_left 2
             ·go_simp; constructor
              ·rfl
              ·rfl
             clear hcv45; refine hK.out _ _ (bc8 BK159) fun hHeld => ?_
             clear hK K; refine nm_ 57 ?_; exact norm_ (by simp only [putAll, Act.put, ps_]) (hCont (v164, v167) _ ⟨hHeld, (mo_ HO165.out), (mo_ HO168.out), (mc_ BK159), (mb_ HB)⟩)
           ·skip; refine goes_ Tryz.func109 (by kernel_rfl) rfl #[] (by rfl) rfl rfl mw_ ?_; with_reducible refine (spec_l2Ariths.calls  t166 _ A33.out).mono ?_
            rintro e w42 ⟨v167, rfl, ho0, hb⟩; refine ⟨_, rfl, ?_⟩; have HO168 := a_ (Kd.R_lower ho0 (below_size (mb_ HB))); replace BK159 := mk_ BK159 hb; replace HB := ms_ HB hb; (try clear hb); (try clear hb2); (try clear hk); (try clear hi); (try clear ho0); refine hK.out _ _ (bc8 BK159) fun hHeld => ?_
            clear hK K; refine nm_ 58 ?_; refine one_ (i := 2) (N := some 56) be48_7 rfl rfl (one_of HT_.out (by kernel_rfl)) (by decide) (fun K hK => ?_); refine Kd.R_lit_step (Kd.int .u8) _ 5 ?hg (N := 56) ?hd (xs := ([((rd_T106 l0 a1).f1)] : List Int)) (inner := [.int .u8 ((rd_T106 l0 a1).f1)]) (ok := fun _ => True) (okp := fun _ => True) ?hr ?hp (fun _ hk => hk) trivial (Below.refl _ _) (Nat.le_refl _) (by simp) ?_; (case hd => rfl); (case hg => rfl); (case hr => first | (go_simp; done) | (go_simp; rfl)); (case hp => exact (Reps.one (show Kd.M (Kd.int .u8) _ _ _ ((rd_T106 l0 a1).f1) [.int .u8 ((rd_T106 l0 a1).f1)] from rfl) (Reps.none _ _))); intro v164 w43 ho44 hb hg_ hnew_; clear hg_ hnew_; (first | rw [← Ny163.out] at ho44 | (simp only [Int.reduceToNat] at ho44; rw [← Ny163.out] at ho44)); have HO165 := a_ (Kd.R_lower ho44 (below_size (mb_ HB))); replace HO168 := ro_ HO168 hb; replace BK159 := mk_ BK159 hb; replace HB := ms_ HB hb; clear hb ho44; refine hK.out _ _ (bc8 BK159) fun hHeld => ?_
            clear hK K; refine nm_ 56 ?_; refine one_ (i := 3) (N := some 57) be48_3 rfl rfl (one_of HT_.out (by kernel_rfl)) (by decide) (fun K hK => ?_); have hcv45 := own_string (P := Tryz.prog) Tryz.underlying98 Tryz.underlying5 Tryz.underlying9 (Kd.own_of_R HO165.out); refine value_ (w1 := ?_) (v := ?_) (by rfl) rfl ?_ ?_; rotate_left 2
            ·go_simp; constructor
             ·rfl
             ·rfl
            clear hcv45; refine hK.out _ _ (bc8 BK159) fun hHeld => ?_
            clear hK K; refine nm_ 57 ?_; exact norm_ (by simp only [putAll, Act.put, ps_]) (hCont (v164, v167) _ ⟨hHeld, (mo_ HO165.out), (mo_ HO168.out), (mc_ BK159), (mb_ HB)⟩)
          rintro ⟨v164, v167⟩ w46 ⟨hS_, h0_, h1_, h2_, h3_⟩; have n0_ : Aside0 (Kd.R (Kd.int .u8) 5 w46 w.heap.size (fun _ => True) v164 y163) := ⟨h0_⟩
          have n1_ : Aside0 (Kd.R Kd.string 9 w46 w.heap.size (fun _ => True) v167 t166) := ⟨h1_⟩
          have n2_ : Aside0 (w46.heap[gb159]? = some (.cells #[.int .i64 ((rd_T106 l0 a1).f0), .int .u8 ((rd_T106 l0 a1).f1), .string ((rd_T106 l0 a1).f2), .int .i64 ((rd_T106 l0 a1).f3.f0), .int .i64 ((rd_T106 l0 a1).f3.f1), .string ((rd_T106 l0 a1).f3.f2), .int .i64 ((rd_T106 l0 a1).f4), .int .i64 ((rd_T106 l0 a1).f5)] 106 (0, 0))) := ⟨h2_⟩
          have n3_ : Aside0 (Below w.heap.size w w46) := ⟨h3_⟩
          clear BK159; clear HB; clear h0_ h1_ h2_ h3_; have HO165 := n0_; have HO168 := n1_; have BK159 := n2_; have HB := n3_; clear n0_ n1_ n2_ n3_; have hHeld : w46.cell? ⟨gb159, 0, none⟩ = some (.int .i64 ((rd_T106 l0 a1).f0)) ∧ w46.cell? ⟨gb159, 1, none⟩ = some (.int .u8 ((rd_T106 l0 a1).f1)) ∧ w46.cell? ⟨gb159, 2, none⟩ = some (.string ((rd_T106 l0 a1).f2)) ∧ w46.cell? ⟨gb159, 3, none⟩ = some (.int .i64 ((rd_T106 l0 a1).f3.f0)) ∧ w46.cell? ⟨gb159, 4, none⟩ = some (.int .i64 ((rd_T106 l0 a1).f3.f1)) ∧ w46.cell? ⟨gb159, 5, none⟩ = some (.string ((rd_T106 l0 a1).f3.f2)) ∧ w46.cell? ⟨gb159, 6, none⟩ = some (.int .i64 ((rd_T106 l0 a1).f4)) ∧ w46.cell? ⟨gb159, 7, none⟩ = some (.int .i64 ((rd_T106 l0 a1).f5)) := hS_
          obtain ⟨Ao47, co47, eo47⟩ := Kd.R_slice HO168.out; (first | subst eo47 | (injection eo47 with f1_ f2_ f3_; have f4_ := f1_.symm; have f5_ := f3_.symm; clear f1_ f2_ f3_; subst f4_; subst f5_)); refine norm_ (a' := ?_) ?_ ?_; rotate_left
          ·simp only [putAll, Act.put, ps_]; rfl
          refine one_ (i := 5) (N := some 59) be48_8 rfl rfl (one_of HT_.out (by kernel_rfl)) (by decide) (fun K hK => ?_); refine goes_ Tryz.func91 (by kernel_rfl) rfl #[.string (strOfNums y163), .slice Ao47 t166.length co47] (by rfl) rfl rfl mw_ ?_; with_reducible refine (spec_l2Is.calls kj4 (strOfNums y163) _ _ t166 true _ ?side1 ?side2 A34.out).mono ?_
          (case side1 => repeat (first | exact (Kd.R_reads' HO168.out).2.2 | (with_reducible refine Kd.C_alloc ?_ _) | (with_reducible refine Kd.C_drewN ?_ _) | (with_reducible refine Kd.C_drew ?_)))
          (case side2 => exact (Kd.R_reads' HO168.out).2.1)
          rintro e w' ⟨rfl, ⟨nd, rfl⟩⟩; refine ⟨_, rfl, ?_⟩; refine hK.out _ _ (bc8 BK159) fun hHeld => ?_
          clear hK K; refine nm_ 59 ?_; refine pu_ 6 60 be48_9 (any_of HT_.out (by kernel_rfl)) ?_; refine pu_ 7 61 be48_10 (any_of HT_.out (by kernel_rfl)) ?_; refine pu_ 8 62 be48_11 (any_of HT_.out (by kernel_rfl)) ?_; refine tk_ 9 63 be48_12 (take_ofW HT_.out HW_.out (by kernel_rfl)) hHeld ?_; refine pu_ 10 64 be48_13 (any_of HT_.out (by kernel_rfl)) ?_; refine pu_ 11 65 be48_14 (any_of HT_.out (by kernel_rfl)) ?_; refine pu_ 12 66 be48_15 (any_of HT_.out (by kernel_rfl)) ?_; refine pu_ 13 67 be48_16 (any_of HT_.out (by kernel_rfl)) ?_; refine tk_ 14 68 be48_17 (take_ofW HT_.out HW_.out (by kernel_rfl)) hHeld ?_; refine one_ (i := 15) (N := some 69) be48_18 rfl rfl (one_of HT_.out (by kernel_rfl)) (by decide) (fun K hK => ?_)
          refine goes_ Tryz.func108 (by kernel_rfl) rfl #[.agg #[.int .i64 ((rd_T106 l0 a1).f3.f0), .int .i64 ((rd_T106 l0 a1).f3.f1), .string ((rd_T106 l0 a1).f3.f2)]] (by rfl) rfl rfl mw_ ?_; with_reducible refine (spec_l2Zero.calls ((rd_T106 l0 a1).f3.f0) ((rd_T106 l0 a1).f3.f1) ((rd_T106 l0 a1).f3.f2) true _ A37.out).mono ?_
          rintro e w48 ⟨rfl, hb⟩; refine ⟨_, rfl, ?_⟩; replace HO165 := ro_ HO165 hb; replace HO168 := ro_ HO168 hb; replace BK159 := mk_ BK159 hb; replace HB := ms_ HB hb; (try clear hb); (try clear hb2); (try clear hk); (try clear hi); refine hK.out _ _ (bc8 BK159) fun hHeld => ?_
          clear hK K; refine nm_ 69 ?_; refine pu_ 16 70 be48_19 (any_of HT_.out (by kernel_rfl)) ?_; refine pu_ 17 71 be48_20 (any_of HT_.out (by kernel_rfl)) ?_; refine pu_ 18 72 be48_21 (any_of HT_.out (by kernel_rfl)) ?_; refine pu_ 19 73 be48_22 (any_of HT_.out (by kernel_rfl)) ?_; refine pu_ 21 75 be48_23 (any_of HT_.out (by kernel_rfl)) ?_; refine pu_ 22 76 be48_24 (any_of HT_.out (by kernel_rfl)) ?_; refine tk_ 20 74 be48_25 (take_ofW HT_.out HW_.out (by kernel_rfl)) hHeld ?_; refine pu_ 23 77 be48_26 (any_of HT_.out (by kernel_rfl)) ?_; refine pu_ 24 78 be48_27 (any_of HT_.out (by kernel_rfl)) ?_; refine pu_ 25 79 be48_28 (any_of HT_.out (by kernel_rfl)) ?_; refine pu_ 26 80 be48_29 (any_of HT_.out (by kernel_rfl)) ?_
          refine tk_ 27 81 be48_30 (take_ofW HT_.out HW_.out (by kernel_rfl)) hHeld ?_; refine pu_ 28 82 be48_31 (any_of HT_.out (by kernel_rfl)) ?_; refine pu_ 29 83 be48_32 (any_of HT_.out (by kernel_rfl)) ?_; refine pu_ 30 84 be48_33 (any_of HT_.out (by kernel_rfl)) ?_; refine pv_ 31 85 be48_34 (any_of HT_.out (by kernel_rfl)) ?_; refine pv_ 32 86 be48_35 (any_of HT_.out (by kernel_rfl)) ?_; refine pv_ 33 87 be48_36 (any_of HT_.out (by kernel_rfl)) ?_; refine pu_ 34 88 be48_37 (any_of HT_.out (by kernel_rfl)) ?_; refine done_ (done_of HT_.out (by kernel_rfl)) ?_; try go_wp2
          go_meet
          case rel => exact ⟨_, (true), mq_, H', ⟨by have := HJ4.out; first | omega | exact Nat.le_refl _⟩, ⟨mc_ BK159⟩, ⟨mb_ HB⟩⟩
         ·rw [if_neg c40] at H; have c40b0 := cf_ c40; clear c40; have H' := a_ H; clear H; try go_wp2
          replace BK159 := a_ (blk_drew BK159.out); replace HB := a_ (below_drew1 HB.out); refine start_ (n := 35) (S := fun w' => w'.cell? ⟨gb159, 0, none⟩ = some (.int .i64 ((rd_T106 l0 a1).f0)) ∧ w'.cell? ⟨gb159, 1, none⟩ = some (.int .u8 ((rd_T106 l0 a1).f1)) ∧ w'.cell? ⟨gb159, 2, none⟩ = some (.string ((rd_T106 l0 a1).f2)) ∧ w'.cell? ⟨gb159, 3, none⟩ = some (.int .i64 ((rd_T106 l0 a1).f3.f0)) ∧ w'.cell? ⟨gb159, 4, none⟩ = some (.int .i64 ((rd_T106 l0 a1).f3.f1)) ∧ w'.cell? ⟨gb159, 5, none⟩ = some (.string ((rd_T106 l0 a1).f3.f2)) ∧ w'.cell? ⟨gb159, 6, none⟩ = some (.int .i64 ((rd_T106 l0 a1).f4)) ∧ w'.cell? ⟨gb159, 7, none⟩ = some (.int .i64 ((rd_T106 l0 a1).f5))) (ds := []) be48_0 (by kernel_rfl) rfl rfl ⟨bk_ BK159 0, bk_ BK159 1, bk_ BK159 2, bk_ BK159 3, bk_ BK159 4, bk_ BK159 5, bk_ BK159 6, bk_ BK159 7⟩ (fun hHeld => ?_); refine with_tabW spec_l2GoodExpr.tab9 spec_l2GoodExpr.bits9 (fun HT_ HW_ => ?_); generalize wc.drew = w49 at BK159 HB hHeld ⊢; refine pu_ 0 54 be48_1 (any_of HT_.out (by kernel_rfl)) ?_; refine tk_ 1 55 be48_2 (take_ofW HT_.out HW_.out (by kernel_rfl)) hHeld ?_; refine join_ (σ := Value × Value) 30 be48_3 (fun s_ => [(56, s_.1), (57, .string (strOfNums y163)), (58, s_.2)]) (fun s_ w' => (w'.cell? ⟨gb159, 0, none⟩ = some (.int .i64 ((rd_T106 l0 a1).f0)) ∧ w'.cell? ⟨gb159, 1, none⟩ = some (.int .u8 ((rd_T106 l0 a1).f1)) ∧ w'.cell? ⟨gb159, 2, none⟩ = some (.string ((rd_T106 l0 a1).f2)) ∧ w'.cell? ⟨gb159, 3, none⟩ = some (.int .i64 ((rd_T106 l0 a1).f3.f0)) ∧ w'.cell? ⟨gb159, 4, none⟩ = some (.int .i64 ((rd_T106 l0 a1).f3.f1)) ∧ w'.cell? ⟨gb159, 5, none⟩ = some (.string ((rd_T106 l0 a1).f3.f2)) ∧ w'.cell? ⟨gb159, 6, none⟩ = some (.int .i64 ((rd_T106 l0 a1).f4)) ∧ w'.cell? ⟨gb159, 7, none⟩ = some (.int .i64 ((rd_T106 l0 a1).f5))) ∧ (Kd.R (Kd.int .u8) 5 w' w.heap.size (fun _ => True) s_.1 y163) ∧ (Kd.R Kd.string 9 w' w.heap.size (fun _ => True) s_.2 t166) ∧ (w'.heap[gb159]? = some (.cells #[.int .i64 ((rd_T106 l0 a1).f0), .int .u8 ((rd_T106 l0 a1).f1), .string ((rd_T106 l0 a1).f2), .int .i64 ((rd_T106 l0 a1).f3.f0), .int .i64 ((rd_T106 l0 a1).f3.f1), .string ((rd_T106 l0 a1).f3.f2), .int .i64 ((rd_T106 l0 a1).f4), .int .i64 ((rd_T106 l0 a1).f5)] 106 (0, 0))) ∧ (Below w.heap.size w w')) ?_ ?_
          rotate_left
          ·intro hCont; refine two_ (i := 2) (j := 4) (Ni := some 56) (Nj := some 58) be48_4 be48_5 rfl rfl rfl rfl (two_of HT_.out (by kernel_rfl)) (by decide) (by decide) (fun K hK => ?_) (fun K hK => ?_)
           ·skip; refine Kd.R_lit_step (Kd.int .u8) _ 5 ?hg (N := 56) ?hd (xs := ([((rd_T106 l0 a1).f1)] : List Int)) (inner := [.int .u8 ((rd_T106 l0 a1).f1)]) (ok := fun _ => True) (okp := fun _ => True) ?hr ?hp (fun _ hk => hk) trivial (Below.refl _ _) (Nat.le_refl _) (by simp) ?_; (case hd => rfl); (case hg => rfl); (case hr => first | (go_simp; done) | (go_simp; rfl)); (case hp => exact (Reps.one (show Kd.M (Kd.int .u8) _ _ _ ((rd_T106 l0 a1).f1) [.int .u8 ((rd_T106 l0 a1).f1)] from rfl) (Reps.none _ _))); intro v164 w50 ho51 hb hg_ hnew_; clear hg_ hnew_; (first | rw [← Ny163.out] at ho51 | (simp only [Int.reduceToNat] at ho51; rw [← Ny163.out] at ho51)); have HO165 := a_ (Kd.R_lower ho51 (below_size (mb_ HB))); replace BK159 := mk_ BK159 hb; replace HB := ms_ HB hb; clear hb ho51; refine hK.out _ _ (bc8 BK159) fun hHeld => ?_
            clear hK K; refine nm_ 56 ?_; refine two_ (i := 3) (j := 4) (Ni := some 57) (Nj := some 58) be48_6 be48_7 rfl rfl rfl rfl (two_of HT_.out (by kernel_rfl)) (by decide) (by decide) (fun K hK => ?_) (fun K hK => ?_)
            ·skip; have hcv52 := own_string (P := Tryz.prog) Tryz.underlying98 Tryz.underlying5 Tryz.underlying9 (Kd.own_of_R HO165.out); refine value_ (w1 := ?_) (v := ?_) (by rfl) rfl ?_ ?_; rotate_left 2
             ·go_simp; constructor
              ·rfl
              ·rfl
             clear hcv52; refine hK.out _ _ (bc8 BK159) fun hHeld => ?_
             clear hK K; refine nm_ 57 ?_; refine one_ (i := 4) (N := some 58) be48_3 rfl rfl (one_of HT_.out (by kernel_rfl)) (by decide) (fun K hK => ?_); refine goes_ Tryz.func109 (by kernel_rfl) rfl #[] (by rfl) rfl rfl mw_ ?_; with_reducible refine (spec_l2Ariths.calls  t166 _ A33.out).mono ?_
             rintro e w53 ⟨v167, rfl, ho0, hb⟩; refine ⟨_, rfl, ?_⟩; have HO168 := a_ (Kd.R_lower ho0 (below_size (mb_ HB))); replace HO165 := ro_ HO165 hb; replace BK159 := mk_ BK159 hb; replace HB := ms_ HB hb; (try clear hb); (try clear hb2); (try clear hk); (try clear hi); (try clear ho0); refine hK.out _ _ (bc8 BK159) fun hHeld => ?_
             clear hK K; refine nm_ 58 ?_; exact norm_ (by simp only [putAll, Act.put, ps_]) (hCont (v164, v167) _ ⟨hHeld, (mo_ HO165.out), (mo_ HO168.out), (mc_ BK159), (mb_ HB)⟩)
            ·skip; refine goes_ Tryz.func109 (by kernel_rfl) rfl #[] (by rfl) rfl rfl mw_ ?_; with_reducible refine (spec_l2Ariths.calls  t166 _ A33.out).mono ?_
             rintro e w52 ⟨v167, rfl, ho0, hb⟩; refine ⟨_, rfl, ?_⟩; have HO168 := a_ (Kd.R_lower ho0 (below_size (mb_ HB))); replace HO165 := ro_ HO165 hb; replace BK159 := mk_ BK159 hb; replace HB := ms_ HB hb; (try clear hb); (try clear hb2); (try clear hk); (try clear hi); (try clear ho0); refine hK.out _ _ (bc8 BK159) fun hHeld => ?_
             clear hK K; refine nm_ 58 ?_; refine one_ (i := 3) (N := some 57) be48_3 rfl rfl (one_of HT_.out (by kernel_rfl)) (by decide) (fun K hK => ?_); have hcv53 := own_string (P := Tryz.prog) Tryz.underlying98 Tryz.underlying5 Tryz.underlying9 (Kd.own_of_R HO165.out); refine value_ (w1 := ?_) (v := ?_) (by rfl) rfl ?_ ?_; rotate_left 2
             ·go_simp; constructor
              ·rfl
              ·rfl
             clear hcv53; refine hK.out _ _ (bc8 BK159) fun hHeld => ?_
             clear hK K; refine nm_ 57 ?_; exact norm_ (by simp only [putAll, Act.put, ps_]) (hCont (v164, v167) _ ⟨hHeld, (mo_ HO165.out), (mo_ HO168.out), (mc_ BK159), (mb_ HB)⟩)
           ·skip; refine goes_ Tryz.func109 (by kernel_rfl) rfl #[] (by rfl) rfl rfl mw_ ?_; with_reducible refine (spec_l2Ariths.calls  t166 _ A33.out).mono ?_
            rintro e w50 ⟨v167, rfl, ho0, hb⟩; refine ⟨_, rfl, ?_⟩; have HO168 := a_ (Kd.R_lower ho0 (below_size (mb_ HB))); replace BK159 := mk_ BK159 hb; replace HB := ms_ HB hb; (try clear hb); (try clear hb2); (try clear hk); (try clear hi); (try clear ho0); refine hK.out _ _ (bc8 BK159) fun hHeld => ?_
            clear hK K; refine nm_ 58 ?_; refine one_ (i := 2) (N := some 56) be48_7 rfl rfl (one_of HT_.out (by kernel_rfl)) (by decide) (fun K hK => ?_); refine Kd.R_lit_step (Kd.int .u8) _ 5 ?hg (N := 56) ?hd (xs := ([((rd_T106 l0 a1).f1)] : List Int)) (inner := [.int .u8 ((rd_T106 l0 a1).f1)]) (ok := fun _ => True) (okp := fun _ => True) ?hr ?hp (fun _ hk => hk) trivial (Below.refl _ _) (Nat.le_refl _) (by simp) ?_; (case hd => rfl); (case hg => rfl); (case hr => first | (go_simp; done) | (go_simp; rfl)); (case hp => exact (Reps.one (show Kd.M (Kd.int .u8) _ _ _ ((rd_T106 l0 a1).f1) [.int .u8 ((rd_T106 l0 a1).f1)] from rfl) (Reps.none _ _))); intro v164 w51 ho52 hb hg_ hnew_; clear hg_ hnew_; (first | rw [← Ny163.out] at ho52 | (simp only [Int.reduceToNat] at ho52; rw [← Ny163.out] at ho52)); have HO165 := a_ (Kd.R_lower ho52 (below_size (mb_ HB))); replace HO168 := ro_ HO168 hb; replace BK159 := mk_ BK159 hb; replace HB := ms_ HB hb; clear hb ho52; refine hK.out _ _ (bc8 BK159) fun hHeld => ?_
            clear hK K; refine nm_ 56 ?_; refine one_ (i := 3) (N := some 57) be48_3 rfl rfl (one_of HT_.out (by kernel_rfl)) (by decide) (fun K hK => ?_); have hcv53 := own_string (P := Tryz.prog) Tryz.underlying98 Tryz.underlying5 Tryz.underlying9 (Kd.own_of_R HO165.out); refine value_ (w1 := ?_) (v := ?_) (by rfl) rfl ?_ ?_; rotate_left 2
            ·go_simp; constructor
             ·rfl
             ·rfl
            clear hcv53; refine hK.out _ _ (bc8 BK159) fun hHeld => ?_
            clear hK K; refine nm_ 57 ?_; exact norm_ (by simp only [putAll, Act.put, ps_]) (hCont (v164, v167) _ ⟨hHeld, (mo_ HO165.out), (mo_ HO168.out), (mc_ BK159), (mb_ HB)⟩)
          rintro ⟨v164, v167⟩ w54 ⟨hS_, h0_, h1_, h2_, h3_⟩; have n0_ : Aside0 (Kd.R (Kd.int .u8) 5 w54 w.heap.size (fun _ => True) v164 y163) := ⟨h0_⟩
          have n1_ : Aside0 (Kd.R Kd.string 9 w54 w.heap.size (fun _ => True) v167 t166) := ⟨h1_⟩
          have n2_ : Aside0 (w54.heap[gb159]? = some (.cells #[.int .i64 ((rd_T106 l0 a1).f0), .int .u8 ((rd_T106 l0 a1).f1), .string ((rd_T106 l0 a1).f2), .int .i64 ((rd_T106 l0 a1).f3.f0), .int .i64 ((rd_T106 l0 a1).f3.f1), .string ((rd_T106 l0 a1).f3.f2), .int .i64 ((rd_T106 l0 a1).f4), .int .i64 ((rd_T106 l0 a1).f5)] 106 (0, 0))) := ⟨h2_⟩
          have n3_ : Aside0 (Below w.heap.size w w54) := ⟨h3_⟩
          clear BK159; clear HB; clear h0_ h1_ h2_ h3_; have HO165 := n0_; have HO168 := n1_; have BK159 := n2_; have HB := n3_; clear n0_ n1_ n2_ n3_; have hHeld : w54.cell? ⟨gb159, 0, none⟩ = some (.int .i64 ((rd_T106 l0 a1).f0)) ∧ w54.cell? ⟨gb159, 1, none⟩ = some (.int .u8 ((rd_T106 l0 a1).f1)) ∧ w54.cell? ⟨gb159, 2, none⟩ = some (.string ((rd_T106 l0 a1).f2)) ∧ w54.cell? ⟨gb159, 3, none⟩ = some (.int .i64 ((rd_T106 l0 a1).f3.f0)) ∧ w54.cell? ⟨gb159, 4, none⟩ = some (.int .i64 ((rd_T106 l0 a1).f3.f1)) ∧ w54.cell? ⟨gb159, 5, none⟩ = some (.string ((rd_T106 l0 a1).f3.f2)) ∧ w54.cell? ⟨gb159, 6, none⟩ = some (.int .i64 ((rd_T106 l0 a1).f4)) ∧ w54.cell? ⟨gb159, 7, none⟩ = some (.int .i64 ((rd_T106 l0 a1).f5)) := hS_
          obtain ⟨Ao55, co55, eo55⟩ := Kd.R_slice HO168.out; (first | subst eo55 | (injection eo55 with f1_ f2_ f3_; have f4_ := f1_.symm; have f5_ := f3_.symm; clear f1_ f2_ f3_; subst f4_; subst f5_)); refine norm_ (a' := ?_) ?_ ?_; rotate_left
          ·simp only [putAll, Act.put, ps_]; rfl
          refine one_ (i := 5) (N := some 59) be48_8 rfl rfl (one_of HT_.out (by kernel_rfl)) (by decide) (fun K hK => ?_); refine goes_ Tryz.func91 (by kernel_rfl) rfl #[.string (strOfNums y163), .slice Ao55 t166.length co55] (by rfl) rfl rfl mw_ ?_; with_reducible refine (spec_l2Is.calls kj4 (strOfNums y163) _ _ t166 true _ ?side1 ?side2 A34.out).mono ?_
          (case side1 => repeat (first | exact (Kd.R_reads' HO168.out).2.2 | (with_reducible refine Kd.C_alloc ?_ _) | (with_reducible refine Kd.C_drewN ?_ _) | (with_reducible refine Kd.C_drew ?_)))
          (case side2 => exact (Kd.R_reads' HO168.out).2.1)
          rintro e w' ⟨rfl, ⟨nd, rfl⟩⟩; refine ⟨_, rfl, ?_⟩; refine hK.out _ _ (bc8 BK159) fun hHeld => ?_
          clear hK K; refine nm_ 59 ?_; refine pu_ 6 60 be48_9 (any_of HT_.out (by kernel_rfl)) ?_; refine pu_ 7 61 be48_10 (any_of HT_.out (by kernel_rfl)) ?_; refine pu_ 8 62 be48_11 (any_of HT_.out (by kernel_rfl)) ?_; refine tk_ 9 63 be48_12 (take_ofW HT_.out HW_.out (by kernel_rfl)) hHeld ?_; refine pu_ 10 64 be48_13 (any_of HT_.out (by kernel_rfl)) ?_; refine pu_ 11 65 be48_14 (any_of HT_.out (by kernel_rfl)) ?_; refine pu_ 12 66 be48_15 (any_of HT_.out (by kernel_rfl)) ?_; refine pu_ 13 67 be48_16 (any_of HT_.out (by kernel_rfl)) ?_; refine tk_ 14 68 be48_17 (take_ofW HT_.out HW_.out (by kernel_rfl)) hHeld ?_; refine one_ (i := 15) (N := some 69) be48_18 rfl rfl (one_of HT_.out (by kernel_rfl)) (by decide) (fun K hK => ?_)
          refine goes_ Tryz.func108 (by kernel_rfl) rfl #[.agg #[.int .i64 ((rd_T106 l0 a1).f3.f0), .int .i64 ((rd_T106 l0 a1).f3.f1), .string ((rd_T106 l0 a1).f3.f2)]] (by rfl) rfl rfl mw_ ?_; with_reducible refine (spec_l2Zero.calls ((rd_T106 l0 a1).f3.f0) ((rd_T106 l0 a1).f3.f1) ((rd_T106 l0 a1).f3.f2) true _ A37.out).mono ?_
          rintro e w56 ⟨rfl, hb⟩; refine ⟨_, rfl, ?_⟩; replace HO165 := ro_ HO165 hb; replace HO168 := ro_ HO168 hb; replace BK159 := mk_ BK159 hb; replace HB := ms_ HB hb; (try clear hb); (try clear hb2); (try clear hk); (try clear hi); refine hK.out _ _ (bc8 BK159) fun hHeld => ?_
          clear hK K; refine nm_ 69 ?_; refine pu_ 16 70 be48_19 (any_of HT_.out (by kernel_rfl)) ?_; refine pu_ 17 71 be48_20 (any_of HT_.out (by kernel_rfl)) ?_; refine pu_ 18 72 be48_21 (any_of HT_.out (by kernel_rfl)) ?_; refine pu_ 19 73 be48_22 (any_of HT_.out (by kernel_rfl)) ?_; refine pu_ 21 75 be48_23 (any_of HT_.out (by kernel_rfl)) ?_; refine pu_ 22 76 be48_24 (any_of HT_.out (by kernel_rfl)) ?_; refine tk_ 20 74 be48_25 (take_ofW HT_.out HW_.out (by kernel_rfl)) hHeld ?_; refine pu_ 23 77 be48_26 (any_of HT_.out (by kernel_rfl)) ?_; refine pu_ 24 78 be48_27 (any_of HT_.out (by kernel_rfl)) ?_; refine pu_ 25 79 be48_28 (any_of HT_.out (by kernel_rfl)) ?_; refine pu_ 26 80 be48_29 (any_of HT_.out (by kernel_rfl)) ?_
          refine tk_ 27 81 be48_30 (take_ofW HT_.out HW_.out (by kernel_rfl)) hHeld ?_; refine pu_ 28 82 be48_31 (any_of HT_.out (by kernel_rfl)) ?_; refine pu_ 29 83 be48_32 (any_of HT_.out (by kernel_rfl)) ?_; refine pu_ 30 84 be48_33 (any_of HT_.out (by kernel_rfl)) ?_; refine pu_ 31 85 be48_34 (any_of HT_.out (by kernel_rfl)) ?_; refine tk_ 32 86 be48_35 (take_ofW HT_.out HW_.out (by kernel_rfl)) hHeld ?_; refine pu_ 33 87 be48_36 (any_of HT_.out (by kernel_rfl)) ?_; refine pu_ 34 88 be48_37 (any_of HT_.out (by kernel_rfl)) ?_; refine done_ (done_of HT_.out (by kernel_rfl)) ?_; try go_wp2
          go_meet
          case rel => exact ⟨_, (decide (((rd_T106 l0 a1).f4) < 0)), mq_, H', ⟨by have := HJ4.out; first | omega | exact Nat.le_refl _⟩, ⟨mc_ BK159⟩, ⟨mb_ HB⟩⟩
        ·rw [if_neg c39] at H; obtain ⟨c39b0, c39b1⟩ := bn_ c39; have H' := a_ H; clear H; try go_wp2
         replace BK159 := a_ (blk_drew BK159.out); replace HB := a_ (below_drew1 HB.out); refine start_ (n := 35) (S := fun w' => w'.cell? ⟨gb159, 0, none⟩ = some (.int .i64 ((rd_T106 l0 a1).f0)) ∧ w'.cell? ⟨gb159, 1, none⟩ = some (.int .u8 ((rd_T106 l0 a1).f1)) ∧ w'.cell? ⟨gb159, 2, none⟩ = some (.string ((rd_T106 l0 a1).f2)) ∧ w'.cell? ⟨gb159, 3, none⟩ = some (.int .i64 ((rd_T106 l0 a1).f3.f0)) ∧ w'.cell? ⟨gb159, 4, none⟩ = some (.int .i64 ((rd_T106 l0 a1).f3.f1)) ∧ w'.cell? ⟨gb159, 5, none⟩ = some (.string ((rd_T106 l0 a1).f3.f2)) ∧ w'.cell? ⟨gb159, 6, none⟩ = some (.int .i64 ((rd_T106 l0 a1).f4)) ∧ w'.cell? ⟨gb159, 7, none⟩ = some (.int .i64 ((rd_T106 l0 a1).f5))) (ds := []) be48_0 (by kernel_rfl) rfl rfl ⟨bk_ BK159 0, bk_ BK159 1, bk_ BK159 2, bk_ BK159 3, bk_ BK159 4, bk_ BK159 5, bk_ BK159 6, bk_ BK159 7⟩ (fun hHeld => ?_); refine with_tabW spec_l2GoodExpr.tab9 spec_l2GoodExpr.bits9 (fun HT_ HW_ => ?_); generalize wc.drew = w57 at BK159 HB hHeld ⊢; refine pu_ 0 54 be48_1 (any_of HT_.out (by kernel_rfl)) ?_; refine tk_ 1 55 be48_2 (take_ofW HT_.out HW_.out (by kernel_rfl)) hHeld ?_; refine join_ (σ := Value × Value) 30 be48_3 (fun s_ => [(56, s_.1), (57, .string (strOfNums y163)), (58, s_.2)]) (fun s_ w' => (w'.cell? ⟨gb159, 0, none⟩ = some (.int .i64 ((rd_T106 l0 a1).f0)) ∧ w'.cell? ⟨gb159, 1, none⟩ = some (.int .u8 ((rd_T106 l0 a1).f1)) ∧ w'.cell? ⟨gb159, 2, none⟩ = some (.string ((rd_T106 l0 a1).f2)) ∧ w'.cell? ⟨gb159, 3, none⟩ = some (.int .i64 ((rd_T106 l0 a1).f3.f0)) ∧ w'.cell? ⟨gb159, 4, none⟩ = some (.int .i64 ((rd_T106 l0 a1).f3.f1)) ∧ w'.cell? ⟨gb159, 5, none⟩ = some (.string ((rd_T106 l0 a1).f3.f2)) ∧ w'.cell? ⟨gb159, 6, none⟩ = some (.int .i64 ((rd_T106 l0 a1).f4)) ∧ w'.cell? ⟨gb159, 7, none⟩ = some (.int .i64 ((rd_T106 l0 a1).f5))) ∧ (Kd.R (Kd.int .u8) 5 w' w.heap.size (fun _ => True) s_.1 y163) ∧ (Kd.R Kd.string 9 w' w.heap.size (fun _ => True) s_.2 t166) ∧ (w'.heap[gb159]? = some (.cells #[.int .i64 ((rd_T106 l0 a1).f0), .int .u8 ((rd_T106 l0 a1).f1), .string ((rd_T106 l0 a1).f2), .int .i64 ((rd_T106 l0 a1).f3.f0), .int .i64 ((rd_T106 l0 a1).f3.f1), .string ((rd_T106 l0 a1).f3.f2), .int .i64 ((rd_T106 l0 a1).f4), .int .i64 ((rd_T106 l0 a1).f5)] 106 (0, 0))) ∧ (Below w.heap.size w w')) ?_ ?_
         rotate_left
         ·intro hCont; refine two_ (i := 2) (j := 4) (Ni := some 56) (Nj := some 58) be48_4 be48_5 rfl rfl rfl rfl (two_of HT_.out (by kernel_rfl)) (by decide) (by decide) (fun K hK => ?_) (fun K hK => ?_)
          ·skip; refine Kd.R_lit_step (Kd.int .u8) _ 5 ?hg (N := 56) ?hd (xs := ([((rd_T106 l0 a1).f1)] : List Int)) (inner := [.int .u8 ((rd_T106 l0 a1).f1)]) (ok := fun _ => True) (okp := fun _ => True) ?hr ?hp (fun _ hk => hk) trivial (Below.refl _ _) (Nat.le_refl _) (by simp) ?_; (case hd => rfl); (case hg => rfl); (case hr => first | (go_simp; done) | (go_simp; rfl)); (case hp => exact (Reps.one (show Kd.M (Kd.int .u8) _ _ _ ((rd_T106 l0 a1).f1) [.int .u8 ((rd_T106 l0 a1).f1)] from rfl) (Reps.none _ _))); intro v164 w58 ho59 hb hg_ hnew_; clear hg_ hnew_; (first | rw [← Ny163.out] at ho59 | (simp only [Int.reduceToNat] at ho59; rw [← Ny163.out] at ho59)); have HO165 := a_ (Kd.R_lower ho59 (below_size (mb_ HB))); replace BK159 := mk_ BK159 hb; replace HB := ms_ HB hb; clear hb ho59; refine hK.out _ _ (bc8 BK159) fun hHeld => ?_
           clear hK K; refine nm_ 56 ?_; refine two_ (i := 3) (j := 4) (Ni := some 57) (Nj := some 58) be48_6 be48_7 rfl rfl rfl rfl (two_of HT_.out (by kernel_rfl)) (by decide) (by decide) (fun K hK => ?_) (fun K hK => ?_)
           ·skip; have hcv60 := own_string (P := Tryz.prog) Tryz.underlying98 Tryz.underlying5 Tryz.underlying9 (Kd.own_of_R HO165.out); refine value_ (w1 := ?_) (v := ?_) (by rfl) rfl ?_ ?_; rotate_left 2
            ·go_simp; constructor
             ·rfl
             ·rfl
            clear hcv60; refine hK.out _ _ (bc8 BK159) fun hHeld => ?_
            clear hK K; refine nm_ 57 ?_; refine one_ (i := 4) (N := some 58) be48_3 rfl rfl (one_of HT_.out (by kernel_rfl)) (by decide) (fun K hK => ?_); refine goes_ Tryz.func109 (by kernel_rfl) rfl #[] (by rfl) rfl rfl mw_ ?_; with_reducible refine (spec_l2Ariths.calls  t166 _ A33.out).mono ?_
            rintro e w61 ⟨v167, rfl, ho0, hb⟩; refine ⟨_, rfl, ?_⟩; have HO168 := a_ (Kd.R_lower ho0 (below_size (mb_ HB))); replace HO165 := ro_ HO165 hb; replace BK159 := mk_ BK159 hb; replace HB := ms_ HB hb; (try clear hb); (try clear hb2); (try clear hk); (try clear hi); (try clear ho0); refine hK.out _ _ (bc8 BK159) fun hHeld => ?_
            clear hK K; refine nm_ 58 ?_; exact norm_ (by simp only [putAll, Act.put, ps_]) (hCont (v164, v167) _ ⟨hHeld, (mo_ HO165.out), (mo_ HO168.out), (mc_ BK159), (mb_ HB)⟩)
           ·skip; refine goes_ Tryz.func109 (by kernel_rfl) rfl #[] (by rfl) rfl rfl mw_ ?_; with_reducible refine (spec_l2Ariths.calls  t166 _ A33.out).mono ?_
            rintro e w60 ⟨v167, rfl, ho0, hb⟩; refine ⟨_, rfl, ?_⟩; have HO168 := a_ (Kd.R_lower ho0 (below_size (mb_ HB))); replace HO165 := ro_ HO165 hb; replace BK159 := mk_ BK159 hb; replace HB := ms_ HB hb; (try clear hb); (try clear hb2); (try clear hk); (try clear hi); (try clear ho0); refine hK.out _ _ (bc8 BK159) fun hHeld => ?_
            clear hK K; refine nm_ 58 ?_; refine one_ (i := 3) (N := some 57) be48_3 rfl rfl (one_of HT_.out (by kernel_rfl)) (by decide) (fun K hK => ?_); have hcv61 := own_string (P := Tryz.prog) Tryz.underlying98 Tryz.underlying5 Tryz.underlying9 (Kd.own_of_R HO165.out); refine value_ (w1 := ?_) (v := ?_) (by rfl) rfl ?_ ?_; rotate_left 2
            ·go_simp; constructor
             ·rfl
             ·rfl
            clear hcv61; refine hK.out _ _ (bc8 BK159) fun hHeld => ?_
            clear hK K; refine nm_ 57 ?_; exact norm_ (by simp only [putAll, Act.put, ps_]) (hCont (v164, v167) _ ⟨hHeld, (mo_ HO165.out), (mo_ HO168.out), (mc_ BK159), (mb_ HB)⟩)
          ·skip; refine goes_ Tryz.func109 (by kernel_rfl) rfl #[] (by rfl) rfl rfl mw_ ?_; with_reducible refine (spec_l2Ariths.calls  t166 _ A33.out).mono ?_
           rintro e w58 ⟨v167, rfl, ho0, hb⟩; refine ⟨_, rfl, ?_⟩; have HO168 := a_ (Kd.R_lower ho0 (below_size (mb_ HB))); replace BK159 := mk_ BK159 hb; replace HB := ms_ HB hb; (try clear hb); (try clear hb2); (try clear hk); (try clear hi); (try clear ho0); refine hK.out _ _ (bc8 BK159) fun hHeld => ?_
           clear hK K; refine nm_ 58 ?_; refine one_ (i := 2) (N := some 56) be48_7 rfl rfl (one_of HT_.out (by kernel_rfl)) (by decide) (fun K hK => ?_); refine Kd.R_lit_step (Kd.int .u8) _ 5 ?hg (N := 56) ?hd (xs := ([((rd_T106 l0 a1).f1)] : List Int)) (inner := [.int .u8 ((rd_T106 l0 a1).f1)]) (ok := fun _ => True) (okp := fun _ => True) ?hr ?hp (fun _ hk => hk) trivial (Below.refl _ _) (Nat.le_refl _) (by simp) ?_; (case hd => rfl); (case hg => rfl); (case hr => first | (go_simp; done) | (go_simp; rfl)); (case hp => exact (Reps.one (show Kd.M (Kd.int .u8) _ _ _ ((rd_T106 l0 a1).f1) [.int .u8 ((rd_T106 l0 a1).f1)] from rfl) (Reps.none _ _))); intro v164 w59 ho60 hb hg_ hnew_; clear hg_ hnew_; (first | rw [← Ny163.out] at ho60 | (simp only [Int.reduceToNat] at ho60; rw [← Ny163.out] at ho60)); have HO165 := a_ (Kd.R_lower ho60 (below_size (mb_ HB))); replace HO168 := ro_ HO168 hb; replace BK159 := mk_ BK159 hb; replace HB := ms_ HB hb; clear hb ho60; refine hK.out _ _ (bc8 BK159) fun hHeld => ?_
           clear hK K; refine nm_ 56 ?_; refine one_ (i := 3) (N := some 57) be48_3 rfl rfl (one_of HT_.out (by kernel_rfl)) (by decide) (fun K hK => ?_); have hcv61 := own_string (P := Tryz.prog) Tryz.underlying98 Tryz.underlying5 Tryz.underlying9 (Kd.own_of_R HO165.out); refine value_ (w1 := ?_) (v := ?_) (by rfl) rfl ?_ ?_; rotate_left 2
           ·go_simp; constructor
            ·rfl
            ·rfl
           clear hcv61; refine hK.out _ _ (bc8 BK159) fun hHeld => ?_
           clear hK K; refine nm_ 57 ?_; exact norm_ (by simp only [putAll, Act.put, ps_]) (hCont (v164, v167) _ ⟨hHeld, (mo_ HO165.out), (mo_ HO168.out), (mc_ BK159), (mb_ HB)⟩)
         rintro ⟨v164, v167⟩ w62 ⟨hS_, h0_, h1_, h2_, h3_⟩; have n0_ : Aside0 (Kd.R (Kd.int .u8) 5 w62 w.heap.size (fun _ => True) v164 y163) := ⟨h0_⟩
         have n1_ : Aside0 (Kd.R Kd.string 9 w62 w.heap.size (fun _ => True) v167 t166) := ⟨h1_⟩
         have n2_ : Aside0 (w62.heap[gb159]? = some (.cells #[.int .i64 ((rd_T106 l0 a1).f0), .int .u8 ((rd_T106 l0 a1).f1), .string ((rd_T106 l0 a1).f2), .int .i64 ((rd_T106 l0 a1).f3.f0), .int .i64 ((rd_T106 l0 a1).f3.f1), .string ((rd_T106 l0 a1).f3.f2), .int .i64 ((rd_T106 l0 a1).f4), .int .i64 ((rd_T106 l0 a1).f5)] 106 (0, 0))) := ⟨h2_⟩
         have n3_ : Aside0 (Below w.heap.size w w62) := ⟨h3_⟩
         clear BK159; clear HB; clear h0_ h1_ h2_ h3_; have HO165 := n0_; have HO168 := n1_; have BK159 := n2_; have HB := n3_; clear n0_ n1_ n2_ n3_; have hHeld : w62.cell? ⟨gb159, 0, none⟩ = some (.int .i64 ((rd_T106 l0 a1).f0)) ∧ w62.cell? ⟨gb159, 1, none⟩ = some (.int .u8 ((rd_T106 l0 a1).f1)) ∧ w62.cell? ⟨gb159, 2, none⟩ = some (.string ((rd_T106 l0 a1).f2)) ∧ w62.cell? ⟨gb159, 3, none⟩ = some (.int .i64 ((rd_T106 l0 a1).f3.f0)) ∧ w62.cell? ⟨gb159, 4, none⟩ = some (.int .i64 ((rd_T106 l0 a1).f3.f1)) ∧ w62.cell? ⟨gb159, 5, none⟩ = some (.string ((rd_T106 l0 a1).f3.f2)) ∧ w62.cell? ⟨gb159, 6, none⟩ = some (.int .i64 ((rd_T106 l0 a1).f4)) ∧ w62.cell? ⟨gb159, 7, none⟩ = some (.int .i64 ((rd_T106 l0 a1).f5)) := hS_
         obtain ⟨Ao63, co63, eo63⟩ := Kd.R_slice HO168.out; (first | subst eo63 | (injection eo63 with f1_ f2_ f3_; have f4_ := f1_.symm; have f5_ := f3_.symm; clear f1_ f2_ f3_; subst f4_; subst f5_)); refine norm_ (a' := ?_) ?_ ?_; rotate_left
         ·simp only [putAll, Act.put, ps_]; rfl
         refine one_ (i := 5) (N := some 59) be48_8 rfl rfl (one_of HT_.out (by kernel_rfl)) (by decide) (fun K hK => ?_); refine goes_ Tryz.func91 (by kernel_rfl) rfl #[.string (strOfNums y163), .slice Ao63 t166.length co63] (by rfl) rfl rfl mw_ ?_; with_reducible refine (spec_l2Is.calls kj4 (strOfNums y163) _ _ t166 true _ ?side1 ?side2 A34.out).mono ?_
         (case side1 => repeat (first | exact (Kd.R_reads' HO168.out).2.2 | (with_reducible refine Kd.C_alloc ?_ _) | (with_reducible refine Kd.C_drewN ?_ _) | (with_reducible refine Kd.C_drew ?_)))
         (case side2 => exact (Kd.R_reads' HO168.out).2.1)
         rintro e w' ⟨rfl, ⟨nd, rfl⟩⟩; refine ⟨_, rfl, ?_⟩; refine hK.out _ _ (bc8 BK159) fun hHeld => ?_
         clear hK K; refine nm_ 59 ?_; refine pu_ 6 60 be48_9 (any_of HT_.out (by kernel_rfl)) ?_; refine pu_ 7 61 be48_10 (any_of HT_.out (by kernel_rfl)) ?_; refine pu_ 8 62 be48_11 (any_of HT_.out (by kernel_rfl)) ?_; refine tk_ 9 63 be48_12 (take_ofW HT_.out HW_.out (by kernel_rfl)) hHeld ?_; refine pu_ 10 64 be48_13 (any_of HT_.out (by kernel_rfl)) ?_; refine pu_ 11 65 be48_14 (any_of HT_.out (by kernel_rfl)) ?_; refine pu_ 12 66 be48_15 (any_of HT_.out (by kernel_rfl)) ?_; refine pu_ 13 67 be48_16 (any_of HT_.out (by kernel_rfl)) ?_; refine tk_ 14 68 be48_17 (take_ofW HT_.out HW_.out (by kernel_rfl)) hHeld ?_; refine one_ (i := 15) (N := some 69) be48_18 rfl rfl (one_of HT_.out (by kernel_rfl)) (by decide) (fun K hK => ?_)
         refine goes_ Tryz.func108 (by kernel_rfl) rfl #[.agg #[.int .i64 ((rd_T106 l0 a1).f3.f0), .int .i64 ((rd_T106 l0 a1).f3.f1), .string ((rd_T106 l0 a1).f3.f2)]] (by rfl) rfl rfl mw_ ?_; with_reducible refine (spec_l2Zero.calls ((rd_T106 l0 a1).f3.f0) ((rd_T106 l0 a1).f3.f1) ((rd_T106 l0 a1).f3.f2) true _ A37.out).mono ?_
         rintro e w64 ⟨rfl, hb⟩; refine ⟨_, rfl, ?_⟩; replace HO165 := ro_ HO165 hb; replace HO168 := ro_ HO168 hb; replace BK159 := mk_ BK159 hb; replace HB := ms_ HB hb; (try clear hb); (try clear hb2); (try clear hk); (try clear hi); refine hK.out _ _ (bc8 BK159) fun hHeld => ?_
         clear hK K; refine nm_ 69 ?_; refine pu_ 16 70 be48_19 (any_of HT_.out (by kernel_rfl)) ?_; refine pu_ 17 71 be48_20 (any_of HT_.out (by kernel_rfl)) ?_; refine pu_ 18 72 be48_21 (any_of HT_.out (by kernel_rfl)) ?_; refine pu_ 19 73 be48_22 (any_of HT_.out (by kernel_rfl)) ?_; refine pu_ 21 75 be48_23 (any_of HT_.out (by kernel_rfl)) ?_; refine pu_ 22 76 be48_24 (any_of HT_.out (by kernel_rfl)) ?_; refine tk_ 20 74 be48_25 (take_ofW HT_.out HW_.out (by kernel_rfl)) hHeld ?_; refine pu_ 23 77 be48_26 (any_of HT_.out (by kernel_rfl)) ?_; refine pu_ 24 78 be48_27 (any_of HT_.out (by kernel_rfl)) ?_; refine pu_ 25 79 be48_28 (any_of HT_.out (by kernel_rfl)) ?_; refine pv_ 26 80 be48_29 (any_of HT_.out (by kernel_rfl)) ?_
         refine pv_ 27 81 be48_30 (any_of HT_.out (by kernel_rfl)) ?_; refine pv_ 28 82 be48_31 (any_of HT_.out (by kernel_rfl)) ?_; refine pu_ 29 83 be48_32 (any_of HT_.out (by kernel_rfl)) ?_; refine pu_ 30 84 be48_33 (any_of HT_.out (by kernel_rfl)) ?_; refine pv_ 31 85 be48_34 (any_of HT_.out (by kernel_rfl)) ?_; refine pv_ 32 86 be48_35 (any_of HT_.out (by kernel_rfl)) ?_; refine pv_ 33 87 be48_36 (any_of HT_.out (by kernel_rfl)) ?_; refine pu_ 34 88 be48_37 (any_of HT_.out (by kernel_rfl)) ?_; refine done_ (done_of HT_.out (by kernel_rfl)) ?_; try go_wp2
         go_meet
         case rel => exact ⟨_, (true), mq_, H', ⟨by have := HJ4.out; first | omega | exact Nat.le_refl _⟩, ⟨mc_ BK159⟩, ⟨mb_ HB⟩⟩
       ·replace c38 := Bool.eq_false_iff.mpr c38; subst c38; rw [if_neg (show ¬ (false = true) by decide)] at H; have H' := a_ H; clear H; try go_wp2
        replace BK159 := a_ (blk_drew BK159.out); replace HB := a_ (below_drew1 HB.out); refine start_ (n := 35) (S := fun w' => w'.cell? ⟨gb159, 0, none⟩ = some (.int .i64 ((rd_T106 l0 a1).f0)) ∧ w'.cell? ⟨gb159, 1, none⟩ = some (.int .u8 ((rd_T106 l0 a1).f1)) ∧ w'.cell? ⟨gb159, 2, none⟩ = some (.string ((rd_T106 l0 a1).f2)) ∧ w'.cell? ⟨gb159, 3, none⟩ = some (.int .i64 ((rd_T106 l0 a1).f3.f0)) ∧ w'.cell? ⟨gb159, 4, none⟩ = some (.int .i64 ((rd_T106 l0 a1).f3.f1)) ∧ w'.cell? ⟨gb159, 5, none⟩ = some (.string ((rd_T106 l0 a1).f3.f2)) ∧ w'.cell? ⟨gb159, 6, none⟩ = some (.int .i64 ((rd_T106 l0 a1).f4)) ∧ w'.cell? ⟨gb159, 7, none⟩ = some (.int .i64 ((rd_T106 l0 a1).f5))) (ds := []) be48_0 (by kernel_rfl) rfl rfl ⟨bk_ BK159 0, bk_ BK159 1, bk_ BK159 2, bk_ BK159 3, bk_ BK159 4, bk_ BK159 5, bk_ BK159 6, bk_ BK159 7⟩ (fun hHeld => ?_); refine with_tabW spec_l2GoodExpr.tab9 spec_l2GoodExpr.bits9 (fun HT_ HW_ => ?_); generalize wc.drew = w65 at BK159 HB hHeld ⊢; refine pu_ 0 54 be48_1 (any_of HT_.out (by kernel_rfl)) ?_; refine tk_ 1 55 be48_2 (take_ofW HT_.out HW_.out (by kernel_rfl)) hHeld ?_; refine join_ (σ := Value × Value) 30 be48_3 (fun s_ => [(56, s_.1), (57, .string (strOfNums y163)), (58, s_.2)]) (fun s_ w' => (w'.cell? ⟨gb159, 0, none⟩ = some (.int .i64 ((rd_T106 l0 a1).f0)) ∧ w'.cell? ⟨gb159, 1, none⟩ = some (.int .u8 ((rd_T106 l0 a1).f1)) ∧ w'.cell? ⟨gb159, 2, none⟩ = some (.string ((rd_T106 l0 a1).f2)) ∧ w'.cell? ⟨gb159, 3, none⟩ = some (.int .i64 ((rd_T106 l0 a1).f3.f0)) ∧ w'.cell? ⟨gb159, 4, none⟩ = some (.int .i64 ((rd_T106 l0 a1).f3.f1)) ∧ w'.cell? ⟨gb159, 5, none⟩ = some (.string ((rd_T106 l0 a1).f3.f2)) ∧ w'.cell? ⟨gb159, 6, none⟩ = some (.int .i64 ((rd_T106 l0 a1).f4)) ∧ w'.cell? ⟨gb159, 7, none⟩ = some (.int .i64 ((rd_T106 l0 a1).f5))) ∧ (Kd.R (Kd.int .u8) 5 w' w.heap.size (fun _ => True) s_.1 y163) ∧ (Kd.R Kd.string 9 w' w.heap.size (fun _ => True) s_.2 t166) ∧ (w'.heap[gb159]? = some (.cells #[.int .i64 ((rd_T106 l0 a1).f0), .int .u8 ((rd_T106 l0 a1).f1), .string ((rd_T106 l0 a1).f2), .int .i64 ((rd_T106 l0 a1).f3.f0), .int .i64 ((rd_T106 l0 a1).f3.f1), .string ((rd_T106 l0 a1).f3.f2), .int .i64 ((rd_T106 l0 a1).f4), .int .i64 ((rd_T106 l0 a1).f5)] 106 (0, 0))) ∧ (Below w.heap.size w w')) ?_ ?_
        rotate_left
        ·intro hCont; refine two_ (i := 2) (j := 4) (Ni := some 56) (Nj := some 58) be48_4 be48_5 rfl rfl rfl rfl (two_of HT_.out (by kernel_rfl)) (by decide) (by decide) (fun K hK => ?_) (fun K hK => ?_)
         ·skip; refine Kd.R_lit_step (Kd.int .u8) _ 5 ?hg (N := 56) ?hd (xs := ([((rd_T106 l0 a1).f1)] : List Int)) (inner := [.int .u8 ((rd_T106 l0 a1).f1)]) (ok := fun _ => True) (okp := fun _ => True) ?hr ?hp (fun _ hk => hk) trivial (Below.refl _ _) (Nat.le_refl _) (by simp) ?_; (case hd => rfl); (case hg => rfl); (case hr => first | (go_simp; done) | (go_simp; rfl)); (case hp => exact (Reps.one (show Kd.M (Kd.int .u8) _ _ _ ((rd_T106 l0 a1).f1) [.int .u8 ((rd_T106 l0 a1).f1)] from rfl) (Reps.none _ _))); intro v164 w66 ho67 hb hg_ hnew_; clear hg_ hnew_; (first | rw [← Ny163.out] at ho67 | (simp only [Int.reduceToNat] at ho67; rw [← Ny163.out] at ho67)); have HO165 := a_ (Kd.R_lower ho67 (below_size (mb_ HB))); replace BK159 := mk_ BK159 hb; replace HB := ms_ HB hb; clear hb ho67; refine hK.out _ _ (bc8 BK159) fun hHeld => ?_
          clear hK K; refine nm_ 56 ?_; refine two_ (i := 3) (j := 4) (Ni := some 57) (Nj := some 58) be48_6 be48_7 rfl rfl rfl rfl (two_of HT_.out (by kernel_rfl)) (by decide) (by decide) (fun K hK => ?_) (fun K hK => ?_)
          ·skip; have hcv68 := own_string (P := Tryz.prog) Tryz.underlying98 Tryz.underlying5 Tryz.underlying9 (Kd.own_of_R HO165.out); refine value_ (w1 := ?_) (v := ?_) (by rfl) rfl ?_ ?_; rotate_left 2
           ·go_simp; constructor
            ·rfl
            ·rfl
           clear hcv68; refine hK.out _ _ (bc8 BK159) fun hHeld => ?_
           clear hK K; refine nm_ 57 ?_; refine one_ (i := 4) (N := some 58) be48_3 rfl rfl (one_of HT_.out (by kernel_rfl)) (by decide) (fun K hK => ?_); refine goes_ Tryz.func109 (by kernel_rfl) rfl #[] (by rfl) rfl rfl mw_ ?_; with_reducible refine (spec_l2Ariths.calls  t166 _ A33.out).mono ?_
           rintro e w69 ⟨v167, rfl, ho0, hb⟩; refine ⟨_, rfl, ?_⟩; have HO168 := a_ (Kd.R_lower ho0 (below_size (mb_ HB))); replace HO165 := ro_ HO165 hb; replace BK159 := mk_ BK159 hb; replace HB := ms_ HB hb; (try clear hb); (try clear hb2); (try clear hk); (try clear hi); (try clear ho0); refine hK.out _ _ (bc8 BK159) fun hHeld => ?_
           clear hK K; refine nm_ 58 ?_; exact norm_ (by simp only [putAll, Act.put, ps_]) (hCont (v164, v167) _ ⟨hHeld, (mo_ HO165.out), (mo_ HO168.out), (mc_ BK159), (mb_ HB)⟩)
          ·skip; refine goes_ Tryz.func109 (by kernel_rfl) rfl #[] (by rfl) rfl rfl mw_ ?_; with_reducible refine (spec_l2Ariths.calls  t166 _ A33.out).mono ?_
           rintro e w68 ⟨v167, rfl, ho0, hb⟩; refine ⟨_, rfl, ?_⟩; have HO168 := a_ (Kd.R_lower ho0 (below_size (mb_ HB))); replace HO165 := ro_ HO165 hb; replace BK159 := mk_ BK159 hb; replace HB := ms_ HB hb; (try clear hb); (try clear hb2); (try clear hk); (try clear hi); (try clear ho0); refine hK.out _ _ (bc8 BK159) fun hHeld => ?_
           clear hK K; refine nm_ 58 ?_; refine one_ (i := 3) (N := some 57) be48_3 rfl rfl (one_of HT_.out (by kernel_rfl)) (by decide) (fun K hK => ?_); have hcv69 := own_string (P := Tryz.prog) Tryz.underlying98 Tryz.underlying5 Tryz.underlying9 (Kd.own_of_R HO165.out); refine value_ (w1 := ?_) (v := ?_) (by rfl) rfl ?_ ?_; rotate_left 2
           ·go_simp; constructor
            ·rfl
            ·rfl
           clear hcv69; refine hK.out _ _ (bc8 BK159) fun hHeld => ?_
           clear hK K; refine nm_ 57 ?_; exact norm_ (by simp only [putAll, Act.put, ps_]) (hCont (v164, v167) _ ⟨hHeld, (mo_ HO165.out), (mo_ HO168.out), (mc_ BK159), (mb_ HB)⟩)
         ·skip; refine goes_ Tryz.func109 (by kernel_rfl) rfl #[] (by rfl) rfl rfl mw_ ?_; with_reducible refine (spec_l2Ariths.calls  t166 _ A33.out).mono ?_
          rintro e w66 ⟨v167, rfl, ho0, hb⟩; refine ⟨_, rfl, ?_⟩; have HO168 := a_ (Kd.R_lower ho0 (below_size (mb_ HB))); replace BK159 := mk_ BK159 hb; replace HB := ms_ HB hb; (try clear hb); (try clear hb2); (try clear hk); (try clear hi); (try clear ho0); refine hK.out _ _ (bc8 BK159) fun hHeld => ?_
          clear hK K; refine nm_ 58 ?_; refine one_ (i := 2) (N := some 56) be48_7 rfl rfl (one_of HT_.out (by kernel_rfl)) (by decide) (fun K hK => ?_); refine Kd.R_lit_step (Kd.int .u8) _ 5 ?hg (N := 56) ?hd (xs := ([((rd_T106 l0 a1).f1)] : List Int)) (inner := [.int .u8 ((rd_T106 l0 a1).f1)]) (ok := fun _ => True) (okp := fun _ => True) ?hr ?hp (fun _ hk => hk) trivial (Below.refl _ _) (Nat.le_refl _) (by simp) ?_; (case hd => rfl); (case hg => rfl); (case hr => first | (go_simp; done) | (go_simp; rfl)); (case hp => exact (Reps.one (show Kd.M (Kd.int .u8) _ _ _ ((rd_T106 l0 a1).f1) [.int .u8 ((rd_T106 l0 a1).f1)] from rfl) (Reps.none _ _))); intro v164 w67 ho68 hb hg_ hnew_; clear hg_ hnew_; (first | rw [← Ny163.out] at ho68 | (simp only [Int.reduceToNat] at ho68; rw [← Ny163.out] at ho68)); have HO165 := a_ (Kd.R_lower ho68 (below_size (mb_ HB))); replace HO168 := ro_ HO168 hb; replace BK159 := mk_ BK159 hb; replace HB := ms_ HB hb; clear hb ho68; refine hK.out _ _ (bc8 BK159) fun hHeld => ?_
          clear hK K; refine nm_ 56 ?_; refine one_ (i := 3) (N := some 57) be48_3 rfl rfl (one_of HT_.out (by kernel_rfl)) (by decide) (fun K hK => ?_); have hcv69 := own_string (P := Tryz.prog) Tryz.underlying98 Tryz.underlying5 Tryz.underlying9 (Kd.own_of_R HO165.out); refine value_ (w1 := ?_) (v := ?_) (by rfl) rfl ?_ ?_; rotate_left 2
          ·go_simp; constructor
           ·rfl
           ·rfl
          clear hcv69; refine hK.out _ _ (bc8 BK159) fun hHeld => ?_
          clear hK K; refine nm_ 57 ?_; exact norm_ (by simp only [putAll, Act.put, ps_]) (hCont (v164, v167) _ ⟨hHeld, (mo_ HO165.out), (mo_ HO168.out), (mc_ BK159), (mb_ HB)⟩)
        rintro ⟨v164, v167⟩ w70 ⟨hS_, h0_, h1_, h2_, h3_⟩; have n0_ : Aside0 (Kd.R (Kd.int .u8) 5 w70 w.heap.size (fun _ => True) v164 y163) := ⟨h0_⟩
        have n1_ : Aside0 (Kd.R Kd.string 9 w70 w.heap.size (fun _ => True) v167 t166) := ⟨h1_⟩
        have n2_ : Aside0 (w70.heap[gb159]? = some (.cells #[.int .i64 ((rd_T106 l0 a1).f0), .int .u8 ((rd_T106 l0 a1).f1), .string ((rd_T106 l0 a1).f2), .int .i64 ((rd_T106 l0 a1).f3.f0), .int .i64 ((rd_T106 l0 a1).f3.f1), .string ((rd_T106 l0 a1).f3.f2), .int .i64 ((rd_T106 l0 a1).f4), .int .i64 ((rd_T106 l0 a1).f5)] 106 (0, 0))) := ⟨h2_⟩
        have n3_ : Aside0 (Below w.heap.size w w70) := ⟨h3_⟩
        clear BK159; clear HB; clear h0_ h1_ h2_ h3_; have HO165 := n0_; have HO168 := n1_; have BK159 := n2_; have HB := n3_; clear n0_ n1_ n2_ n3_; have hHeld : w70.cell? ⟨gb159, 0, none⟩ = some (.int .i64 ((rd_T106 l0 a1).f0)) ∧ w70.cell? ⟨gb159, 1, none⟩ = some (.int .u8 ((rd_T106 l0 a1).f1)) ∧ w70.cell? ⟨gb159, 2, none⟩ = some (.string ((rd_T106 l0 a1).f2)) ∧ w70.cell? ⟨gb159, 3, none⟩ = some (.int .i64 ((rd_T106 l0 a1).f3.f0)) ∧ w70.cell? ⟨gb159, 4, none⟩ = some (.int .i64 ((rd_T106 l0 a1).f3.f1)) ∧ w70.cell? ⟨gb159, 5, none⟩ = some (.string ((rd_T106 l0 a1).f3.f2)) ∧ w70.cell? ⟨gb159, 6, none⟩ = some (.int .i64 ((rd_T106 l0 a1).f4)) ∧ w70.cell? ⟨gb159, 7, none⟩ = some (.int .i64 ((rd_T106 l0 a1).f5)) := hS_
        obtain ⟨Ao71, co71, eo71⟩ := Kd.R_slice HO168.out; (first | subst eo71 | (injection eo71 with f1_ f2_ f3_; have f4_ := f1_.symm; have f5_ := f3_.symm; clear f1_ f2_ f3_; subst f4_; subst f5_)); refine norm_ (a' := ?_) ?_ ?_; rotate_left
        ·simp only [putAll, Act.put, ps_]; rfl
        refine one_ (i := 5) (N := some 59) be48_8 rfl rfl (one_of HT_.out (by kernel_rfl)) (by decide) (fun K hK => ?_); refine goes_ Tryz.func91 (by kernel_rfl) rfl #[.string (strOfNums y163), .slice Ao71 t166.length co71] (by rfl) rfl rfl mw_ ?_; with_reducible refine (spec_l2Is.calls kj4 (strOfNums y163) _ _ t166 true _ ?side1 ?side2 A34.out).mono ?_
        (case side1 => repeat (first | exact (Kd.R_reads' HO168.out).2.2 | (with_reducible refine Kd.C_alloc ?_ _) | (with_reducible refine Kd.C_drewN ?_ _) | (with_reducible refine Kd.C_drew ?_)))
        (case side2 => exact (Kd.R_reads' HO168.out).2.1)
        rintro e w' ⟨rfl, ⟨nd, rfl⟩⟩; refine ⟨_, rfl, ?_⟩; refine hK.out _ _ (bc8 BK159) fun hHeld => ?_
        clear hK K; refine nm_ 59 ?_; refine pu_ 6 60 be48_9 (any_of HT_.out (by kernel_rfl)) ?_; refine pu_ 7 61 be48_10 (any_of HT_.out (by kernel_rfl)) ?_; refine pu_ 8 62 be48_11 (any_of HT_.out (by kernel_rfl)) ?_; refine tk_ 9 63 be48_12 (take_ofW HT_.out HW_.out (by kernel_rfl)) hHeld ?_; refine pu_ 10 64 be48_13 (any_of HT_.out (by kernel_rfl)) ?_; refine pu_ 11 65 be48_14 (any_of HT_.out (by kernel_rfl)) ?_; refine pu_ 12 66 be48_15 (any_of HT_.out (by kernel_rfl)) ?_; refine pu_ 13 67 be48_16 (any_of HT_.out (by kernel_rfl)) ?_; refine tk_ 14 68 be48_17 (take_ofW HT_.out HW_.out (by kernel_rfl)) hHeld ?_; refine one_ (i := 15) (N := some 69) be48_18 rfl rfl (one_of HT_.out (by kernel_rfl)) (by decide) (fun K hK => ?_)
        refine goes_ Tryz.func108 (by kernel_rfl) rfl #[.agg #[.int .i64 ((rd_T106 l0 a1).f3.f0), .int .i64 ((rd_T106 l0 a1).f3.f1), .string ((rd_T106 l0 a1).f3.f2)]] (by rfl) rfl rfl mw_ ?_; with_reducible refine (spec_l2Zero.calls ((rd_T106 l0 a1).f3.f0) ((rd_T106 l0 a1).f3.f1) ((rd_T106 l0 a1).f3.f2) false _ A37.out).mono ?_
        rintro e w72 ⟨rfl, hb⟩; refine ⟨_, rfl, ?_⟩; replace HO165 := ro_ HO165 hb; replace HO168 := ro_ HO168 hb; replace BK159 := mk_ BK159 hb; replace HB := ms_ HB hb; (try clear hb); (try clear hb2); (try clear hk); (try clear hi); refine hK.out _ _ (bc8 BK159) fun hHeld => ?_
        clear hK K; refine nm_ 69 ?_; refine pu_ 16 70 be48_19 (any_of HT_.out (by kernel_rfl)) ?_; refine pu_ 17 71 be48_20 (any_of HT_.out (by kernel_rfl)) ?_; refine pu_ 18 72 be48_21 (any_of HT_.out (by kernel_rfl)) ?_; refine pv_ 19 73 be48_22 (any_of HT_.out (by kernel_rfl)) ?_; refine pv_ 20 74 be48_38 (any_of HT_.out (by kernel_rfl)) ?_; refine pv_ 21 75 be48_39 (any_of HT_.out (by kernel_rfl)) ?_; refine pv_ 22 76 be48_25 (any_of HT_.out (by kernel_rfl)) ?_; refine pv_ 23 77 be48_26 (any_of HT_.out (by kernel_rfl)) ?_; refine pu_ 24 78 be48_27 (any_of HT_.out (by kernel_rfl)) ?_; refine pu_ 25 79 be48_28 (any_of HT_.out (by kernel_rfl)) ?_; refine pv_ 26 80 be48_29 (any_of HT_.out (by kernel_rfl)) ?_
        refine pv_ 27 81 be48_30 (any_of HT_.out (by kernel_rfl)) ?_; refine pv_ 28 82 be48_31 (any_of HT_.out (by kernel_rfl)) ?_; refine pu_ 29 83 be48_32 (any_of HT_.out (by kernel_rfl)) ?_; refine pu_ 30 84 be48_33 (any_of HT_.out (by kernel_rfl)) ?_; refine pv_ 31 85 be48_34 (any_of HT_.out (by kernel_rfl)) ?_; refine pv_ 32 86 be48_35 (any_of HT_.out (by kernel_rfl)) ?_; refine pv_ 33 87 be48_36 (any_of HT_.out (by kernel_rfl)) ?_; refine pu_ 34 88 be48_37 (any_of HT_.out (by kernel_rfl)) ?_; refine done_ (done_of HT_.out (by kernel_rfl)) ?_; try go_wp2
        go_meet
        case rel => exact ⟨_, (true), mq_, H', ⟨by have := HJ4.out; first | omega | exact Nat.le_refl _⟩, ⟨mc_ BK159⟩, ⟨mb_ HB⟩⟩
      ·rw [if_neg c36] at H; obtain ⟨c36b0, c36b1⟩ := bn_ c36; (first | rw [c36b0] | (simp only [i64_w, i32_w]; rw [c36b0]) | skip); have H' := a_ H; clear H; try go_wp2
       replace BK159 := a_ (blk_drew BK159.out); replace HB := a_ (below_drew1 HB.out); refine start_ (n := 35) (S := fun w' => w'.cell? ⟨gb159, 0, none⟩ = some (.int .i64 ((rd_T106 l0 a1).f0)) ∧ w'.cell? ⟨gb159, 1, none⟩ = some (.int .u8 ((rd_T106 l0 a1).f1)) ∧ w'.cell? ⟨gb159, 2, none⟩ = some (.string ((rd_T106 l0 a1).f2)) ∧ w'.cell? ⟨gb159, 3, none⟩ = some (.int .i64 ((rd_T106 l0 a1).f3.f0)) ∧ w'.cell? ⟨gb159, 4, none⟩ = some (.int .i64 ((rd_T106 l0 a1).f3.f1)) ∧ w'.cell? ⟨gb159, 5, none⟩ = some (.string ((rd_T106 l0 a1).f3.f2)) ∧ w'.cell? ⟨gb159, 6, none⟩ = some (.int .i64 ((rd_T106 l0 a1).f4)) ∧ w'.cell? ⟨gb159, 7, none⟩ = some (.int .i64 ((rd_T106 l0 a1).f5))) (ds := []) be48_0 (by kernel_rfl) rfl rfl ⟨bk_ BK159 0, bk_ BK159 1, bk_ BK159 2, bk_ BK159 3, bk_ BK159 4, bk_ BK159 5, bk_ BK159 6, bk_ BK159 7⟩ (fun hHeld => ?_); refine with_tabW spec_l2GoodExpr.tab9 spec_l2GoodExpr.bits9 (fun HT_ HW_ => ?_); generalize wc.drew = w73 at BK159 HB hHeld ⊢; refine pu_ 0 54 be48_1 (any_of HT_.out (by kernel_rfl)) ?_; refine tk_ 1 55 be48_2 (take_ofW HT_.out HW_.out (by kernel_rfl)) hHeld ?_; refine join_ (σ := Value × Value) 30 be48_3 (fun s_ => [(56, s_.1), (57, .string (strOfNums y163)), (58, s_.2)]) (fun s_ w' => (w'.cell? ⟨gb159, 0, none⟩ = some (.int .i64 ((rd_T106 l0 a1).f0)) ∧ w'.cell? ⟨gb159, 1, none⟩ = some (.int .u8 ((rd_T106 l0 a1).f1)) ∧ w'.cell? ⟨gb159, 2, none⟩ = some (.string ((rd_T106 l0 a1).f2)) ∧ w'.cell? ⟨gb159, 3, none⟩ = some (.int .i64 ((rd_T106 l0 a1).f3.f0)) ∧ w'.cell? ⟨gb159, 4, none⟩ = some (.int .i64 ((rd_T106 l0 a1).f3.f1)) ∧ w'.cell? ⟨gb159, 5, none⟩ = some (.string ((rd_T106 l0 a1).f3.f2)) ∧ w'.cell? ⟨gb159, 6, none⟩ = some (.int .i64 ((rd_T106 l0 a1).f4)) ∧ w'.cell? ⟨gb159, 7, none⟩ = some (.int .i64 ((rd_T106 l0 a1).f5))) ∧ (Kd.R (Kd.int .u8) 5 w' w.heap.size (fun _ => True) s_.1 y163) ∧ (Kd.R Kd.string 9 w' w.heap.size (fun _ => True) s_.2 t166) ∧ (w'.heap[gb159]? = some (.cells #[.int .i64 ((rd_T106 l0 a1).f0), .int .u8 ((rd_T106 l0 a1).f1), .string ((rd_T106 l0 a1).f2), .int .i64 ((rd_T106 l0 a1).f3.f0), .int .i64 ((rd_T106 l0 a1).f3.f1), .string ((rd_T106 l0 a1).f3.f2), .int .i64 ((rd_T106 l0 a1).f4), .int .i64 ((rd_T106 l0 a1).f5)] 106 (0, 0))) ∧ (Below w.heap.size w w')) ?_ ?_
       rotate_left
       ·intro hCont; refine two_ (i := 2) (j := 4) (Ni := some 56) (Nj := some 58) be48_4 be48_5 rfl rfl rfl rfl (two_of HT_.out (by kernel_rfl)) (by decide) (by decide) (fun K hK => ?_) (fun K hK => ?_)
        ·skip; refine Kd.R_lit_step (Kd.int .u8) _ 5 ?hg (N := 56) ?hd (xs := ([((rd_T106 l0 a1).f1)] : List Int)) (inner := [.int .u8 ((rd_T106 l0 a1).f1)]) (ok := fun _ => True) (okp := fun _ => True) ?hr ?hp (fun _ hk => hk) trivial (Below.refl _ _) (Nat.le_refl _) (by simp) ?_; (case hd => rfl); (case hg => rfl); (case hr => first | (go_simp; done) | (go_simp; rfl)); (case hp => exact (Reps.one (show Kd.M (Kd.int .u8) _ _ _ ((rd_T106 l0 a1).f1) [.int .u8 ((rd_T106 l0 a1).f1)] from rfl) (Reps.none _ _))); intro v164 w74 ho75 hb hg_ hnew_; clear hg_ hnew_; (first | rw [← Ny163.out] at ho75 | (simp only [Int.reduceToNat] at ho75; rw [← Ny163.out] at ho75)); have HO165 := a_ (Kd.R_lower ho75 (below_size (mb_ HB))); replace BK159 := mk_ BK159 hb; replace HB := ms_ HB hb; clear hb ho75; refine hK.out _ _ (bc8 BK159) fun hHeld => ?_
         clear hK K; refine nm_ 56 ?_; refine two_ (i := 3) (j := 4) (Ni := some 57) (Nj := some 58) be48_6 be48_7 rfl rfl rfl rfl (two_of HT_.out (by kernel_rfl)) (by decide) (by decide) (fun K hK => ?_) (fun K hK => ?_)
         ·skip; have hcv76 := own_string (P := Tryz.prog) Tryz.underlying98 Tryz.underlying5 Tryz.underlying9 (Kd.own_of_R HO165.out); refine value_ (w1 := ?_) (v := ?_) (by rfl) rfl ?_ ?_; rotate_left 2
          ·go_simp; constructor
           ·rfl
           ·rfl
          clear hcv76; refine hK.out _ _ (bc8 BK159) fun hHeld => ?_
          clear hK K; refine nm_ 57 ?_; refine one_ (i := 4) (N := some 58) be48_3 rfl rfl (one_of HT_.out (by kernel_rfl)) (by decide) (fun K hK => ?_); refine goes_ Tryz.func109 (by kernel_rfl) rfl #[] (by rfl) rfl rfl mw_ ?_; with_reducible refine (spec_l2Ariths.calls  t166 _ A33.out).mono ?_
          rintro e w77 ⟨v167, rfl, ho0, hb⟩; refine ⟨_, rfl, ?_⟩; have HO168 := a_ (Kd.R_lower ho0 (below_size (mb_ HB))); replace HO165 := ro_ HO165 hb; replace BK159 := mk_ BK159 hb; replace HB := ms_ HB hb; (try clear hb); (try clear hb2); (try clear hk); (try clear hi); (try clear ho0); refine hK.out _ _ (bc8 BK159) fun hHeld => ?_
          clear hK K; refine nm_ 58 ?_; exact norm_ (by simp only [putAll, Act.put, ps_]) (hCont (v164, v167) _ ⟨hHeld, (mo_ HO165.out), (mo_ HO168.out), (mc_ BK159), (mb_ HB)⟩)
         ·skip; refine goes_ Tryz.func109 (by kernel_rfl) rfl #[] (by rfl) rfl rfl mw_ ?_; with_reducible refine (spec_l2Ariths.calls  t166 _ A33.out).mono ?_
          rintro e w76 ⟨v167, rfl, ho0, hb⟩; refine ⟨_, rfl, ?_⟩; have HO168 := a_ (Kd.R_lower ho0 (below_size (mb_ HB))); replace HO165 := ro_ HO165 hb; replace BK159 := mk_ BK159 hb; replace HB := ms_ HB hb; (try clear hb); (try clear hb2); (try clear hk); (try clear hi); (try clear ho0); refine hK.out _ _ (bc8 BK159) fun hHeld => ?_
          clear hK K; refine nm_ 58 ?_; refine one_ (i := 3) (N := some 57) be48_3 rfl rfl (one_of HT_.out (by kernel_rfl)) (by decide) (fun K hK => ?_); have hcv77 := own_string (P := Tryz.prog) Tryz.underlying98 Tryz.underlying5 Tryz.underlying9 (Kd.own_of_R HO165.out); refine value_ (w1 := ?_) (v := ?_) (by rfl) rfl ?_ ?_; rotate_left 2
          ·go_simp; constructor
           ·rfl
           ·rfl
          clear hcv77; refine hK.out _ _ (bc8 BK159) fun hHeld => ?_
          clear hK K; refine nm_ 57 ?_; exact norm_ (by simp only [putAll, Act.put, ps_]) (hCont (v164, v167) _ ⟨hHeld, (mo_ HO165.out), (mo_ HO168.out), (mc_ BK159), (mb_ HB)⟩)
        ·skip; refine goes_ Tryz.func109 (by kernel_rfl) rfl #[] (by rfl) rfl rfl mw_ ?_; with_reducible refine (spec_l2Ariths.calls  t166 _ A33.out).mono ?_
         rintro e w74 ⟨v167, rfl, ho0, hb⟩; refine ⟨_, rfl, ?_⟩; have HO168 := a_ (Kd.R_lower ho0 (below_size (mb_ HB))); replace BK159 := mk_ BK159 hb; replace HB := ms_ HB hb; (try clear hb); (try clear hb2); (try clear hk); (try clear hi); (try clear ho0); refine hK.out _ _ (bc8 BK159) fun hHeld => ?_
         clear hK K; refine nm_ 58 ?_; refine one_ (i := 2) (N := some 56) be48_7 rfl rfl (one_of HT_.out (by kernel_rfl)) (by decide) (fun K hK => ?_); refine Kd.R_lit_step (Kd.int .u8) _ 5 ?hg (N := 56) ?hd (xs := ([((rd_T106 l0 a1).f1)] : List Int)) (inner := [.int .u8 ((rd_T106 l0 a1).f1)]) (ok := fun _ => True) (okp := fun _ => True) ?hr ?hp (fun _ hk => hk) trivial (Below.refl _ _) (Nat.le_refl _) (by simp) ?_; (case hd => rfl); (case hg => rfl); (case hr => first | (go_simp; done) | (go_simp; rfl)); (case hp => exact (Reps.one (show Kd.M (Kd.int .u8) _ _ _ ((rd_T106 l0 a1).f1) [.int .u8 ((rd_T106 l0 a1).f1)] from rfl) (Reps.none _ _))); intro v164 w75 ho76 hb hg_ hnew_; clear hg_ hnew_; (first | rw [← Ny163.out] at ho76 | (simp only [Int.reduceToNat] at ho76; rw [← Ny163.out] at ho76)); have HO165 := a_ (Kd.R_lower ho76 (below_size (mb_ HB))); replace HO168 := ro_ HO168 hb; replace BK159 := mk_ BK159 hb; replace HB := ms_ HB hb; clear hb ho76; refine hK.out _ _ (bc8 BK159) fun hHeld => ?_
         clear hK K; refine nm_ 56 ?_; refine one_ (i := 3) (N := some 57) be48_3 rfl rfl (one_of HT_.out (by kernel_rfl)) (by decide) (fun K hK => ?_); have hcv77 := own_string (P := Tryz.prog) Tryz.underlying98 Tryz.underlying5 Tryz.underlying9 (Kd.own_of_R HO165.out); refine value_ (w1 := ?_) (v := ?_) (by rfl) rfl ?_ ?_; rotate_left 2
         ·go_simp; constructor
          ·rfl
          ·rfl
         clear hcv77; refine hK.out _ _ (bc8 BK159) fun hHeld => ?_
         clear hK K; refine nm_ 57 ?_; exact norm_ (by simp only [putAll, Act.put, ps_]) (hCont (v164, v167) _ ⟨hHeld, (mo_ HO165.out), (mo_ HO168.out), (mc_ BK159), (mb_ HB)⟩)
       rintro ⟨v164, v167⟩ w78 ⟨hS_, h0_, h1_, h2_, h3_⟩; have n0_ : Aside0 (Kd.R (Kd.int .u8) 5 w78 w.heap.size (fun _ => True) v164 y163) := ⟨h0_⟩
       have n1_ : Aside0 (Kd.R Kd.string 9 w78 w.heap.size (fun _ => True) v167 t166) := ⟨h1_⟩
       have n2_ : Aside0 (w78.heap[gb159]? = some (.cells #[.int .i64 ((rd_T106 l0 a1).f0), .int .u8 ((rd_T106 l0 a1).f1), .string ((rd_T106 l0 a1).f2), .int .i64 ((rd_T106 l0 a1).f3.f0), .int .i64 ((rd_T106 l0 a1).f3.f1), .string ((rd_T106 l0 a1).f3.f2), .int .i64 ((rd_T106 l0 a1).f4), .int .i64 ((rd_T106 l0 a1).f5)] 106 (0, 0))) := ⟨h2_⟩
       have n3_ : Aside0 (Below w.heap.size w w78) := ⟨h3_⟩
       clear BK159; clear HB; clear h0_ h1_ h2_ h3_; have HO165 := n0_; have HO168 := n1_; have BK159 := n2_; have HB := n3_; clear n0_ n1_ n2_ n3_; have hHeld : w78.cell? ⟨gb159, 0, none⟩ = some (.int .i64 ((rd_T106 l0 a1).f0)) ∧ w78.cell? ⟨gb159, 1, none⟩ = some (.int .u8 ((rd_T106 l0 a1).f1)) ∧ w78.cell? ⟨gb159, 2, none⟩ = some (.string ((rd_T106 l0 a1).f2)) ∧ w78.cell? ⟨gb159, 3, none⟩ = some (.int .i64 ((rd_T106 l0 a1).f3.f0)) ∧ w78.cell? ⟨gb159, 4, none⟩ = some (.int .i64 ((rd_T106 l0 a1).f3.f1)) ∧ w78.cell? ⟨gb159, 5, none⟩ = some (.string ((rd_T106 l0 a1).f3.f2)) ∧ w78.cell? ⟨gb159, 6, none⟩ = some (.int .i64 ((rd_T106 l0 a1).f4)) ∧ w78.cell? ⟨gb159, 7, none⟩ = some (.int .i64 ((rd_T106 l0 a1).f5)) := hS_
       obtain ⟨Ao79, co79, eo79⟩ := Kd.R_slice HO168.out; (first | subst eo79 | (injection eo79 with f1_ f2_ f3_; have f4_ := f1_.symm; have f5_ := f3_.symm; clear f1_ f2_ f3_; subst f4_; subst f5_)); refine norm_ (a' := ?_) ?_ ?_; rotate_left
       ·simp only [putAll, Act.put, ps_]; rfl
       refine one_ (i := 5) (N := some 59) be48_8 rfl rfl (one_of HT_.out (by kernel_rfl)) (by decide) (fun K hK => ?_); refine goes_ Tryz.func91 (by kernel_rfl) rfl #[.string (strOfNums y163), .slice Ao79 t166.length co79] (by rfl) rfl rfl mw_ ?_; with_reducible refine (spec_l2Is.calls kj4 (strOfNums y163) _ _ t166 true _ ?side1 ?side2 A34.out).mono ?_
       (case side1 => repeat (first | exact (Kd.R_reads' HO168.out).2.2 | (with_reducible refine Kd.C_alloc ?_ _) | (with_reducible refine Kd.C_drewN ?_ _) | (with_reducible refine Kd.C_drew ?_)))
       (case side2 => exact (Kd.R_reads' HO168.out).2.1)
       rintro e w' ⟨rfl, ⟨nd, rfl⟩⟩; refine ⟨_, rfl, ?_⟩; refine hK.out _ _ (bc8 BK159) fun hHeld => ?_
       clear hK K; refine nm_ 59 ?_; refine pu_ 6 60 be48_9 (any_of HT_.out (by kernel_rfl)) ?_; refine pu_ 7 61 be48_10 (any_of HT_.out (by kernel_rfl)) ?_; refine pu_ 8 62 be48_11 (any_of HT_.out (by kernel_rfl)) ?_; refine tk_ 9 63 be48_12 (take_ofW HT_.out HW_.out (by kernel_rfl)) hHeld ?_; refine pu_ 10 64 be48_13 (any_of HT_.out (by kernel_rfl)) ?_; refine pu_ 11 65 be48_14 (any_of HT_.out (by kernel_rfl)) ?_; refine pu_ 12 66 be48_15 (any_of HT_.out (by kernel_rfl)) ?_; refine pv_ 13 67 be48_16 (any_of HT_.out (by kernel_rfl)) ?_; refine pv_ 14 68 be48_17 (any_of HT_.out (by kernel_rfl)) ?_; refine pv_ 15 69 be48_18 (any_of HT_.out (by kernel_rfl)) ?_; refine pv_ 16 70 be48_19 (any_of HT_.out (by kernel_rfl)) ?_
       refine pu_ 17 71 be48_20 (any_of HT_.out (by kernel_rfl)) ?_; refine pu_ 18 72 be48_21 (any_of HT_.out (by kernel_rfl)) ?_; refine pv_ 19 73 be48_22 (any_of HT_.out (by kernel_rfl)) ?_; refine pv_ 20 74 be48_38 (any_of HT_.out (by kernel_rfl)) ?_; refine pv_ 21 75 be48_39 (any_of HT_.out (by kernel_rfl)) ?_; refine pv_ 22 76 be48_25 (any_of HT_.out (by kernel_rfl)) ?_; refine pv_ 23 77 be48_26 (any_of HT_.out (by kernel_rfl)) ?_; refine pu_ 24 78 be48_27 (any_of HT_.out (by kernel_rfl)) ?_; refine pu_ 25 79 be48_28 (any_of HT_.out (by kernel_rfl)) ?_; refine pv_ 26 80 be48_29 (any_of HT_.out (by kernel_rfl)) ?_; refine pv_ 27 81 be48_30 (any_of HT_.out (by kernel_rfl)) ?_
       refine pv_ 28 82 be48_31 (any_of HT_.out (by kernel_rfl)) ?_; refine pu_ 29 83 be48_32 (any_of HT_.out (by kernel_rfl)) ?_; refine pu_ 30 84 be48_33 (any_of HT_.out (by kernel_rfl)) ?_; refine pv_ 31 85 be48_34 (any_of HT_.out (by kernel_rfl)) ?_; refine pv_ 32 86 be48_35 (any_of HT_.out (by kernel_rfl)) ?_; refine pv_ 33 87 be48_36 (any_of HT_.out (by kernel_rfl)) ?_; refine pu_ 34 88 be48_37 (any_of HT_.out (by kernel_rfl)) ?_; refine done_ (done_of HT_.out (by kernel_rfl)) ?_; try go_wp2
       go_meet
       case rel => exact ⟨_, (true), mq_, H', ⟨by have := HJ4.out; first | omega | exact Nat.le_refl _⟩, ⟨mc_ BK159⟩, ⟨mb_ HB⟩⟩
     ·replace c35 := Bool.eq_false_iff.mpr c35; subst c35; rw [if_neg (show ¬ (false = true) by decide)] at H; have H' := a_ H; clear H; try go_wp2
      replace BK159 := a_ (blk_drew BK159.out); replace HB := a_ (below_drew1 HB.out); refine start_ (n := 35) (S := fun w' => w'.cell? ⟨gb159, 0, none⟩ = some (.int .i64 ((rd_T106 l0 a1).f0)) ∧ w'.cell? ⟨gb159, 1, none⟩ = some (.int .u8 ((rd_T106 l0 a1).f1)) ∧ w'.cell? ⟨gb159, 2, none⟩ = some (.string ((rd_T106 l0 a1).f2)) ∧ w'.cell? ⟨gb159, 3, none⟩ = some (.int .i64 ((rd_T106 l0 a1).f3.f0)) ∧ w'.cell? ⟨gb159, 4, none⟩ = some (.int .i64 ((rd_T106 l0 a1).f3.f1)) ∧ w'.cell? ⟨gb159, 5, none⟩ = some (.string ((rd_T106 l0 a1).f3.f2)) ∧ w'.cell? ⟨gb159, 6, none⟩ = some (.int .i64 ((rd_T106 l0 a1).f4)) ∧ w'.cell? ⟨gb159, 7, none⟩ = some (.int .i64 ((rd_T106 l0 a1).f5))) (ds := []) be48_0 (by kernel_rfl) rfl rfl ⟨bk_ BK159 0, bk_ BK159 1, bk_ BK159 2, bk_ BK159 3, bk_ BK159 4, bk_ BK159 5, bk_ BK159 6, bk_ BK159 7⟩ (fun hHeld => ?_); refine with_tabW spec_l2GoodExpr.tab9 spec_l2GoodExpr.bits9 (fun HT_ HW_ => ?_); generalize wc.drew = w80 at BK159 HB hHeld ⊢; refine pu_ 0 54 be48_1 (any_of HT_.out (by kernel_rfl)) ?_; refine tk_ 1 55 be48_2 (take_ofW HT_.out HW_.out (by kernel_rfl)) hHeld ?_; refine join_ (σ := Value × Value) 30 be48_3 (fun s_ => [(56, s_.1), (57, .string (strOfNums y163)), (58, s_.2)]) (fun s_ w' => (w'.cell? ⟨gb159, 0, none⟩ = some (.int .i64 ((rd_T106 l0 a1).f0)) ∧ w'.cell? ⟨gb159, 1, none⟩ = some (.int .u8 ((rd_T106 l0 a1).f1)) ∧ w'.cell? ⟨gb159, 2, none⟩ = some (.string ((rd_T106 l0 a1).f2)) ∧ w'.cell? ⟨gb159, 3, none⟩ = some (.int .i64 ((rd_T106 l0 a1).f3.f0)) ∧ w'.cell? ⟨gb159, 4, none⟩ = some (.int .i64 ((rd_T106 l0 a1).f3.f1)) ∧ w'.cell? ⟨gb159, 5, none⟩ = some (.string ((rd_T106 l0 a1).f3.f2)) ∧ w'.cell? ⟨gb159, 6, none⟩ = some (.int .i64 ((rd_T106 l0 a1).f4)) ∧ w'.cell? ⟨gb159, 7, none⟩ = some (.int .i64 ((rd_T106 l0 a1).f5))) ∧ (Kd.R (Kd.int .u8) 5 w' w.heap.size (fun _ => True) s_.1 y163) ∧ (Kd.R Kd.string 9 w' w.heap.size (fun _ => True) s_.2 t166) ∧ (w'.heap[gb159]? = some (.cells #[.int .i64 ((rd_T106 l0 a1).f0), .int .u8 ((rd_T106 l0 a1).f1), .string ((rd_T106 l0 a1).f2), .int .i64 ((rd_T106 l0 a1).f3.f0), .int .i64 ((rd_T106 l0 a1).f3.f1), .string ((rd_T106 l0 a1).f3.f2), .int .i64 ((rd_T106 l0 a1).f4), .int .i64 ((rd_T106 l0 a1).f5)] 106 (0, 0))) ∧ (Below w.heap.size w w')) ?_ ?_
      rotate_left
      ·intro hCont; refine two_ (i := 2) (j := 4) (Ni := some 56) (Nj := some 58) be48_4 be48_5 rfl rfl rfl rfl (two_of HT_.out (by kernel_rfl)) (by decide) (by decide) (fun K hK => ?_) (fun K hK => ?_)
       ·skip; refine Kd.R_lit_step (Kd.int .u8) _ 5 ?hg (N := 56) ?hd (xs := ([((rd_T106 l0 a1).f1)] : List Int)) (inner := [.int .u8 ((rd_T106 l0 a1).f1)]) (ok := fun _ => True) (okp := fun _ => True) ?hr ?hp (fun _ hk => hk) trivial (Below.refl _ _) (Nat.le_refl _) (by simp) ?_; (case hd => rfl); (case hg => rfl); (case hr => first | (go_simp; done) | (go_simp; rfl)); (case hp => exact (Reps.one (show Kd.M (Kd.int .u8) _ _ _ ((rd_T106 l0 a1).f1) [.int .u8 ((rd_T106 l0 a1).f1)] from rfl) (Reps.none _ _))); intro v164 w81 ho82 hb hg_ hnew_; clear hg_ hnew_; (first | rw [← Ny163.out] at ho82 | (simp only [Int.reduceToNat] at ho82; rw [← Ny163.out] at ho82)); have HO165 := a_ (Kd.R_lower ho82 (below_size (mb_ HB))); replace BK159 := mk_ BK159 hb; replace HB := ms_ HB hb; clear hb ho82; refine hK.out _ _ (bc8 BK159) fun hHeld => ?_
        clear hK K; refine nm_ 56 ?_; refine two_ (i := 3) (j := 4) (Ni := some 57) (Nj := some 58) be48_6 be48_7 rfl rfl rfl rfl (two_of HT_.out (by kernel_rfl)) (by decide) (by decide) (fun K hK => ?_) (fun K hK => ?_)
        ·skip; have hcv83 := own_string (P := Tryz.prog) Tryz.underlying98 Tryz.underlying5 Tryz.underlying9 (Kd.own_of_R HO165.out); refine value_ (w1 := ?_) (v := ?_) (by rfl) rfl ?_ ?_; rotate_left 2
         ·go_simp; constructor
          ·rfl
          ·rfl
         clear hcv83; refine hK.out _ _ (bc8 BK159) fun hHeld => ?_
         clear hK K; refine nm_ 57 ?_; refine one_ (i := 4) (N := some 58) be48_3 rfl rfl (one_of HT_.out (by kernel_rfl)) (by decide) (fun K hK => ?_); refine goes_ Tryz.func109 (by kernel_rfl) rfl #[] (by rfl) rfl rfl mw_ ?_; with_reducible refine (spec_l2Ariths.calls  t166 _ A33.out).mono ?_
         rintro e w84 ⟨v167, rfl, ho0, hb⟩; refine ⟨_, rfl, ?_⟩; have HO168 := a_ (Kd.R_lower ho0 (below_size (mb_ HB))); replace HO165 := ro_ HO165 hb; replace BK159 := mk_ BK159 hb; replace HB := ms_ HB hb; (try clear hb); (try clear hb2); (try clear hk); (try clear hi); (try clear ho0); refine hK.out _ _ (bc8 BK159) fun hHeld => ?_
         clear hK K; refine nm_ 58 ?_; exact norm_ (by simp only [putAll, Act.put, ps_]) (hCont (v164, v167) _ ⟨hHeld, (mo_ HO165.out), (mo_ HO168.out), (mc_ BK159), (mb_ HB)⟩)
        ·skip; refine goes_ Tryz.func109 (by kernel_rfl) rfl #[] (by rfl) rfl rfl mw_ ?_; with_reducible refine (spec_l2Ariths.calls  t166 _ A33.out).mono ?_
         rintro e w83 ⟨v167, rfl, ho0, hb⟩; refine ⟨_, rfl, ?_⟩; have HO168 := a_ (Kd.R_lower ho0 (below_size (mb_ HB))); replace HO165 := ro_ HO165 hb; replace BK159 := mk_ BK159 hb; replace HB := ms_ HB hb; (try clear hb); (try clear hb2); (try clear hk); (try clear hi); (try clear ho0); refine hK.out _ _ (bc8 BK159) fun hHeld => ?_
         clear hK K; refine nm_ 58 ?_; refine one_ (i := 3) (N := some 57) be48_3 rfl rfl (one_of HT_.out (by kernel_rfl)) (by decide) (fun K hK => ?_); have hcv84 := own_string (P := Tryz.prog) Tryz.underlying98 Tryz.underlying5 Tryz.underlying9 (Kd.own_of_R HO165.out); refine value_ (w1 := ?_) (v := ?_) (by rfl) rfl ?_ ?_; rotate_left 2
         ·go_simp; constructor
          ·rfl
          ·rfl
         clear hcv84; refine hK.out _ _ (bc8 BK159) fun hHeld => ?_
         clear hK K; refine nm_ 57 ?_; exact norm_ (by simp only [putAll, Act.put, ps_]) (hCont (v164, v167) _ ⟨hHeld, (mo_ HO165.out), (mo_ HO168.out), (mc_ BK159), (mb_ HB)⟩)
       ·skip; refine goes_ Tryz.func109 (by kernel_rfl) rfl #[] (by rfl) rfl rfl mw_ ?_; with_reducible refine (spec_l2Ariths.calls  t166 _ A33.out).mono ?_
        rintro e w81 ⟨v167, rfl, ho0, hb⟩; refine ⟨_, rfl, ?_⟩; have HO168 := a_ (Kd.R_lower ho0 (below_size (mb_ HB))); replace BK159 := mk_ BK159 hb; replace HB := ms_ HB hb; (try clear hb); (try clear hb2); (try clear hk); (try clear hi); (try clear ho0); refine hK.out _ _ (bc8 BK159) fun hHeld => ?_
        clear hK K; refine nm_ 58 ?_; refine one_ (i := 2) (N := some 56) be48_7 rfl rfl (one_of HT_.out (by kernel_rfl)) (by decide) (fun K hK => ?_); refine Kd.R_lit_step (Kd.int .u8) _ 5 ?hg (N := 56) ?hd (xs := ([((rd_T106 l0 a1).f1)] : List Int)) (inner := [.int .u8 ((rd_T106 l0 a1).f1)]) (ok := fun _ => True) (okp := fun _ => True) ?hr ?hp (fun _ hk => hk) trivial (Below.refl _ _) (Nat.le_refl _) (by simp) ?_; (case hd => rfl); (case hg => rfl); (case hr => first | (go_simp; done) | (go_simp; rfl)); (case hp => exact (Reps.one (show Kd.M (Kd.int .u8) _ _ _ ((rd_T106 l0 a1).f1) [.int .u8 ((rd_T106 l0 a1).f1)] from rfl) (Reps.none _ _))); intro v164 w82 ho83 hb hg_ hnew_; clear hg_ hnew_; (first | rw [← Ny163.out] at ho83 | (simp only [Int.reduceToNat] at ho83; rw [← Ny163.out] at ho83)); have HO165 := a_ (Kd.R_lower ho83 (below_size (mb_ HB))); replace HO168 := ro_ HO168 hb; replace BK159 := mk_ BK159 hb; replace HB := ms_ HB hb; clear hb ho83; refine hK.out _ _ (bc8 BK159) fun hHeld => ?_
        clear hK K; refine nm_ 56 ?_; refine one_ (i := 3) (N := some 57) be48_3 rfl rfl (one_of HT_.out (by kernel_rfl)) (by decide) (fun K hK => ?_); have hcv84 := own_string (P := Tryz.prog) Tryz.underlying98 Tryz.underlying5 Tryz.underlying9 (Kd.own_of_R HO165.out); refine value_ (w1 := ?_) (v := ?_) (by rfl) rfl ?_ ?_; rotate_left 2
        ·go_simp; constructor
         ·rfl
         ·rfl
        clear hcv84; refine hK.out _ _ (bc8 BK159) fun hHeld => ?_
        clear hK K; refine nm_ 57 ?_; exact norm_ (by simp only [putAll, Act.put, ps_]) (hCont (v164, v167) _ ⟨hHeld, (mo_ HO165.out), (mo_ HO168.out), (mc_ BK159), (mb_ HB)⟩)
      rintro ⟨v164, v167⟩ w85 ⟨hS_, h0_, h1_, h2_, h3_⟩; have n0_ : Aside0 (Kd.R (Kd.int .u8) 5 w85 w.heap.size (fun _ => True) v164 y163) := ⟨h0_⟩
      have n1_ : Aside0 (Kd.R Kd.string 9 w85 w.heap.size (fun _ => True) v167 t166) := ⟨h1_⟩
      have n2_ : Aside0 (w85.heap[gb159]? = some (.cells #[.int .i64 ((rd_T106 l0 a1).f0), .int .u8 ((rd_T106 l0 a1).f1), .string ((rd_T106 l0 a1).f2), .int .i64 ((rd_T106 l0 a1).f3.f0), .int .i64 ((rd_T106 l0 a1).f3.f1), .string ((rd_T106 l0 a1).f3.f2), .int .i64 ((rd_T106 l0 a1).f4), .int .i64 ((rd_T106 l0 a1).f5)] 106 (0, 0))) := ⟨h2_⟩
      have n3_ : Aside0 (Below w.heap.size w w85) := ⟨h3_⟩
      clear BK159; clear HB; clear h0_ h1_ h2_ h3_; have HO165 := n0_; have HO168 := n1_; have BK159 := n2_; have HB := n3_; clear n0_ n1_ n2_ n3_; have hHeld : w85.cell? ⟨gb159, 0, none⟩ = some (.int .i64 ((rd_T106 l0 a1).f0)) ∧ w85.cell? ⟨gb159, 1, none⟩ = some (.int .u8 ((rd_T106 l0 a1).f1)) ∧ w85.cell? ⟨gb159, 2, none⟩ = some (.string ((rd_T106 l0 a1).f2)) ∧ w85.cell? ⟨gb159, 3, none⟩ = some (.int .i64 ((rd_T106 l0 a1).f3.f0)) ∧ w85.cell? ⟨gb159, 4, none⟩ = some (.int .i64 ((rd_T106 l0 a1).f3.f1)) ∧ w85.cell? ⟨gb159, 5, none⟩ = some (.string ((rd_T106 l0 a1).f3.f2)) ∧ w85.cell? ⟨gb159, 6, none⟩ = some (.int .i64 ((rd_T106 l0 a1).f4)) ∧ w85.cell? ⟨gb159, 7, none⟩ = some (.int .i64 ((rd_T106 l0 a1).f5)) := hS_
      obtain ⟨Ao86, co86, eo86⟩ := Kd.R_slice HO168.out; (first | subst eo86 | (injection eo86 with f1_ f2_ f3_; have f4_ := f1_.symm; have f5_ := f3_.symm; clear f1_ f2_ f3_; subst f4_; subst f5_)); refine norm_ (a' := ?_) ?_ ?_; rotate_left
      ·simp only [putAll, Act.put, ps_]; rfl
      refine one_ (i := 5) (N := some 59) be48_8 rfl rfl (one_of HT_.out (by kernel_rfl)) (by decide) (fun K hK => ?_); refine goes_ Tryz.func91 (by kernel_rfl) rfl #[.string (strOfNums y163), .slice Ao86 t166.length co86] (by rfl) rfl rfl mw_ ?_; with_reducible refine (spec_l2Is.calls kj4 (strOfNums y163) _ _ t166 false _ ?side1 ?side2 A34.out).mono ?_
      (case side1 => repeat (first | exact (Kd.R_reads' HO168.out).2.2 | (with_reducible refine Kd.C_alloc ?_ _) | (with_reducible refine Kd.C_drewN ?_ _) | (with_reducible refine Kd.C_drew ?_)))
      (case side2 => exact (Kd.R_reads' HO168.out).2.1)
      rintro e w' ⟨rfl, ⟨nd, rfl⟩⟩; refine ⟨_, rfl, ?_⟩; refine hK.out _ _ (bc8 BK159) fun hHeld => ?_
      clear hK K; refine nm_ 59 ?_; refine pu_ 6 60 be48_9 (any_of HT_.out (by kernel_rfl)) ?_; refine pu_ 7 61 be48_10 (any_of HT_.out (by kernel_rfl)) ?_; refine pv_ 8 62 be48_11 (any_of HT_.out (by kernel_rfl)) ?_; refine pv_ 9 63 be48_12 (any_of HT_.out (by kernel_rfl)) ?_; refine pv_ 10 64 be48_13 (any_of HT_.out (by kernel_rfl)) ?_; refine pu_ 11 65 be48_14 (any_of HT_.out (by kernel_rfl)) ?_; refine pu_ 12 66 be48_15 (any_of HT_.out (by kernel_rfl)) ?_; refine pv_ 13 67 be48_16 (any_of HT_.out (by kernel_rfl)) ?_; refine pv_ 14 68 be48_17 (any_of HT_.out (by kernel_rfl)) ?_; refine pv_ 15 69 be48_18 (any_of HT_.out (by kernel_rfl)) ?_; refine pv_ 16 70 be48_19 (any_of HT_.out (by kernel_rfl)) ?_
      refine pu_ 17 71 be48_20 (any_of HT_.out (by kernel_rfl)) ?_; refine pu_ 18 72 be48_21 (any_of HT_.out (by kernel_rfl)) ?_; refine pv_ 19 73 be48_22 (any_of HT_.out (by kernel_rfl)) ?_; refine pv_ 20 74 be48_38 (any_of HT_.out (by kernel_rfl)) ?_; refine pv_ 21 75 be48_39 (any_of HT_.out (by kernel_rfl)) ?_; refine pv_ 22 76 be48_25 (any_of HT_.out (by kernel_rfl)) ?_; refine pv_ 23 77 be48_26 (any_of HT_.out (by kernel_rfl)) ?_; refine pu_ 24 78 be48_27 (any_of HT_.out (by kernel_rfl)) ?_; refine pu_ 25 79 be48_28 (any_of HT_.out (by kernel_rfl)) ?_; refine pv_ 26 80 be48_29 (any_of HT_.out (by kernel_rfl)) ?_; refine pv_ 27 81 be48_30 (any_of HT_.out (by kernel_rfl)) ?_
      refine pv_ 28 82 be48_31 (any_of HT_.out (by kernel_rfl)) ?_; refine pu_ 29 83 be48_32 (any_of HT_.out (by kernel_rfl)) ?_; refine pu_ 30 84 be48_33 (any_of HT_.out (by kernel_rfl)) ?_; refine pv_ 31 85 be48_34 (any_of HT_.out (by kernel_rfl)) ?_; refine pv_ 32 86 be48_35 (any_of HT_.out (by kernel_rfl)) ?_; refine pv_ 33 87 be48_36 (any_of HT_.out (by kernel_rfl)) ?_; refine pu_ 34 88 be48_37 (any_of HT_.out (by kernel_rfl)) ?_; refine done_ (done_of HT_.out (by kernel_rfl)) ?_; try go_wp2
      go_meet
      case rel => exact ⟨_, (true), mq_, H', ⟨by have := HJ4.out; first | omega | exact Nat.le_refl _⟩, ⟨mc_ BK159⟩, ⟨mb_ HB⟩⟩
    clear HC31; obtain ⟨kq, x88_30, rfl, HA, HJ30, BK159, HB⟩ := hcut; obtain _ | kj30 := kq
    ·exact absurd HA.out (by simp [spec_l2GoodExpr.j1])
    have H := HA.out; clear HA; simp only [spec_l2GoodExpr.j1] at H; by_cases c87 : x88_30 = true
    ·subst c87; rw [if_pos rfl] at H; obtain rfl := oi_ H; go_wp2; go_ret; exact ⟨me_, mb_ HB⟩
    ·replace c87 := Bool.eq_false_iff.mpr c87; subst c87; rw [if_neg (show ¬ (false = true) by decide)] at H; obtain ⟨t171, A88, H⟩ := ob_ H; by_cases c89 : ((rd_T106 l0 a1).f4) = (wrap64 (t171 - 1))
     ·rw [if_pos c89] at H; obtain ⟨c89b0, c89b1⟩ := bq_ c89; clear c89; obtain ⟨t172, A90, H⟩ := ob_ H; obtain rfl := oi_ H; try go_wp2
      replace BK159 := a_ (blk_drew BK159.out); replace HB := a_ (below_drew1 HB.out); refine start_ (n := 15) (S := fun w' => w'.cell? ⟨gb159, 0, none⟩ = some (.int .i64 ((rd_T106 l0 a1).f0)) ∧ w'.cell? ⟨gb159, 1, none⟩ = some (.int .u8 ((rd_T106 l0 a1).f1)) ∧ w'.cell? ⟨gb159, 2, none⟩ = some (.string ((rd_T106 l0 a1).f2)) ∧ w'.cell? ⟨gb159, 3, none⟩ = some (.int .i64 ((rd_T106 l0 a1).f3.f0)) ∧ w'.cell? ⟨gb159, 4, none⟩ = some (.int .i64 ((rd_T106 l0 a1).f3.f1)) ∧ w'.cell? ⟨gb159, 5, none⟩ = some (.string ((rd_T106 l0 a1).f3.f2)) ∧ w'.cell? ⟨gb159, 6, none⟩ = some (.int .i64 ((rd_T106 l0 a1).f4)) ∧ w'.cell? ⟨gb159, 7, none⟩ = some (.int .i64 ((rd_T106 l0 a1).f5))) (ds := []) be48_40 (by kernel_rfl) rfl rfl ⟨bk_ BK159 0, bk_ BK159 1, bk_ BK159 2, bk_ BK159 3, bk_ BK159 4, bk_ BK159 5, bk_ BK159 6, bk_ BK159 7⟩ (fun hHeld => ?_); refine with_tabW spec_l2GoodExpr.tab11 spec_l2GoodExpr.bits11 (fun HT_ HW_ => ?_); generalize wc.drew = w91 at BK159 HB hHeld ⊢; refine pu_ 0 89 be48_41 (any_of HT_.out (by kernel_rfl)) ?_; refine pu_ 2 91 be48_42 (any_of HT_.out (by kernel_rfl)) ?_; refine pu_ 3 92 be48_43 (any_of HT_.out (by kernel_rfl)) ?_; refine tk_ 1 90 be48_44 (take_ofW HT_.out HW_.out (by kernel_rfl)) hHeld ?_; refine tk_ 4 93 be48_45 (take_ofW HT_.out HW_.out (by kernel_rfl)) hHeld ?_; refine one_ (i := 5) (N := some 94) be48_46 rfl rfl (one_of HT_.out (by kernel_rfl)) (by decide) (fun K hK => ?_); refine goes_ Tryz.func92 (by kernel_rfl) rfl #[.slice (some ad158) l0.length c0, .int .i64 ((rd_T106 l0 a1).f5)] (by rfl) rfl rfl mw_ ?_; with_reducible refine (spec_l2First.calls kj30 _ _ l0 ((rd_T106 l0 a1).f5) t171 _ ?side1 ?side2 A88.out).mono ?_
      (case side1 => exact mt_ HR0 HB)
      (case side2 => exact HC0.out)
      rintro e w' ⟨rfl, ⟨nd, rfl⟩⟩; refine ⟨_, rfl, ?_⟩; refine hK.out _ _ (bc8 BK159) fun hHeld => ?_
      clear hK K; refine nm_ 94 ?_; refine pu_ 6 95 be48_47 (any_of HT_.out (by kernel_rfl)) ?_; refine pu_ 7 96 be48_48 (any_of HT_.out (by kernel_rfl)) ?_; refine pu_ 8 97 be48_49 (any_of HT_.out (by kernel_rfl)) ?_; refine pu_ 9 98 be48_50 (any_of HT_.out (by kernel_rfl)) ?_; refine pu_ 10 99 be48_51 (any_of HT_.out (by kernel_rfl)) ?_; refine one_ (i := 11) (N := some 100) be48_52 rfl rfl (one_of HT_.out (by kernel_rfl)) (by decide) (fun K hK => ?_); refine goes_ Tryz.func110 (by kernel_rfl) rfl #[.slice (some ad158) l0.length c0, .int .i64 a1] (by rfl) rfl rfl mw_ ?_; with_reducible refine (spec_l2Depth.calls kj30 _ _ l0 a1 t172 _ ?side1 ?side2 A90.out).mono ?_
      (case side1 => repeat (first | exact (Kd.C_below HR0.out (mb_ HB)) | (with_reducible refine Kd.C_alloc ?_ _) | (with_reducible refine Kd.C_drewN ?_ _) | (with_reducible refine Kd.C_drew ?_)))
      (case side2 => exact HC0.out)
      rintro e w' ⟨rfl, ⟨nd, rfl⟩⟩; refine ⟨_, rfl, ?_⟩; refine hK.out _ _ (bc8 BK159) fun hHeld => ?_
      clear hK K; refine nm_ 100 ?_; refine pu_ 12 101 be48_53 (any_of HT_.out (by kernel_rfl)) ?_; refine pu_ 13 102 be48_54 (any_of HT_.out (by kernel_rfl)) ?_; refine pu_ 14 4 be48_55 (any_of HT_.out (by kernel_rfl)) ?_; refine done_ (done_of HT_.out (by kernel_rfl)) ?_; try go_wp2
      go_ret; exact ⟨me_, mb_ HB⟩
     ·rw [if_neg c89] at H; obtain ⟨c89b0, c89b1⟩ := bn_ c89; obtain rfl := oi_ H; try go_wp2
      replace BK159 := a_ (blk_drew BK159.out); replace HB := a_ (below_drew1 HB.out); refine start_ (n := 15) (S := fun w' => w'.cell? ⟨gb159, 0, none⟩ = some (.int .i64 ((rd_T106 l0 a1).f0)) ∧ w'.cell? ⟨gb159, 1, none⟩ = some (.int .u8 ((rd_T106 l0 a1).f1)) ∧ w'.cell? ⟨gb159, 2, none⟩ = some (.string ((rd_T106 l0 a1).f2)) ∧ w'.cell? ⟨gb159, 3, none⟩ = some (.int .i64 ((rd_T106 l0 a1).f3.f0)) ∧ w'.cell? ⟨gb159, 4, none⟩ = some (.int .i64 ((rd_T106 l0 a1).f3.f1)) ∧ w'.cell? ⟨gb159, 5, none⟩ = some (.string ((rd_T106 l0 a1).f3.f2)) ∧ w'.cell? ⟨gb159, 6, none⟩ = some (.int .i64 ((rd_T106 l0 a1).f4)) ∧ w'.cell? ⟨gb159, 7, none⟩ = some (.int .i64 ((rd_T106 l0 a1).f5))) (ds := []) be48_40 (by kernel_rfl) rfl rfl ⟨bk_ BK159 0, bk_ BK159 1, bk_ BK159 2, bk_ BK159 3, bk_ BK159 4, bk_ BK159 5, bk_ BK159 6, bk_ BK159 7⟩ (fun hHeld => ?_); refine with_tabW spec_l2GoodExpr.tab11 spec_l2GoodExpr.bits11 (fun HT_ HW_ => ?_); generalize wc.drew = w92 at BK159 HB hHeld ⊢; refine pu_ 0 89 be48_41 (any_of HT_.out (by kernel_rfl)) ?_; refine pu_ 2 91 be48_42 (any_of HT_.out (by kernel_rfl)) ?_; refine pu_ 3 92 be48_43 (any_of HT_.out (by kernel_rfl)) ?_; refine tk_ 1 90 be48_44 (take_ofW HT_.out HW_.out (by kernel_rfl)) hHeld ?_; refine tk_ 4 93 be48_45 (take_ofW HT_.out HW_.out (by kernel_rfl)) hHeld ?_; refine one_ (i := 5) (N := some 94) be48_46 rfl rfl (one_of HT_.out (by kernel_rfl)) (by decide) (fun K hK => ?_); refine goes_ Tryz.func92 (by kernel_rfl) rfl #[.slice (some ad158) l0.length c0, .int .i64 ((rd_T106 l0 a1).f5)] (by rfl) rfl rfl mw_ ?_; with_reducible refine (spec_l2First.calls kj30 _ _ l0 ((rd_T106 l0 a1).f5) t171 _ ?side1 ?side2 A88.out).mono ?_
      (case side1 => exact mt_ HR0 HB)
      (case side2 => exact HC0.out)
      rintro e w' ⟨rfl, ⟨nd, rfl⟩⟩; refine ⟨_, rfl, ?_⟩; refine hK.out _ _ (bc8 BK159) fun hHeld => ?_
      clear hK K; refine nm_ 94 ?_; refine pu_ 6 95 be48_47 (any_of HT_.out (by kernel_rfl)) ?_; refine pu_ 7 96 be48_48 (any_of HT_.out (by kernel_rfl)) ?_; refine pu_ 8 97 be48_49 (any_of HT_.out (by kernel_rfl)) ?_; refine pv_ 9 98 be48_50 (any_of HT_.out (by kernel_rfl)) ?_; refine pv_ 10 99 be48_51 (any_of HT_.out (by kernel_rfl)) ?_; refine pv_ 11 100 be48_52 (any_of HT_.out (by kernel_rfl)) ?_; refine pv_ 12 101 be48_53 (any_of HT_.out (by kernel_rfl)) ?_; refine pu_ 13 102 be48_54 (any_of HT_.out (by kernel_rfl)) ?_; refine pu_ 14 4 be48_55 (any_of HT_.out (by kernel_rfl)) ?_; refine done_ (done_of HT_.out (by kernel_rfl)) ?_; try go_wp2
      go_ret; exact ⟨me_, mb_ HB⟩
   ·rw [if_neg c30] at H; obtain ⟨c30b0, c30b1⟩ := bn_ c30; obtain rfl := oi_ H; obtain ⟨z93_0, z93_1, z93_2, z93_3, z93_4, z93_5, z93_6, z93_7, zf93_0, zf93_1, zf93_2, zf93_3, zf93_4, zf93_5, zf93_6, zf93_7⟩ := cz8 BK159; go_wp2; go_ret; exact ⟨me_, mb_ HB⟩
end Go.Proofs.YtejjlkbbnhpbdaaGreat.P
namespace Go.Proofs.YtejjlkbbnhpbdaaGreatX
open Go.RowKit Go.Proofs.YtejjlkbbnhpbdaaGreatW.PrintWords
set_option linter.unusedVariables false
set_option linter.unusedSimpArgs false
def bigN : Nat := 4611686018427387903
theorem le_of_bigN {n : Nat} (h : n ≤ bigN) : n ≤ 4611686018427387903 := h
def PredB (P : Program) (g : Nat) (lb : Array Value) {α : Type} (enc : α → Value) (p : α → Bool) (xs : List α) (w : World) : Prop :=
 ∀ (W : World) (x : α), x ∈ xs → Below w.heap.size w W → Calls P g (#[enc x] ++ lb) W fun e w' => e = .returned (.bool (p x)) ∧ Below W.heap.size W w'
def idxB {α : Type} (p : α → Bool) : List α → Int
 | [] => -1
 | x :: xs => if p x then 0 else (if idxB p xs < 0 then -1 else idxB p xs + 1)
theorem idxB_neg {α : Type} (p : α → Bool) (xs : List α) : idxB p xs = -1 ∨ 0 ≤ idxB p xs := by
 induction xs with
 | nil => exact .inl rfl
 | cons x xs ih =>
  simp only [idxB]; split
  ·exact .inr (by omega)
  ·split
   ·exact .inl rfl
   ·exact .inr (by omega)
theorem idxB_miss {α : Type} (p : α → Bool) (xs : List α) (h : ∀ x, x ∈ xs → p x = false) : idxB p xs = -1 := by
 induction xs with
 | nil => rfl
 | cons x xs ih =>
  simp only [idxB]; rw [h x List.mem_cons_self, ih (fun y hy => h y (List.mem_cons_of_mem _ hy))]; simp
theorem idxB_hit {α : Type} (p : α → Bool) : ∀ (xs : List α) (k : Nat) (z : α), k < xs.length → p (xs.getD k z) = true → (∀ j, j < k → p (xs.getD j z) = false) → idxB p xs = k
 | [], k, z, hk, _, _ => absurd hk (by simp)
 | x :: xs, 0, z, _, hp, _ => by
  have : p x = true := hp
  simp [idxB, this]
 | x :: xs, k + 1, z, hk, hp, hm => by
  have h0 : p x = false := hm 0 (by omega)
  have ih := idxB_hit p xs k z (by simpa using hk) hp (fun j hj => hm (j + 1) (by omega)); simp only [idxB, h0, ih]; rw [if_neg (by simp), if_neg (by omega)]; simp
theorem idxB_iff {α : Type} (p : α → Bool) (xs : List α) : idxB p xs ≥ 0 ↔ xs.any p = true := by
 induction xs with
 | nil => simp [idxB]
 | cons x xs ih =>
  rw [List.any_cons, idxB]; by_cases hp : p x = true
  ·rw [if_pos hp, hp]; simp
  ·rw [if_neg hp, Bool.eq_false_iff.2 hp, Bool.false_or, ← ih]; rcases idxB_neg p xs with h | h
   ·rw [h]; simp
   ·rw [if_neg (by omega)]; omega
theorem idxB_any {α : Type} (p : α → Bool) (xs : List α) : decide (idxB p xs ≥ 0) = xs.any p := by
 rw [Bool.eq_iff_iff, decide_eq_true_iff]; exact idxB_iff p xs
theorem getD_mem {α : Type} {xs : List α} {k : Nat} {z : α} (h : k < xs.length) : xs.getD k z ∈ xs := by
 rw [List.getD_eq_getElem?_getD, List.getElem?_eq_getElem h]; exact List.getElem_mem h
theorem cellsBelow {W w1 : World} {n : Nat} (hb : Below n W w1) (h : n = W.heap.size) : (∀ b o, b < n → w1.cell? ⟨b, o, none⟩ = W.cell? ⟨b, o, none⟩) ∧ (∀ b o, b < n → w1.frozen? ⟨b, o, none⟩ = W.frozen? ⟨b, o, none⟩) := by
 subst h; exact ⟨fun b o h => hb.cell (p := ⟨b, o, none⟩) h, fun b o h => hb.frozen (p := ⟨b, o, none⟩) h⟩
end Go.Proofs.YtejjlkbbnhpbdaaGreatX
