/- The statements of layer 3: bytes are just one thing, or are refused. Printed by mkbytes.py. -/
import Derived.Test.YteohhgkehkmgcaaGreatLaw3
import Derived.Test.YteohhgkehkmgcaaGreatRGet1
import Derived.Test.YteohhgkehkmgcaaGreatFrame
namespace Go.Proofs.YteohhgkehkmgcaaGreat
open Go.RowKit Le
set_option maxRecDepth 100000
set_option linter.unusedVariables false
set_option linter.unusedSimpArgs false

theorem Keeps.of_grown {ts : List TypeId} {w w' : World} {g : Nat} {t : TypeId} (hg : w.grownBy w' (some g)) (ht : TypeAt w g t) (hm : t ∈ ts) : Keeps ts w w' :=
  ⟨hg.size, fun k t' hk hn => hg.block k hk.lt (by intro e; injection e with e; subst e; exact hn ((hk.same ht) ▸ hm))⟩
theorem IsRow.cap_le {k : IntKind} {w : World} {a : Option Addr} {len cap : Nat} {zs : List Int} (h : IsRow k w a len cap zs) : cap ≤ 9223372036854775807 := by
  rcases h with ⟨_, _, rfl, _⟩ | ⟨_, _, _, h, _⟩
  · omega
  · exact h
theorem lent_reads {w : World} {g n : Nat} {l : List UInt8} (h : Blk w g 5 (u8s (l ++ marks))) (hn : l.length = n) : Reads w w.heap.size (some ⟨g, 0, none⟩) n (u8s l) := by
  have h2 := h.reads (n := n) (by simp [← hn])
  rwa [show (u8s (l ++ marks)).take n = u8s l by rw [u8s_append, List.take_left' (by simp [hn])]] at h2
theorem rds_back {sh : List Sh} {l : List UInt8} {ds : List Da} (h : rds sh l = some (ds, [])) : lays sh ds ([], 0) = (l, 0) := by
  obtain ⟨p, hp, hB⟩ := rds_lay sh l ds [] h
  rw [List.append_nil] at hp
  subst hp
  have := hB []
  simpa using this

def zeroRecord : List Da := [.int 0, .int 0, .int 0, .int 0, .int 0, .int 0, .rows [], .rows [], .text [], .int 0, .int 0, .int 0, .rows [], .rows [], .text []]
theorem cels_zeroRecord (w : World) (S : Nat → Prop) : Cels w S shRecord zeroRecord [.int .i64 0, .int .i64 0, .int .i64 0, .int .i64 0, .int .i64 0, .int .i64 0, .slice none 0 0, .slice none 0 0, .string ⟨#[]⟩, .int .i64 0, .int .i64 0, .int .i64 0, .slice none 0 0, .slice none 0 0, .string ⟨#[]⟩] := by
  have e := cel_empty w S
  have n := fun x => Cel.mk_num (w := w) (S := S) x
  have z := cel_zero w S
  exact (Cels.mk (n 0) (Cels.mk (n 0) (Cels.mk (n 0) (Cels.mk (n 0) (Cels.mk (n 0) (Cels.mk (n 0) (Cels.mk (cel_nil w S _) (Cels.mk (cel_nil w S _) (Cels.mk e (Cels.mk (n 0) (Cels.mk (n 0) (Cels.mk (n 0) (Cels.mk (cel_nil w S _) (Cels.mk (cel_nil w S _) (Cels.mk e Cels.mk0)))))))))))))))
def zeroCommand : List Da := [.int 0, .text [], .text [], .text [], .text [], .text [], .rows [], .text [], .int 0, .rows [], .int 0, .int 0, .text [], .text [], .text [], .int 0, .flag false]
theorem cels_zeroCommand (w : World) (S : Nat → Prop) : Cels w S shCommand zeroCommand [.int .i64 0, .string ⟨#[]⟩, .string ⟨#[]⟩, .string ⟨#[]⟩, .string ⟨#[]⟩, .string ⟨#[]⟩, .slice none 0 0, .string ⟨#[]⟩, .int .i64 0, .slice none 0 0, .int .i64 0, .int .i64 0, .string ⟨#[]⟩, .string ⟨#[]⟩, .string ⟨#[]⟩, .int .i64 0, .bool false] := by
  have e := cel_empty w S
  have n := fun x => Cel.mk_num (w := w) (S := S) x
  have z := cel_zero w S
  exact (Cels.mk (n 0) (Cels.mk e (Cels.mk e (Cels.mk e (Cels.mk e (Cels.mk e (Cels.mk (cel_nil w S _) (Cels.mk e (Cels.mk (n 0) (Cels.mk (cel_nil w S _) (Cels.mk z (Cels.mk z (Cels.mk e (Cels.mk e (Cels.mk e (Cels.mk (n 0) (Cels.mk (Cel.mk_flag false) Cels.mk0)))))))))))))))))
def zeroOp : List Da := [.int 0, .int 0, .int 0, .int 0, .text [], .text [], .text [], .text [], .text [], .rows [], .text [], .int 0, .rows [], .int 0, .int 0, .text [], .text [], .text [], .int 0, .flag false, .int 0, .int 0, .int 0]
theorem cels_zeroOp (w : World) (S : Nat → Prop) : Cels w S shOp zeroOp [.int .i64 0, .int .i64 0, .int .i64 0, .int .i64 0, .string ⟨#[]⟩, .string ⟨#[]⟩, .string ⟨#[]⟩, .string ⟨#[]⟩, .string ⟨#[]⟩, .slice none 0 0, .string ⟨#[]⟩, .int .i64 0, .slice none 0 0, .int .i64 0, .int .i64 0, .string ⟨#[]⟩, .string ⟨#[]⟩, .string ⟨#[]⟩, .int .i64 0, .bool false, .int .i64 0, .int .i64 0, .int .i64 0] := by
  have e := cel_empty w S
  have n := fun x => Cel.mk_num (w := w) (S := S) x
  have z := cel_zero w S
  exact (Cels.mk (n 0) (Cels.mk (n 0) (Cels.mk (n 0) (Cels.mk (n 0) (Cels.mk e (Cels.mk e (Cels.mk e (Cels.mk e (Cels.mk e (Cels.mk (cel_nil w S _) (Cels.mk e (Cels.mk (n 0) (Cels.mk (cel_nil w S _) (Cels.mk z (Cels.mk z (Cels.mk e (Cels.mk e (Cels.mk e (Cels.mk (n 0) (Cels.mk (Cel.mk_flag false) (Cels.mk (n 0) (Cels.mk (n 0) (Cels.mk (n 0) Cels.mk0)))))))))))))))))))))))
end Go.Proofs.YteohhgkehkmgcaaGreat
