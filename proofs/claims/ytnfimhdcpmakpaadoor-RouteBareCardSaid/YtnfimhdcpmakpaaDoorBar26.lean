/-
  RouteBare, without Go and memory: what route.To makes of the log's road.
-/
import Derived.Test.YtnfimhdcpmakpaaDoorBgn26
import Derived.Test.YtnfimhdcpmakpaaDoorUhx26
namespace Go.Proofs.YtnfimhdcpmakpaaDoor.S
open Go.RowKit Go.Proofs.YtnfimhdcpmakpaaDoorW.PrintWords
set_option linter.unusedVariables false
set_option linter.unusedSimpArgs false
def LOG : ByteArray := ⟨#[47, 97, 47, 108, 111, 103]⟩
def AUTH : ByteArray := ⟨#[97, 117, 116, 104, 111, 114, 105, 122, 97, 116, 105, 111, 110]⟩
def BEAR : ByteArray := ⟨#[66, 101, 97, 114, 101, 114, 32]⟩
theorem to_log (fs : List S41) : toF 60 GET LOG fs = (route_token.f 60 fs).bind fun t => some ({ zeroO with dv := 16 }, t, 0) := by kernel_rfl
theorem token_none : route_token.f 60 [] = some [] := by kernel_rfl
theorem get_one (v : ByteArray) : field_Get.f 60 [⟨AUTH, v⟩] AUTH = some (v, 0) := by kernel_rfl
theorem app_dataL (a b : ByteArray) : (a ++ b).data.toList = a.data.toList ++ b.data.toList := by simp
theorem ext_pre (a h : ByteArray) : ((a ++ h).extract 0 a.size) = a := by
  apply ByteArray.ext
  apply Array.toList_inj.1
  rw [ByteArray.data_extract, Array.toList_extract, app_dataL]
  simp only [List.extract, Nat.sub_zero, List.drop_zero]
  exact List.take_left' Array.length_toList
theorem ext_post (a h : ByteArray) : ((a ++ h).extract a.size (a ++ h).size) = h := by
  apply ByteArray.ext
  apply Array.toList_inj.1
  have e2 : (a ++ h).size = a.size + h.size := ByteArray.size_append
  rw [ByteArray.data_extract, Array.toList_extract, app_dataL]
  simp only [List.extract]
  rw [List.drop_left' (show a.data.toList.length = a.size from Array.length_toList), e2, List.take_of_length_le (by rw [Array.length_toList]; show h.size ≤ _; omega)]
theorem cut_bear (h : ByteArray) : strings_CutPrefix.f (BEAR ++ h) BEAR = some (h, true) := by
  have hz : (BEAR ++ h).size = BEAR.size + h.size := ByteArray.size_append
  unfold strings_CutPrefix.f stringslite_CutPrefix.f stringslite_HasPrefix.f
  rw [if_pos (show ((BEAR ++ h).size : Int) ≥ (BEAR.size : Int) by rw [hz]; omega), if_pos (show (0 : Int) ≤ (BEAR.size : Int) by omega), if_pos (show (BEAR.size : Int) ≤ ((BEAR ++ h).size : Int) by rw [hz]; omega)]
  simp only [Option.bind_some, Int.toNat_natCast]
  rw [ext_pre, ext_post, if_pos (by simp), if_pos (show (0 : Int) ≤ (BEAR.size : Int) by omega), if_pos (show (BEAR.size : Int) ≤ ((BEAR ++ h).size : Int) by rw [hz]; omega)]
  rfl
theorem token_hex (l : List Int) (hl : ∀ c ∈ l, 0 ≤ c ∧ c ≤ 255) (hn : l.length ≤ 500) : route_token.f 60 [⟨AUTH, BEAR ++ strOfNums (hexl l)⟩] = some (if l.length = 0 then [0] else l) := by
  have hu : xUnhex.f (strOfNums (hexl l)) = some (l, 0) := by
    unfold xUnhex.f
    rw [if_pos (by rw [hex_size]; omega), unh_hex l hl]
  unfold route_token.f
  have hg := get_one (BEAR ++ strOfNums (hexl l))
  unfold AUTH at hg ⊢
  rw [hg]
  simp only [Option.bind_some]
  rw [if_neg (by decide)]
  have hc := cut_bear (strOfNums (hexl l))
  unfold BEAR at hc ⊢
  rw [hc]
  simp only [Option.bind_some]
  rw [hu]
  simp only [Option.bind_some]
  rw [if_pos trivial, if_pos trivial, if_pos trivial]
  by_cases h0 : l.length = 0
  · rw [if_pos (by omega), if_pos h0]
  · rw [if_neg (by omega), if_neg h0]
end Go.Proofs.YtnfimhdcpmakpaaDoor.S
