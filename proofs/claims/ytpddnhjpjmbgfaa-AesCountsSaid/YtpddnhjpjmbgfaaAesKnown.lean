/- AES: the block known beforehand (literal states, printed by aeslit.py). -/
import Derived.Test.YtpddnhjpjmbgfaaAesTop
namespace Go.Proofs.Ytpddnhjpjmbgfaa
set_option linter.unusedVariables false
set_option linter.unusedSimpArgs false
open Go.RowKit
namespace aes
def klF (l : List UInt8) (n : Nat) : Nat → List UInt8
  | 0 => l
  | j + 1 => klF (l ++ [nx l n]) (n + 1) j
theorem kl_F (key : List UInt8) (j : Nat) : ∀ d, klF (kl key j) (16 + j) d = kl key (j + d)
  | 0 => rfl
  | d + 1 => by rw [klF, show kl key j ++ [nx (kl key j) (16 + j)] = kl key (j + 1) from rfl, show 16 + j + 1 = 16 + (j + 1) by omega, kl_F key (j + 1) d]; congr 1; omega
set_option maxRecDepth 10000
def kw0 : List UInt8 := [0, 1, 2, 3, 4, 5, 6, 7, 8, 9, 10, 11, 12, 13, 14, 15]
def kw1 : List UInt8 := [0, 1, 2, 3, 4, 5, 6, 7, 8, 9, 10, 11, 12, 13, 14, 15, 214, 170, 116, 253, 210, 175, 114, 250, 218, 166, 120, 241, 214, 171, 118, 254]
def kw2 : List UInt8 := [0, 1, 2, 3, 4, 5, 6, 7, 8, 9, 10, 11, 12, 13, 14, 15, 214, 170, 116, 253, 210, 175, 114, 250, 218, 166, 120, 241, 214, 171, 118, 254, 182, 146, 207, 11, 100, 61, 189, 241, 190, 155, 197, 0, 104, 48, 179, 254]
def kw3 : List UInt8 := [0, 1, 2, 3, 4, 5, 6, 7, 8, 9, 10, 11, 12, 13, 14, 15, 214, 170, 116, 253, 210, 175, 114, 250, 218, 166, 120, 241, 214, 171, 118, 254, 182, 146, 207, 11, 100, 61, 189, 241, 190, 155, 197, 0, 104, 48, 179, 254, 182, 255, 116, 78, 210, 194, 201, 191, 108, 89, 12, 191, 4, 105, 191, 65]
def kw4 : List UInt8 := [0, 1, 2, 3, 4, 5, 6, 7, 8, 9, 10, 11, 12, 13, 14, 15, 214, 170, 116, 253, 210, 175, 114, 250, 218, 166, 120, 241, 214, 171, 118, 254, 182, 146, 207, 11, 100, 61, 189, 241, 190, 155, 197, 0, 104, 48, 179, 254, 182, 255, 116, 78, 210, 194, 201, 191, 108, 89, 12, 191, 4, 105, 191, 65, 71, 247, 247, 188, 149, 53, 62, 3, 249, 108, 50, 188, 253, 5, 141, 253]
def kw5 : List UInt8 := [0, 1, 2, 3, 4, 5, 6, 7, 8, 9, 10, 11, 12, 13, 14, 15, 214, 170, 116, 253, 210, 175, 114, 250, 218, 166, 120, 241, 214, 171, 118, 254, 182, 146, 207, 11, 100, 61, 189, 241, 190, 155, 197, 0, 104, 48, 179, 254, 182, 255, 116, 78, 210, 194, 201, 191, 108, 89, 12, 191, 4, 105, 191, 65, 71, 247, 247, 188, 149, 53, 62, 3, 249, 108, 50, 188, 253, 5, 141, 253, 60, 170, 163, 232, 169, 159, 157, 235, 80, 243, 175, 87, 173, 246, 34, 170]
def kw6 : List UInt8 := [0, 1, 2, 3, 4, 5, 6, 7, 8, 9, 10, 11, 12, 13, 14, 15, 214, 170, 116, 253, 210, 175, 114, 250, 218, 166, 120, 241, 214, 171, 118, 254, 182, 146, 207, 11, 100, 61, 189, 241, 190, 155, 197, 0, 104, 48, 179, 254, 182, 255, 116, 78, 210, 194, 201, 191, 108, 89, 12, 191, 4, 105, 191, 65, 71, 247, 247, 188, 149, 53, 62, 3, 249, 108, 50, 188, 253, 5, 141, 253, 60, 170, 163, 232, 169, 159, 157, 235, 80, 243, 175, 87, 173, 246, 34, 170, 94, 57, 15, 125, 247, 166, 146, 150, 167, 85, 61, 193, 10, 163, 31, 107]
def kw7 : List UInt8 := [0, 1, 2, 3, 4, 5, 6, 7, 8, 9, 10, 11, 12, 13, 14, 15, 214, 170, 116, 253, 210, 175, 114, 250, 218, 166, 120, 241, 214, 171, 118, 254, 182, 146, 207, 11, 100, 61, 189, 241, 190, 155, 197, 0, 104, 48, 179, 254, 182, 255, 116, 78, 210, 194, 201, 191, 108, 89, 12, 191, 4, 105, 191, 65, 71, 247, 247, 188, 149, 53, 62, 3, 249, 108, 50, 188, 253, 5, 141, 253, 60, 170, 163, 232, 169, 159, 157, 235, 80, 243, 175, 87, 173, 246, 34, 170, 94, 57, 15, 125, 247, 166, 146, 150, 167, 85, 61, 193, 10, 163, 31, 107, 20, 249, 112, 26, 227, 95, 226, 140, 68, 10, 223, 77, 78, 169, 192, 38]
def kw8 : List UInt8 := [0, 1, 2, 3, 4, 5, 6, 7, 8, 9, 10, 11, 12, 13, 14, 15, 214, 170, 116, 253, 210, 175, 114, 250, 218, 166, 120, 241, 214, 171, 118, 254, 182, 146, 207, 11, 100, 61, 189, 241, 190, 155, 197, 0, 104, 48, 179, 254, 182, 255, 116, 78, 210, 194, 201, 191, 108, 89, 12, 191, 4, 105, 191, 65, 71, 247, 247, 188, 149, 53, 62, 3, 249, 108, 50, 188, 253, 5, 141, 253, 60, 170, 163, 232, 169, 159, 157, 235, 80, 243, 175, 87, 173, 246, 34, 170, 94, 57, 15, 125, 247, 166, 146, 150, 167, 85, 61, 193, 10, 163, 31, 107, 20, 249, 112, 26, 227, 95, 226, 140, 68, 10, 223, 77, 78, 169, 192, 38, 71, 67, 135, 53, 164, 28, 101, 185, 224, 22, 186, 244, 174, 191, 122, 210]
def kw9 : List UInt8 := [0, 1, 2, 3, 4, 5, 6, 7, 8, 9, 10, 11, 12, 13, 14, 15, 214, 170, 116, 253, 210, 175, 114, 250, 218, 166, 120, 241, 214, 171, 118, 254, 182, 146, 207, 11, 100, 61, 189, 241, 190, 155, 197, 0, 104, 48, 179, 254, 182, 255, 116, 78, 210, 194, 201, 191, 108, 89, 12, 191, 4, 105, 191, 65, 71, 247, 247, 188, 149, 53, 62, 3, 249, 108, 50, 188, 253, 5, 141, 253, 60, 170, 163, 232, 169, 159, 157, 235, 80, 243, 175, 87, 173, 246, 34, 170, 94, 57, 15, 125, 247, 166, 146, 150, 167, 85, 61, 193, 10, 163, 31, 107, 20, 249, 112, 26, 227, 95, 226, 140, 68, 10, 223, 77, 78, 169, 192, 38, 71, 67, 135, 53, 164, 28, 101, 185, 224, 22, 186, 244, 174, 191, 122, 210, 84, 153, 50, 209, 240, 133, 87, 104, 16, 147, 237, 156, 190, 44, 151, 78]
def kw10 : List UInt8 := [0, 1, 2, 3, 4, 5, 6, 7, 8, 9, 10, 11, 12, 13, 14, 15, 214, 170, 116, 253, 210, 175, 114, 250, 218, 166, 120, 241, 214, 171, 118, 254, 182, 146, 207, 11, 100, 61, 189, 241, 190, 155, 197, 0, 104, 48, 179, 254, 182, 255, 116, 78, 210, 194, 201, 191, 108, 89, 12, 191, 4, 105, 191, 65, 71, 247, 247, 188, 149, 53, 62, 3, 249, 108, 50, 188, 253, 5, 141, 253, 60, 170, 163, 232, 169, 159, 157, 235, 80, 243, 175, 87, 173, 246, 34, 170, 94, 57, 15, 125, 247, 166, 146, 150, 167, 85, 61, 193, 10, 163, 31, 107, 20, 249, 112, 26, 227, 95, 226, 140, 68, 10, 223, 77, 78, 169, 192, 38, 71, 67, 135, 53, 164, 28, 101, 185, 224, 22, 186, 244, 174, 191, 122, 210, 84, 153, 50, 209, 240, 133, 87, 104, 16, 147, 237, 156, 190, 44, 151, 78, 19, 17, 29, 127, 227, 148, 74, 23, 243, 7, 167, 139, 77, 43, 48, 197]
theorem kw0_s : klF kw0 16 16 = kw1 := by decide +kernel
theorem kw1_s : klF kw1 32 16 = kw2 := by decide +kernel
theorem kw2_s : klF kw2 48 16 = kw3 := by decide +kernel
theorem kw3_s : klF kw3 64 16 = kw4 := by decide +kernel
theorem kw4_s : klF kw4 80 16 = kw5 := by decide +kernel
theorem kw5_s : klF kw5 96 16 = kw6 := by decide +kernel
theorem kw6_s : klF kw6 112 16 = kw7 := by decide +kernel
theorem kw7_s : klF kw7 128 16 = kw8 := by decide +kernel
theorem kw8_s : klF kw8 144 16 = kw9 := by decide +kernel
theorem kw9_s : klF kw9 160 16 = kw10 := by decide +kernel
def sl0 : List UInt8 := [0, 16, 32, 48, 64, 80, 96, 112, 128, 144, 160, 176, 192, 208, 224, 240]
def su1 : List UInt8 := [99, 83, 224, 140, 9, 96, 225, 4, 205, 112, 183, 81, 186, 202, 208, 231]
theorem su1_s : tab 16 (subS fun i => sl0.getD i 0) = su1 := by decide +kernel
def sl1 : List UInt8 := [137, 216, 16, 232, 133, 90, 206, 104, 45, 24, 67, 216, 203, 18, 143, 228]
theorem sl1_s : tab 16 (fun i => (mixS fun i => su1.getD i 0) i ^^^ kw10.getD (16 * 1 + i) 0) = sl1 := by decide +kernel
def su2 : List UInt8 := [167, 190, 26, 105, 151, 173, 115, 155, 216, 201, 202, 69, 31, 97, 139, 97]
theorem su2_s : tab 16 (subS fun i => sl1.getD i 0) = su2 := by decide +kernel
def sl2 : List UInt8 := [73, 21, 89, 143, 85, 229, 215, 160, 218, 202, 148, 250, 31, 10, 99, 247]
theorem sl2_s : tab 16 (fun i => (mixS fun i => su2.getD i 0) i ^^^ kw10.getD (16 * 2 + i) 0) = sl2 := by decide +kernel
def su3 : List UInt8 := [59, 217, 34, 104, 252, 116, 251, 115, 87, 103, 203, 224, 192, 89, 14, 45]
theorem su3_s : tab 16 (subS fun i => sl2.getD i 0) = su3 := by decide +kernel
def sl3 : List UInt8 := [250, 99, 106, 40, 37, 179, 57, 201, 64, 102, 138, 49, 87, 36, 77, 23]
theorem sl3_s : tab 16 (fun i => (mixS fun i => su3.getD i 0) i ^^^ kw10.getD (16 * 3 + i) 0) = sl3 := by decide +kernel
def su4 : List UInt8 := [45, 109, 126, 240, 63, 51, 227, 52, 9, 54, 2, 221, 91, 251, 18, 199]
theorem su4_s : tab 16 (subS fun i => sl3.getD i 0) = su4 := by decide +kernel
def sl4 : List UInt8 := [36, 114, 64, 35, 105, 102, 179, 250, 110, 210, 117, 50, 136, 66, 91, 108]
theorem sl4_s : tab 16 (fun i => (mixS fun i => su4.getD i 0) i ^^^ kw10.getD (16 * 4 + i) 0) = sl4 := by decide +kernel
def su5 : List UInt8 := [54, 51, 157, 80, 249, 181, 57, 38, 159, 44, 9, 45, 196, 64, 109, 35]
theorem su5_s : tab 16 (subS fun i => sl4.getD i 0) = su5 := by decide +kernel
def sl5 : List UInt8 := [200, 22, 119, 188, 155, 122, 201, 59, 37, 2, 121, 146, 176, 38, 25, 150]
theorem sl5_s : tab 16 (fun i => (mixS fun i => su5.getD i 0) i ^^^ kw10.getD (16 * 5 + i) 0) = sl5 := by decide +kernel
def su6 : List UInt8 := [232, 218, 182, 144, 20, 119, 212, 101, 63, 247, 245, 226, 231, 71, 221, 79]
theorem su6_s : tab 16 (subS fun i => sl5.getD i 0) = su6 := by decide +kernel
def sl6 : List UInt8 := [198, 47, 225, 9, 247, 94, 237, 195, 204, 121, 57, 93, 132, 249, 207, 93]
theorem sl6_s : tab 16 (fun i => (mixS fun i => su6.getD i 0) i ^^^ kw10.getD (16 * 6 + i) 0) = sl6 := by decide +kernel
def su7 : List UInt8 := [180, 88, 18, 76, 104, 182, 138, 1, 75, 153, 248, 46, 95, 21, 85, 76]
theorem su7_s : tab 16 (subS fun i => sl6.getD i 0) = su7 := by decide +kernel
def sl7 : List UInt8 := [209, 135, 108, 15, 121, 196, 48, 10, 180, 85, 148, 173, 214, 111, 244, 31]
theorem sl7_s : tab 16 (fun i => (mixS fun i => su7.getD i 0) i ^^^ kw10.getD (16 * 7 + i) 0) = sl7 := by decide +kernel
def su8 : List UInt8 := [62, 28, 34, 192, 182, 252, 191, 118, 141, 168, 80, 103, 246, 23, 4, 149]
theorem su8_s : tab 16 (subS fun i => sl7.getD i 0) = su8 := by decide +kernel
def sl8 : List UInt8 := [253, 227, 186, 210, 5, 229, 208, 215, 53, 71, 150, 78, 241, 254, 55, 241]
theorem sl8_s : tab 16 (fun i => (mixS fun i => su8.getD i 0) i ^^^ kw10.getD (16 * 8 + i) 0) = sl8 := by decide +kernel
def su9 : List UInt8 := [84, 217, 144, 161, 107, 160, 154, 181, 150, 187, 244, 14, 161, 17, 112, 47]
theorem su9_s : tab 16 (subS fun i => sl8.getD i 0) = su9 := by decide +kernel
def sl9 : List UInt8 := [189, 110, 124, 61, 242, 181, 119, 158, 11, 97, 33, 110, 139, 16, 182, 137]
theorem sl9_s : tab 16 (fun i => (mixS fun i => su9.getD i 0) i ^^^ kw10.getD (16 * 9 + i) 0) = sl9 := by decide +kernel
def su10 : List UInt8 := [122, 213, 253, 167, 137, 239, 78, 39, 43, 202, 16, 11, 61, 159, 245, 159]
theorem su10_s : tab 16 (subS fun i => sl9.getD i 0) = su10 := by decide +kernel
def sl10 : List UInt8 := [105, 196, 224, 216, 106, 123, 4, 48, 216, 205, 183, 128, 112, 180, 197, 90]
theorem sl10_s : tab 16 (fun i => (fun i => su10.getD i 0) i ^^^ kw10.getD (16 * 10 + i) 0) = sl10 := by decide +kernel

theorem kw_all : kl kw0 160 = kw10 := by
  have h1 : kl kw0 16 = kw1 := by rw [show 16 = 0 + 16 by omega, ← kl_F kw0 0 16]; exact kw0_s
  have h2 : kl kw0 32 = kw2 := by rw [show 32 = 16 + 16 by omega, ← kl_F kw0 16 16, h1]; exact kw1_s
  have h3 : kl kw0 48 = kw3 := by rw [show 48 = 32 + 16 by omega, ← kl_F kw0 32 16, h2]; exact kw2_s
  have h4 : kl kw0 64 = kw4 := by rw [show 64 = 48 + 16 by omega, ← kl_F kw0 48 16, h3]; exact kw3_s
  have h5 : kl kw0 80 = kw5 := by rw [show 80 = 64 + 16 by omega, ← kl_F kw0 64 16, h4]; exact kw4_s
  have h6 : kl kw0 96 = kw6 := by rw [show 96 = 80 + 16 by omega, ← kl_F kw0 80 16, h5]; exact kw5_s
  have h7 : kl kw0 112 = kw7 := by rw [show 112 = 96 + 16 by omega, ← kl_F kw0 96 16, h6]; exact kw6_s
  have h8 : kl kw0 128 = kw8 := by rw [show 128 = 112 + 16 by omega, ← kl_F kw0 112 16, h7]; exact kw7_s
  have h9 : kl kw0 144 = kw9 := by rw [show 144 = 128 + 16 by omega, ← kl_F kw0 128 16, h8]; exact kw8_s
  have h10 : kl kw0 160 = kw10 := by rw [show 160 = 144 + 16 by omega, ← kl_F kw0 144 16, h9]; exact kw9_s
  exact h10
theorem kK_lit (n : Nat) : kK kw0 n = kw10.getD n 0 := by rw [kK, kw_all]
theorem subS_congr {s t : St16} (h : ∀ i, i < 16 → s i = t i) (i : Nat) : subS s i = subS t i := by
  rw [subS, subS, h _ (by omega)]
theorem mixS_congr {s t : St16} (h : ∀ i, i < 16 → s i = t i) (i : Nat) (hi : i < 16) : mixS s i = mixS t i := by
  have e : ∀ d, cl s i d = cl t i d := fun d => by rw [cl, cl, h _ (by omega)]
  rw [mixS, mixS, e, e, e, e, h i hi]
theorem of_tab {s : St16} {l : List UInt8} (h : tab 16 s = l) : ∀ i, i < 16 → s i = l.getD i 0 := fun i hi => by rw [← h, tab_getD hi]
theorem step_lit {S : St16} {r : Nat} {l u l' : List UInt8} (hr : r < 10) (h : tab 16 S = l) (h1 : tab 16 (subS fun i => l.getD i 0) = u)
    (h2 : tab 16 (fun i => (if r + 1 < 10 then mixS (fun i => u.getD i 0) else fun i => u.getD i 0) i ^^^ kw10.getD (16 * (r + 1) + i) 0) = l') : tab 16 (rnd kw0 (r + 1) S) = l' := by
  rw [← h2]; refine tab_congr fun i hi => ?_
  have hs : ∀ i, i < 16 → subS S i = u.getD i 0 := fun i hi => by rw [← of_tab h1 i hi]; exact subS_congr (of_tab h) i
  rw [rnd, addK, kK_lit]; congr 1
  by_cases c : r + 1 < 10
  · rw [if_pos c, if_pos c]; exact mixS_congr hs i hi
  · rw [if_neg c, if_neg c]; exact hs i hi
def blk0 : St16 := fun i => UInt8.ofNat (17 * i)
theorem known : ct kw0 blk0 = sl10 := by
  have h0 : tab 16 (rnds kw0 blk0 0) = sl0 := by
    rw [show tab 16 (rnds kw0 blk0 0) = tab 16 (fun i => blk0 i ^^^ kw10.getD (16 * 0 + i) 0) from tab_congr fun i _ => by rw [rnds, addK, kK_lit]]; decide +kernel
  have h1 : tab 16 (rnds kw0 blk0 1) = sl1 := step_lit (r := 0) (by decide) h0 su1_s sl1_s
  have h2 : tab 16 (rnds kw0 blk0 2) = sl2 := step_lit (r := 1) (by decide) h1 su2_s sl2_s
  have h3 : tab 16 (rnds kw0 blk0 3) = sl3 := step_lit (r := 2) (by decide) h2 su3_s sl3_s
  have h4 : tab 16 (rnds kw0 blk0 4) = sl4 := step_lit (r := 3) (by decide) h3 su4_s sl4_s
  have h5 : tab 16 (rnds kw0 blk0 5) = sl5 := step_lit (r := 4) (by decide) h4 su5_s sl5_s
  have h6 : tab 16 (rnds kw0 blk0 6) = sl6 := step_lit (r := 5) (by decide) h5 su6_s sl6_s
  have h7 : tab 16 (rnds kw0 blk0 7) = sl7 := step_lit (r := 6) (by decide) h6 su7_s sl7_s
  have h8 : tab 16 (rnds kw0 blk0 8) = sl8 := step_lit (r := 7) (by decide) h7 su8_s sl8_s
  have h9 : tab 16 (rnds kw0 blk0 9) = sl9 := step_lit (r := 8) (by decide) h8 su9_s sl9_s
  have h10 : tab 16 (rnds kw0 blk0 10) = sl10 := step_lit (r := 9) (by decide) h9 su10_s sl10_s
  exact h10
theorem known0 : ((ct kw0 blk0).getD 0 0 == 105) = true := by rw [known]; decide
theorem known1 : ((ct kw0 blk0).getD 1 0 == 196) = true := by rw [known]; decide
theorem known15 : ((ct kw0 blk0).getD 15 0 == 90) = true := by rw [known]; decide
end aes
end Go.Proofs.Ytpddnhjpjmbgfaa
