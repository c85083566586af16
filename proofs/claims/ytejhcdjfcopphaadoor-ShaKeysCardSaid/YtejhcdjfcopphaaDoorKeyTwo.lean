/- Each byte: one of a kind has another sum than two. -/
import Derived.Test.YtejhcdjfcopphaaDoorKeyT0
import Derived.Test.YtejhcdjfcopphaaDoorKeyT1
import Derived.Test.YtejhcdjfcopphaaDoorKeyT2
import Derived.Test.YtejhcdjfcopphaaDoorKeyT3
import Derived.Test.YtejhcdjfcopphaaDoorKeyT4
import Derived.Test.YtejhcdjfcopphaaDoorKeyT5
import Derived.Test.YtejhcdjfcopphaaDoorKeyT6
import Derived.Test.YtejhcdjfcopphaaDoorKeyT7
namespace Go.Sx
theorem two_nat (n : Nat) (h : n < 256) : shaP [(n : Int)] ≠ shaP [(n : Int), (n : Int)] := by
  by_cases h0 : n < 8
  · have := two0_0 (n - 0) (by omega)
    rwa [show 0 + (n - 0) = n by omega] at this
  by_cases h8 : n < 16
  · have := two0_1 (n - 8) (by omega)
    rwa [show 8 + (n - 8) = n by omega] at this
  by_cases h16 : n < 24
  · have := two0_2 (n - 16) (by omega)
    rwa [show 16 + (n - 16) = n by omega] at this
  by_cases h24 : n < 32
  · have := two0_3 (n - 24) (by omega)
    rwa [show 24 + (n - 24) = n by omega] at this
  by_cases h32 : n < 40
  · have := two1_0 (n - 32) (by omega)
    rwa [show 32 + (n - 32) = n by omega] at this
  by_cases h40 : n < 48
  · have := two1_1 (n - 40) (by omega)
    rwa [show 40 + (n - 40) = n by omega] at this
  by_cases h48 : n < 56
  · have := two1_2 (n - 48) (by omega)
    rwa [show 48 + (n - 48) = n by omega] at this
  by_cases h56 : n < 64
  · have := two1_3 (n - 56) (by omega)
    rwa [show 56 + (n - 56) = n by omega] at this
  by_cases h64 : n < 72
  · have := two2_0 (n - 64) (by omega)
    rwa [show 64 + (n - 64) = n by omega] at this
  by_cases h72 : n < 80
  · have := two2_1 (n - 72) (by omega)
    rwa [show 72 + (n - 72) = n by omega] at this
  by_cases h80 : n < 88
  · have := two2_2 (n - 80) (by omega)
    rwa [show 80 + (n - 80) = n by omega] at this
  by_cases h88 : n < 96
  · have := two2_3 (n - 88) (by omega)
    rwa [show 88 + (n - 88) = n by omega] at this
  by_cases h96 : n < 104
  · have := two3_0 (n - 96) (by omega)
    rwa [show 96 + (n - 96) = n by omega] at this
  by_cases h104 : n < 112
  · have := two3_1 (n - 104) (by omega)
    rwa [show 104 + (n - 104) = n by omega] at this
  by_cases h112 : n < 120
  · have := two3_2 (n - 112) (by omega)
    rwa [show 112 + (n - 112) = n by omega] at this
  by_cases h120 : n < 128
  · have := two3_3 (n - 120) (by omega)
    rwa [show 120 + (n - 120) = n by omega] at this
  by_cases h128 : n < 136
  · have := two4_0 (n - 128) (by omega)
    rwa [show 128 + (n - 128) = n by omega] at this
  by_cases h136 : n < 144
  · have := two4_1 (n - 136) (by omega)
    rwa [show 136 + (n - 136) = n by omega] at this
  by_cases h144 : n < 152
  · have := two4_2 (n - 144) (by omega)
    rwa [show 144 + (n - 144) = n by omega] at this
  by_cases h152 : n < 160
  · have := two4_3 (n - 152) (by omega)
    rwa [show 152 + (n - 152) = n by omega] at this
  by_cases h160 : n < 168
  · have := two5_0 (n - 160) (by omega)
    rwa [show 160 + (n - 160) = n by omega] at this
  by_cases h168 : n < 176
  · have := two5_1 (n - 168) (by omega)
    rwa [show 168 + (n - 168) = n by omega] at this
  by_cases h176 : n < 184
  · have := two5_2 (n - 176) (by omega)
    rwa [show 176 + (n - 176) = n by omega] at this
  by_cases h184 : n < 192
  · have := two5_3 (n - 184) (by omega)
    rwa [show 184 + (n - 184) = n by omega] at this
  by_cases h192 : n < 200
  · have := two6_0 (n - 192) (by omega)
    rwa [show 192 + (n - 192) = n by omega] at this
  by_cases h200 : n < 208
  · have := two6_1 (n - 200) (by omega)
    rwa [show 200 + (n - 200) = n by omega] at this
  by_cases h208 : n < 216
  · have := two6_2 (n - 208) (by omega)
    rwa [show 208 + (n - 208) = n by omega] at this
  by_cases h216 : n < 224
  · have := two6_3 (n - 216) (by omega)
    rwa [show 216 + (n - 216) = n by omega] at this
  by_cases h224 : n < 232
  · have := two7_0 (n - 224) (by omega)
    rwa [show 224 + (n - 224) = n by omega] at this
  by_cases h232 : n < 240
  · have := two7_1 (n - 232) (by omega)
    rwa [show 232 + (n - 232) = n by omega] at this
  by_cases h240 : n < 248
  · have := two7_2 (n - 240) (by omega)
    rwa [show 240 + (n - 240) = n by omega] at this
  by_cases h248 : n < 256
  · have := two7_3 (n - 248) (by omega)
    rwa [show 248 + (n - 248) = n by omega] at this
  omega
theorem two_all (c : Int) (h0 : 0 ≤ c) (h1 : c < 256) : shaP [c] ≠ shaP [c, c] := by
  obtain ⟨n, rfl⟩ := Int.eq_ofNat_of_zero_le h0
  exact two_nat n (by omega)
end Go.Sx
