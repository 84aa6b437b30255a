import Derived.Test.YtjacnhnaoenelaaGreatRows
import Derived.Test.YtjacnhnaoenelaaGreatQJ0a
set_option maxHeartbeats 800000
namespace Go.Proofs.YtjacnhnaoenelaaGreat
open Go.Proofs.Tryz
open Go.RowKit
set_option linter.unusedVariables false
def Ints (w:World) (v:Value) (xs:List Int):Prop:=
 (xs = []/\∃ a cap,v = .slice a 0 cap)\/(0 < xs.length/\∃ b off cap,v = .slice (some ⟨b,off,none⟩) xs.length cap/\b < w.heap.size/\∀ i,i < xs.length->w.cell? ⟨b,off + i,none⟩ = some (.int .i64 (xs.getD i 0)))
theorem Ints.below {w w':World} {v:Value} {xs:List Int} {B:Nat} (h:Ints w v xs) (hb:Below B w w') (hB:w.heap.size <= B):Ints w' v xs:=by
 rcases h with h | ⟨hp,b,off,cap,rfl,hlt,hcell⟩
 ·exact Or.inl h
 ·exact Or.inr ⟨hp,b,off,cap,rfl,Nat.lt_of_lt_of_le hlt hb.size,fun i hi=>(hb.cell (p:=⟨b,off + i,none⟩) (show b < B by omega)).trans (hcell i hi)⟩
theorem Aas (v1 v2:Value) (xs:List Int) (hl:xs.length <= 9223372036854775807) (w:World) (h1:Ints w v1 xs) (h2:Ints w v2 xs) :
 Calls prog 44 #[v1,v2] w fun e w'=>e = .returned (.bool true)/\∃ n,w' = w.drewN n:=by
 obtain ⟨n,hn⟩:∃ n,n = xs.length:=⟨_,rfl⟩
 have hs1:∃ a cap,v1 = .slice a n cap/\∀ i,i < n->∃ b off,a = some ⟨b,off,none⟩/\w.cell? ⟨b,off + i,none⟩ = some (.int .i64 (xs.getD i 0)):=by
  rcases h1 with ⟨rfl,a,cap,rfl⟩ | ⟨hp,b,off,cap,rfl,_,hc⟩
  ·exact ⟨a,cap,by rw [hn];rfl,fun i hi=>by rw [hn] at hi;simp at hi⟩
  ·exact ⟨_,cap,by rw [hn],fun i hi=>⟨b,off,rfl,hc i (by omega)⟩⟩
 have hs2:∃ a cap,v2 = .slice a n cap/\∀ i,i < n->∃ b off,a = some ⟨b,off,none⟩/\w.cell? ⟨b,off + i,none⟩ = some (.int .i64 (xs.getD i 0)):=by
  rcases h2 with ⟨rfl,a,cap,rfl⟩ | ⟨hp,b,off,cap,rfl,_,hc⟩
  ·exact ⟨a,cap,by rw [hn];rfl,fun i hi=>by rw [hn] at hi;simp at hi⟩
  ·exact ⟨_,cap,by rw [hn],fun i hi=>⟨b,off,rfl,hc i (by omega)⟩⟩
 obtain ⟨a1,k1,rfl,hc1⟩:=hs1;obtain ⟨a2,k2,rfl,hc2⟩:=hs2;rw [<- hn] at hl;clear hn h1 h2;have HC1:=Lib.hid hc1;have HC2:=Lib.hid hc2;clear hc1 hc2;have hnn:((n:Int) != n) = false:=by simp
 go_enter func44,ntmps44;go_wp2
 go_loopw [5] (fun s wr=>∃ i:Nat,i <= n/\s = .int .i64 i/\(∀ a,wr.cell? a = w.cell? a)/\∃ k,wr = w.drewN k) (fun s _=>n - (intOf s).toNat)
 case atStart=>exact ⟨0,Nat.zero_le _,rfl,fun _=>rfl,0,rfl⟩
 case round=>
  obtain ⟨i,hi,rfl,hcw,k,hk⟩:=hrel;have HK:=Lib.hid hk;clear hk
  by_cases hlt:i < n
  ·obtain ⟨b1,o1,rfl,e1⟩:=HC1.out i hlt;obtain ⟨b2,o2,rfl,e2⟩:=HC2.out i hlt;rw [<- hcw] at e1 e2;clear hcw;obtain ⟨x,hx⟩:∃ x,x = xs.getD i 0:=⟨_,rfl⟩;rw [<- hx] at e1 e2;clear hx;have hxx:(x != x) = false:=by simp
   have hj1:(0:Int) <= (i:Int):=by omega
   have hj3:(i:Int) < n:=by omega
   go_wp2
   go_quiet (fail)
   go_wp2
   go_roundw
   case rel=>exact ⟨i + 1,hlt,by go_num,fun a=>by rw [HK.out];rfl,k + nq,by rw [HK.out,drewN_drewN]⟩
   case measure=>simp [intOf];omega
  ·obtain rfl:i = n:=by omega
   clear hcw;go_wp2;go_ret
   exact ⟨rfl,k,HK.out⟩
end Go.Proofs.YtjacnhnaoenelaaGreat
