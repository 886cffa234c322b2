/- A part of the proof. -/
import Derived.Test.YthhhbkkelnaekaaGreatDoorC2
import Derived.Lib.ItoaMem
import Derived.Lib.MapLaws
set_option linter.all false
set_option maxHeartbeats 8000000
set_option maxRecDepth 10000
namespace Go.Scarf
def Bal (a b:Str):Prop:=∀ r,Kp false (a++r)=b++Kp false r
def Inq (a:Str):Prop:=∀ r,Kp true (a++r)=a++Kp true r
theorem M6 {q:Bool} {c:UInt8} {r:Str} (h:¬(q=true∧c=92)):Kp q (c::r)=R_ q c (Kp (nq q c) r):=by
  cases r with
  | nil=>rw [Kp,Kp]
  | cons d r=>rw [Kp,if_neg h]
theorem Bal.nil:Bal [] []:=fun _=>rfl
theorem Bal.app {a b a' b':Str} (h:Bal a a') (k:Bal b b'):Bal (a++b) (a'++b'):=fun r=>by rw [List.append_assoc,h,k,List.append_assoc]
theorem Inq.nil:Inq []:=fun _=>rfl
theorem Inq.app {a b:Str} (h:Inq a) (k:Inq b):Inq (a++b):=fun r=>by rw [List.append_assoc,h,k,List.append_assoc]
theorem Bal.byte {c:UInt8} (h1:c≠34) (h2:c≠32) (h3:c≠10):Bal [c] [c]:=fun r=>by
  show Kp false (c::r)=c::Kp false r
  rw [M6 Ma,R_,nq,if_neg h1,if_pos (.inr ⟨h2,h3⟩)]
theorem Bal.bytes:∀ {a:Str},(∀ c∈a,c≠34∧c≠32∧c≠10)→Bal a a
  | [],_=>Bal.nil
  | c :: a, h => by
    have h1:=h c Ma
    exact (Bal.byte h1.1 h1.2.1 h1.2.2).app (Bal.bytes fun d hd=>h d (by simp [hd]))
theorem Inq.byte {c:UInt8} (h1:c≠34) (h2:c≠92):Inq [c]:=fun r=>by
  show Kp true (c::r)=c::Kp true r
  rw [M6 (fun h=>h2 h.2),R_,nq,if_neg h1,if_pos (.inl rfl)]
theorem Inq.bytes:∀ {a:Str},(∀ c∈a,c≠34∧c≠92)→Inq a
  | [],_=>Inq.nil
  | c :: a, h => by
    have h1:=h c Ma
    exact (Inq.byte h1.1 h1.2).app (Inq.bytes fun d hd=>h d (by simp [hd]))
theorem LB {r:Int} (h:128≤r):∀ x∈Lib.encodeRuneZ r,128≤x:=by
  intro x hx
  by_cases h1:r≤2047
  · rw [Lib.encodeRuneZ_two h h1] at hx; simp at hx; omega
  by_cases h2:(2048≤r∧r < 55296)∨(57343 < r∧r≤65535)
  · rw [Lib.encodeRuneZ_three h2] at hx; simp at hx; omega
  by_cases h3:65536≤r∧r≤1114111
  · rw [Lib.encodeRuneZ_four h3.1 h3.2] at hx; simp at hx; omega
  · rw [Lib.encodeRuneZ_bad U] at hx; simp at hx; omega
end Go.Scarf
namespace Go.Scarf
end Go.Scarf
namespace Go.Scarf
def nl (s:Str):Nat:=s.count 10
end Go.Scarf
namespace Go.Scarf
def Ei (b:UInt8):Str:=if b.toNat < 128 then Ft b.toNat else [b]
def Ls:Str→Str
  | []=>[]
  | b::s=>Ei b++Ls s
theorem C3:∀ a b:Str,Ls (a++b)=Ls a++Ls b
  | [],b=>rfl
  | x::a,b=>by rw [List.cons_append,Ls,Ls,C3 a b,List.append_assoc]
theorem YM (r:Int):Lib.encodeRune r=Ij r:=rfl
theorem C6:∀ {s:Str},(∀ c∈s,128≤c.toNat)→Ls s=s
  | [],_=>rfl
  | c :: s, h => by
    have h1:=h c Ma
    rw [Ls,Ei,if_neg U,C6 fun d hd=>h d (by simp [hd])]
    rfl
theorem ZM {r:Nat} (h:128≤r):Ft r=Ij r:=by
  have h0:¬Rg (r:Int)≠0:=by
    unfold Rg
    repeat' split
    all_goals first | omega | simp
  rw [Ft,if_neg h0,if_pos U]
theorem ME {r:Nat} (h:128≤r):∀ c∈Ij r,128≤c.toNat:=by
  intro c hc
  obtain ⟨x,hx,rfl⟩:=List.mem_map.1 hc
  have hb:=Lib.encodeRuneZ_byte _ x hx
  have:=LB (by omega:(128:Int)≤r) x hx
  simp only [UInt8.toNat_ofNat']
  omega
theorem DM (r:Nat):Ft r=Ls (Ij r):=by
  by_cases h:r < 128
  · have e:Ij (r:Int)=[UInt8.ofNat r]:=by
      rw [Ij,Lib.encodeRuneZ_one U U]
      simp
    have e2:(UInt8.ofNat r).toNat=r:=by simp only [UInt8.toNat_ofNat']; omega
    rw [e,Ls,Ls,Ei,e2,if_pos h,List.append_nil]
  · rw [ZM U,C6 (ME U)]
theorem GA (s:Str) (p:Nat):Lib.validD (s.drop p)=true→Ut s p=Ls (s.drop p):=by
  induction h:s.length - p using Nat.strongRecOn generalizing p with
  | ind n ih =>
    intro hv
    by_cases hp:p < s.length
    · have hne : s.drop p ≠ [] := by intro e; have := congrArg List.length e; simp at this; omega
      rw [Lib.validD_step _ hne] at hv
      split at hv
      · cases hv
      · rename_i hok
        have he:=Lib.encode_decode (s.drop p) hne hok
        rw [Zl] at he hv
        have h2:=Jg s p
        rw [List.drop_drop] at hv
        rw [Pp hp,ih (s.length - (p+(Utf8.decode (bs s) p).2)) U _ rfl hv,DM,←YM,he,←List.drop_drop,←C3,List.take_append_drop]
    · rw [Zy hp,List.drop_eq_nil_of_le U]; rfl
theorem O_ {s:Str} (h:Lib.validD s=true):Kv s=[34]++(Ls s++[34]):=by
  rw [Kv,GA s 0 (by simpa using h),List.drop_zero,List.append_assoc]
def C_:Str→Bool
  | [c]=>decide (c≠92) && decide (c≠34)
  | [a,c]=>decide (a=92) && decide (c≠117)
  | [a,c,_,_,_,_]=>decide (a=92) && decide (c=117)
  | _=>false
theorem VC:∀ n < 256,C_ (Ei (UInt8.ofNat n))=true:=by decide +kernel
theorem ND (b:UInt8):C_ (Ei b)=true:=by have:=VC b.toNat (UInt8.toNat_lt b); simpa using this
theorem YB {p:Str} (h:C_ p=true):(∃ c,p=[c]∧c≠92∧c≠34)∨(∃ c,p=[92,c]∧c≠117)∨(∃ a b c d,p=[92,117,a,b,c,d]):=by
  unfold C_ at h
  split at h <;> simp_all
def Ends (r:Str):Prop:=∀ c s,r=c::s→c=44∨c=93∨c=125
theorem Ends.nil:Ends []:=fun c s h=>by cases h
theorem Rz {k:Int} {t:Str} {ks:List Str} {xs:List Tree} (h:rnodeB (.node k t ks xs)=true) :
    (k=1∧t=[]∧ks=[]∧xs=[])∨(k=2∧(t=[116,114,117,101]∨t=[102,97,108,115,101])∧ks=[]∧xs=[])∨(k=3∧Aj t=true∧ks=[]∧xs=[]) ∨
    (k=4∧Lib.validD t=true∧ks=[]∧xs=[])∨(k=5∧t=[]∧ks=[])∨(k=6∧t=[]∧ks.Nodup∧(∀ x∈ks,Lib.validD x=true)∧ks.length=xs.length):=by
  unfold rnodeB at h
  rw [Bool.and_eq_true,decide_eq_true_eq] at h
  obtain ⟨h7,h⟩:=h
  have h7':k≠7:=h7
  simp only [nodeB] at h
  by_cases h5:k=5
  · rw [if_pos h5] at h
    simp at h
    exact .inr (.inr (.inr (.inr (.inl ⟨h5,h.2,h.1⟩))))
  rw [if_neg h5] at h
  by_cases h6:k=6
  · rw [if_pos h6] at h
    simp [Tm] at h
    exact .inr (.inr (.inr (.inr (.inr ⟨h6,h.2,h.1.1.1,h.1.1.2,by omega⟩))))
  rw [if_neg h6] at h
  by_cases hh:ks≠[]∨xs≠[]
  · rw [if_pos hh] at h; cases h
  rw [if_neg hh] at h
  have hk:ks=[]:=Classical.byContradiction fun hc=>hh (.inl hc)
  have hx:xs=[]:=Classical.byContradiction fun hc=>hh (.inr hc)
  by_cases h1:k=1
  · rw [if_pos h1] at h
    simp at h
    exact .inl ⟨h1,h,hk,hx⟩
  rw [if_neg h1] at h
  by_cases h2:k=2
  · rw [if_pos h2] at h
    simp at h
    exact .inr (.inl ⟨h2,h,hk,hx⟩)
  rw [if_neg h2] at h
  by_cases h3:k=3
  · rw [if_pos h3] at h
    exact .inr (.inr (.inl ⟨h3,h,hk,hx⟩))
  rw [if_neg h3] at h
  by_cases h4:k=4
  · rw [if_pos h4] at h
    exact .inr (.inr (.inr (.inl ⟨h4,h,hk,hx⟩)))
  rw [if_neg h4,if_neg h7'] at h
  cases h
end Go.Scarf
