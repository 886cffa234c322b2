/- A part of the proof. -/
import Derived.Lib.ItoaNum
import Derived.Lib.Small
import Derived.Lib.ItoaLen
import Derived.Lib.Bytealg
import Derived.Lib.TrimByte
import Derived.Lib.Strings
import Derived.Laws.RangeAny
import Derived.Laws.RangeString
import Derived.Test.YthhhbkkelnaekaaGreatDoorMem
set_option linter.all false
set_option maxHeartbeats 8000000
set_option maxRecDepth 10000
namespace Go.Scarf
structure Num where
  neg:Bool
  digits:Str
  exp:Int
deriving DecidableEq
def Num.zero:Num:=⟨false,[],0⟩
def Kn (x:Num):Value:=.agg #[.bool x.neg,.string (bs x.digits),.int .i64 x.exp]
def Ze (c:UInt8):Bool:=48≤c.toNat && c.toNat≤57
def Gi (s:Str):Bool:=s.all Ze && decide (s≠[])
theorem Tv (s:Str) (p:Nat) (h:p < s.length) :
    (¬((Utf8.decode (bs s) p).1:Int) < 48∧¬(57:Int) < (Utf8.decode (bs s) p).1→Ze s[p]=true∧(Utf8.decode (bs s) p).2=1) ∧
    (((Utf8.decode (bs s) p).1:Int) < 48∨(57:Int) < (Utf8.decode (bs s) p).1→Ze s[p]=false):=by
  have hs:p < (bs s).size:=h
  by_cases ha:(s[p]).toNat < 128
  · have hd := decode_ascii (bs s) p hs ha
    have e:((bs s)[p]'hs)=s[p]:=rfl
    rw [e] at hd
    rw [hd]
    unfold Ze
    constructor
    · rintro ⟨h1, h2⟩
      simp only [Bool.and_eq_true,decide_eq_true_eq]
      exact ⟨⟨by omega,by omega⟩,trivial⟩
    · intro h1
      simp only [Bool.and_eq_false_iff,decide_eq_false_iff_not]
      simp only at h1
      omega
  · have hd := decode_high (bs s) p hs (by show 128 ≤ (s[p]).toNat; omega)
    constructor
    · rintro ⟨h1, h2⟩
      omega
    · intro _
      unfold Ze
      simp only [Bool.and_eq_false_iff,decide_eq_false_iff_not]
      omega
theorem Hv {f:UInt8→Bool} {s:Str} {p:Nat} (h:p < s.length) (ha:(s.take p).all f=true) (hp:f s[p]=true):(s.take (p+1)).all f=true:=by
  rw [List.take_succ_eq_append_getElem h,List.all_append,ha]; simp [hp]
theorem Ew {f:UInt8→Bool} {s:Str} {p:Nat} (h:p < s.length) (hp:f s[p]=false):s.all f=false:=by
  rw [Bool.eq_false_iff]; intro ha
  have:=List.all_eq_true.1 ha s[p] (List.getElem_mem h)
  rw [hp] at this; cases this
def Zd (x:Num):Bool :=
  decide (x=Num.zero) || (Gi x.digits && decide (x.digits.length≤1000) && decide (x.digits.head?≠some 48) && decide (x.digits.getLast?≠some 48) && decide (-1000000≤x.exp) && decide (x.exp≤1000000))
def Km (x:Num):Str :=
  if Zd x=false then [] else if x.digits=[] then [48] else
  (if x.neg then 45::x.digits else x.digits)++(if x.exp≠0 then 101::Lib.itoa x.exp else [])
def Wa (at_:Str):Str→Str × Str × Bool
  | []=>([],[],false)
  | c::r=>if at_.contains c then ([],r,true) else let x:=Wa at_ r; (c::x.1,x.2.1,x.2.2)
structure Lit where
  neg:Bool
  low:Bool
  whole:Str
  rest:Str
  exp:Str
deriving DecidableEq
def Rq (x:Lit):Value:=.agg #[.bool x.neg,.bool x.low,.string (bs x.whole),.string (bs x.rest),.string (bs x.exp)]
def Bf (neg low:Bool) (f e:Str):Lit × Bool :=
  let d:=Wa [46] f
  (⟨neg,low,d.1,d.2.1,e⟩,Gi d.1 && (!d.2.2 || Gi d.2.1) && (decide (d.1=[48]) || decide (d.1.head?≠some 48)))
def Zb (s:Str):Lit × Bool :=
  let neg:=Lib.hasPrefix s [45]
  let c:=Wa [101,69] (Lib.trimPrefix s [45])
  if c.2.2 then
    let low:=Lib.hasPrefix c.2.1 [45]
    let e:=if low then Lib.trimPrefix c.2.1 [45] else Lib.trimPrefix (Lib.trimPrefix c.2.1 [45]) [43]
    if Gi e then Bf neg low c.1 e else (⟨neg,low,[],[],[]⟩,false)
  else Bf neg false c.1 c.2.1
def Sd (s:Str):Int:=s.foldl (fun a c=>10 * a+((c.toNat:Int) - 48)) 0
def Se (s:Str):Num × Int :=
  let r:=Zb s
  let x:=r.1
  let exp:=Lib.trimLeftB x.exp 48
  if r.2=false then (Num.zero,2) else
  if 1000 < x.whole.length+x.rest.length then (Num.zero,3) else
  if 9 < exp.length then (Num.zero,4) else
  let e:=if x.low then - Sd exp else Sd exp
  let d:=Lib.trimLeftB (x.whole++x.rest) 48
  if d=[] then (Num.zero,0) else
  let short:=Lib.trimRightB d 48
  let n:Num:=⟨x.neg,short,e - x.rest.length+d.length - short.length⟩
  if Zd n=false then (Num.zero,4) else (n,0)
theorem JC (s:Str) (c:UInt8):Sd (s++[c])=10 * Sd s+((c.toNat:Int) - 48):=by simp [Sd]
theorem Zn (s:Str) (q:Nat) (h:q < s.length):Sd (s.take (q+1))=10 * Sd (s.take q)+((s[q].toNat:Int) - 48):=by
  rw [List.take_succ_eq_append_getElem h,JC]
theorem Lw (s:Str) (ha:s.all Ze=true):0≤Sd s∧Sd s < 10 ^ s.length:=by
  have key:∀ q,q≤s.length→0≤Sd (s.take q)∧Sd (s.take q) < 10 ^ q:=by
    intro q
    induction q with
    | zero=>intro _; simp [Sd]
    | succ q ih =>
      intro hq
      obtain ⟨h1,h2⟩:=ih U
      have hc:=List.all_eq_true.1 ha s[q] (List.getElem_mem U)
      unfold Ze at hc
      simp only [Bool.and_eq_true,decide_eq_true_eq] at hc
      rw [Zn s q U,Int.pow_succ]
      omega
  have:=key s.length (Nat.le_refl _)
  rwa [List.take_length] at this
theorem Ku (s:Str) (ha:s.all Ze=true) (hl:s.length≤9):0≤Sd s∧Sd s < 1000000000:=by
  obtain ⟨h1,h2⟩:=Lw s ha
  refine ⟨h1,?_⟩
  have h3:(10:Int) ^ s.length≤10 ^ 9:=by
    have:=Nat.pow_le_pow_right (n:=10) U hl
    have h4:((10 ^ s.length:Nat):Int)≤((10 ^ 9:Nat):Int):=by omega
    simpa using h4
  have:(10:Int) ^ 9=1000000000:=by decide
  omega
theorem W8 (s:Str) (p:Nat) (h:p < s.length) (hd:Ze s[p]=true):Utf8.decode (bs s) p=(s[p].toNat,1):=by
  have hs:p < (bs s).size:=h
  have:=decode_ascii (bs s) p hs (by
    show (s[p]).toNat < 128
    unfold Ze at hd; simp only [Bool.and_eq_true,decide_eq_true_eq] at hd; omega)
  exact this
theorem Lt {s:Str} (h:Gi s=true):s.all Ze=true:=by unfold Gi at h; simp only [Bool.and_eq_true] at h; exact h.1
theorem Eh {s:Str} (h:Gi s=true):s≠[]:=by unfold Gi at h; simp only [Bool.and_eq_true,decide_eq_true_eq] at h; exact h.2
theorem Cq (at_:Str):∀ s:Str,(Wa at_ s).2.2=false→(Wa at_ s).2.1=[]
  | [],_=>rfl
  | c :: r, h => by
    unfold Wa at h ⊢
    split at h
    · cases h
    · rename_i hc
      rw [if_neg hc]
      exact Cq at_ r h
theorem SK {s:Str} (h:(Zb s).2=true):(Zb s).1.exp.all Ze=true:=by
  by_cases hc:(Wa [101,69] (Lib.trimPrefix s [45])).2.2=true
  · have e1:Zb s=(let c:=Wa [101,69] (Lib.trimPrefix s [45])
        let low:=Lib.hasPrefix c.2.1 [45]
        let e:=if low then Lib.trimPrefix c.2.1 [45] else Lib.trimPrefix (Lib.trimPrefix c.2.1 [45]) [43]
        if Gi e then Bf (Lib.hasPrefix s [45]) low c.1 e else (⟨Lib.hasPrefix s [45],low,[],[],[]⟩,false)):=by
      unfold Zb; simp only; rw [if_pos hc]
    rw [e1] at h ⊢
    simp only at h ⊢
    generalize (if Lib.hasPrefix (Wa [101,69] (Lib.trimPrefix s [45])).2.1 [45]=true then Lib.trimPrefix (Wa [101,69] (Lib.trimPrefix s [45])).2.1 [45] else Lib.trimPrefix (Lib.trimPrefix (Wa [101,69] (Lib.trimPrefix s [45])).2.1 [45]) [43])=e at h ⊢
    by_cases hd:Gi e=true
    · rw [if_pos hd]; exact Lt hd
    · rw [if_neg hd] at h; cases h
  · have e1:Zb s=Bf (Lib.hasPrefix s [45]) false (Wa [101,69] (Lib.trimPrefix s [45])).1 (Wa [101,69] (Lib.trimPrefix s [45])).2.1:=by
      unfold Zb; simp only; rw [if_neg hc]
    rw [e1]
    have:=Cq [101,69] (Lib.trimPrefix s [45]) (by simpa using hc)
    simp [Bf,this]
theorem Xu {f g:UInt8→Bool}:∀ {s:Str},s.all f=true→(s.dropWhile g).all f=true
  | [],_=>rfl
  | c :: s, h => by
    rw [List.dropWhile_cons]
    split
    · simp only [List.all_cons, Bool.and_eq_true] at h
      exact Xu h.2
    · exact h
theorem Hg (at_:Str):∀ s:Str,(Wa at_ s).1.length≤s.length∧(Wa at_ s).2.1.length≤s.length
  | []=>by simp [Wa]
  | c :: r => by
    have:=Hg at_ r
    unfold Wa
    split
    · simp
    · simp; omega
theorem Zh (s p:Str):(Lib.trimPrefix s p).length≤s.length:=by
  unfold Lib.trimPrefix; split <;> simp
theorem Fv (s:Str) (c:UInt8):(Lib.trimLeftB s c).length≤s.length:=by unfold Lib.trimLeftB; exact (List.dropWhile_sublist _).length_le
theorem G2 (s:Str) (c:UInt8):(Lib.trimRightB s c).length≤s.length:=by
  unfold Lib.trimRightB; rw [List.length_reverse]; have:=(List.dropWhile_sublist (fun x=>x == c) (l:=s.reverse)).length_le; simpa using this
theorem head?_get {s:Str} (h:0 < s.length):s.head? = some s[0]:=by cases s <;> simp at h ⊢
theorem getLast?_get {s:Str} (h:s.length - 1 < s.length):s.getLast? = some s[s.length - 1]:=by
  rw [List.getLast?_eq_getElem?]; simp [h]
theorem YH {a:UInt8} {n:Nat} (hn:n < 256):((a.toNat:Int)=(n:Int))↔a=UInt8.ofNat n:=by
  constructor
  · intro h
    have h':a.toNat=n:=by omega
    rw [←h']; simp
  · intro h
    subst h
    simp; omega
theorem Pt {a:UInt8}:((a.toNat:Int)=48)↔a=48:=YH (n:=48) U
theorem Oi {s:Str} (h:0 < s.length):(((s[0]'h).toNat:Int)=48)↔s.head? = some 48:=by
  rw [head?_get h,Pt]; simp
theorem Nz {x:Num} (h:x=Num.zero):Zd x=true:=by subst h; rfl
theorem G0 {x:Num} (h0:¬x=Num.zero) (h:(!Gi x.digits)=true):Zd x=false:=by
  simp at h; simp [Zd,h0,h]
theorem Sz {x:Num} (h0:¬x=Num.zero) (h:(1000:Int) < x.digits.length):Zd x=false:=by
  have:¬x.digits.length≤1000:=by omega
  simp [Zd,h0,this]
theorem Qz {x:Num} (h0:¬x=Num.zero) (hl:0 < x.digits.length) (h:((x.digits[0]'hl).toNat:Int)=48):Zd x=false:=by
  have:x.digits.head? = some 48:=by rw [head?_get hl,Pt.1 h]
  simp [Zd,h0,this]
theorem O0 {x:Num} (h0:¬x=Num.zero) (hl:x.digits.length - 1 < x.digits.length) (h:((x.digits[x.digits.length - 1]'hl).toNat:Int)=48):Zd x=false:=by
  have:x.digits.getLast? = some 48:=by rw [getLast?_get hl,Pt.1 h]
  simp [Zd,h0,this]
theorem Mp {x:Num} (h0:¬x=Num.zero) (h:(!Gi x.digits)=false) (h1:¬(1000:Int) < x.digits.length) (hl:0 < x.digits.length) (h2:¬((x.digits[0]'hl).toNat:Int)=48)
    (hl':x.digits.length - 1 < x.digits.length) (h3:¬((x.digits[x.digits.length - 1]'hl').toNat:Int)=48):Zd x=(decide (-1000000≤x.exp) && decide (x.exp≤1000000)):=by
  have a1:x.digits.length≤1000:=by omega
  have a2:¬x.digits.head? = some 48:=by rw [head?_get hl]; intro e; exact h2 (Pt.2 (by injection e))
  have a3:¬x.digits.getLast? = some 48:=by rw [getLast?_get hl']; intro e; exact h3 (Pt.2 (by injection e))
  simp at h
  simp [Zd,h0,h,a1,a2,a3]
theorem Pd {x:Num} (h:Zd x=true):x.digits.length≤1000∧-1000000≤x.exp∧x.exp≤1000000:=by
  unfold Zd at h
  simp only [Bool.or_eq_true,Bool.and_eq_true,decide_eq_true_eq] at h
  rcases h with rfl | h
  · decide
  · omega
theorem Ow {at_ s:Str} {q:Nat} (h:q < s.length) (hno:∀ c∈s.take q,at_.contains c=false) (hq:at_.contains s[q]=false):∀ c∈s.take (q+1),at_.contains c=false:=by
  rw [List.take_succ_eq_append_getElem h]
  intro c hc
  rcases List.mem_append.1 hc with hc | hc
  · exact hno c hc
  · simp only [List.mem_singleton] at hc; rw [hc]; exact hq
theorem Cv (s:Str) (c:UInt8):(0≤Lib.indexByte s c)↔s.contains c=true:=by
  induction s with
  | nil=>simp [Lib.indexByte]
  | cons a s ih =>
    unfold Lib.indexByte
    by_cases h:a=c
    · simp [h]
    · have h' : ¬ c = a := fun e => h e.symm
      simp only [List.contains_cons,beq_iff_eq,Bool.or_eq_true,h',false_or,←ih]
      have hb:(a == c)=false:=by simp [h]
      simp [hb,h]
      split <;> omega
theorem F5 {at_:Str} {c:UInt8} (h:¬(0:Int)≤Lib.indexByte at_ c):at_.contains c=false:=by
  rw [Bool.eq_false_iff]; intro hh; exact h ((Cv _ _).2 hh)
theorem Gy {at_:Str} {c:UInt8} (h:(0:Int)≤Lib.indexByte at_ c):at_.contains c=true:=(Cv _ _).1 h
theorem Vy {at_:Str}:∀ {s:Str},(∀ c∈s,at_.contains c=false)→Wa at_ s=(s,[],false)
  | [],_=>rfl
  | c :: r, h => by
    unfold Wa
    rw [if_neg (by rw [h c Ma]; simp),Vy (fun c hc=>h c (by simp [hc]))]
theorem Ez {at_:Str}:∀ {s:Str} {q:Nat} (h:q < s.length),(∀ c∈s.take q,at_.contains c=false)→at_.contains s[q]=true→Wa at_ s=(s.take q,s.drop (q+1),true)
  | [],_,h,_,_=>absurd h Ma
  | c :: r, 0, _, _, hc => by
    unfold Wa
    rw [if_pos (by simpa using hc)]
    simp
  | c :: r, q + 1, h, hno, hc => by
    unfold Wa
    rw [if_neg (by rw [hno c Ma]; simp),Ez (q:=q) (by simpa using h) (fun d hd=>hno d (by simp [hd])) (by simpa using hc)]
    simp
end Go.Scarf
