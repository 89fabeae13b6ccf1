/- LawParseLits, part 6: whatever the input, the law comes out true: our texts, joined by a tool, without what the claim does not name. -/
import Derived.Test.YthpplbkobokghaaPkParseLits5
import Derived.Below
import Derived.Test.YthpplbkobokghaaRows
import Derived.WalkKit
import Derived.ProofKit
import Derived.OpenShut
import Derived.ShutString
import Derived.ChangeOld
import Derived.SizedLaws
set_option maxRecDepth 100000
set_option linter.unusedVariables false
set_option linter.unusedSimpArgs false
set_option maxRecDepth 100000
set_option linter.unusedVariables false
set_option linter.unusedSimpArgs false
namespace Go.Proofs.Ythpplbkobokghaa.Am
open Go
def nlF (s : LN) (e : Nat) : Nat → Nat → Nat
 | 0,_=>0
 | d+1,i=>if e≤i then 0 else (match s.drop i with | c::_=>if c=10 then 1 else 0 | []=>0)+nlF s e d (i+1)
def gapN (s:LN) (l:List (Nat×Nat×Nat)) (k:Nat):Nat:=match l.drop (k - 1) with | x::y::_=>nlF s y.2.1 (y.2.1 - (x.2.1+x.2.2)) (x.2.1+x.2.2) | _=>0
def gapI (s:LN) (l:List (Nat×Nat×Nat)) (k:Int):Nat:=if 1≤k∧k < l.length then gapN s l k.toNat else 0
theorem qIs {s : LN} : ∀ {l : List (Nat × Nat × Nat)} {a i : Nat} {x y : Nat × Nat × Nat} {r : List (Nat × Nat × Nat)}, Toks s a l → l.drop i = x :: y :: r → x.2.1 + x.2.2 ≤ y.2.1
 | [],a,i,x,y,r,h,hd=>by simp at hd
 | z::l,a,0,x,y,r,h,hd=>by
  rw [List.drop_zero] at hd
  obtain ⟨rfl,rfl⟩:=List.cons.inj hd
  simp only [Toks] at h
  omega
 | z::l,a,i+1,x,y,r,h,hd=>by
  rw [List.drop_succ_cons] at hd
  simp only [Toks] at h
  exact qIs h.2.2.2.2 hd
theorem qC6 {α β:Type} {f:α→β} {l:List α} {i:Nat} {x:α} {r:List α} (h:l.drop i=x::r):nthL (l.map f) (i:Int)=some (f x):=by
 refine qIc (r:=r.map f) ?_
 rw [← List.map_drop,h]; rfl
theorem pair_at {l:List (Nat×Nat×Nat)} {k:Nat} (g:1≤k) (a:k < l.length):∃ x y r,l.drop (k - 1)=x::y::r∧l.drop k=y::r∧x ∈ l∧y ∈ l:=by
 obtain ⟨x,r,b,hr,hxm,-⟩:=dconsL (s:=l) (i:=k - 1) (by omega)
 obtain ⟨y,c,hy,-,hym,-⟩:=dconsL (s:=l) (i:=k) a
 rw [show k - 1+1=k by omega,hy] at hr
 exact ⟨x,y,c,by rw [b,← hr],hy,hxm,hym⟩
theorem tok_end {s:LN} {x:Nat×Nat×Nat} (h:x.2.1+x.2.2≤s.length):(mkTok s x).f2+((mkTok s x).f1.length:Int)=((x.2.1+x.2.2:Nat):Int):=by
 have:((s.drop x.2.1).take x.2.2).length=x.2.2:=by rw [List.length_take,List.length_drop]; omega
 show (x.2.1:Int)+(((s.drop x.2.1).take x.2.2).length:Int)=_
 rw [this]; push_cast; rfl
theorem ends_l (k : Nat) {s : LN} (hl : s.length ≤ 2000) {L : List S33} {kk : Int} {y : Nat × Nat × Nat} (hk : nthL L kk = some (mkTok s y)) (hy : y.2.1 ≤ s.length) : ∀ (d f i c : Nat), i + d = y.2.1 → d < f → c ≤ i →
 qHd k s L kk f (i:Int) (c:Int)=some ((c+nlF s y.2.1 d i:Nat):Int)
 | 0,f,i,c,h,hf,hc=>by
  obtain ⟨f,rfl⟩:∃ g,f=g+1:=⟨f - 1,by omega⟩
  rw [qN8]
  refine bS (by (try simp (disch:=omega) only [fwI]); exact hk) ?_
  refine iF (dF (show ¬ (i:Int) < (y.2.1:Int) by omega)) ?_
  rfl
 | d+1,f,i,c,h,hf,hc=>by
  obtain ⟨f,rfl⟩:∃ g,f=g+1:=⟨f - 1,by omega⟩
  rw [qN8]
  refine bS (by (try simp (disch:=omega) only [fwI]); exact hk) ?_
  obtain ⟨b,r,j,-,-,-⟩:=dcons (s:=s) (i:=i) (by omega)
  have nb:=nthX (x:=(i:Int)) rfl j
  refine iT (dT (show (i:Int) < (y.2.1:Int) by omega)) ?_
  refine bS (by (try simp (disch:=omega) only [fwI]); exact nb) ?_
  have gc:i2 k (b:Int) (c:Int)=some ((c+(if b=10 then 1 else 0):Nat):Int):=by
   unfold i2
   by_cases a:b=10
   ·rw [if_pos a]
    refine iT (dT (by omega)) ?_
    rw [fw_s (by omega)]
   ·rw [if_neg a]
    exact iF (dF (by omega)) rfl
  refine bS (by (try simp (disch:=omega) only [fwI]); exact gc) ?_
  simp only [nlF]
  rw [if_neg (show ¬ y.2.1≤i by omega),j,fw_s (n:=i) (by omega)]
  simp only []
  clear gc
  have hle:(if b=10 then 1 else 0)≤1:=by split <;> omega
  generalize (if b=10 then 1 else 0)=z at *
  have ih:=ends_l k hl hk hy d f (i+1) (c+z) (by omega) (by omega) (by omega)
  exact ih.trans (sn (by omega))
theorem in_at {k:Nat} {s:LN} (hl:s.length≤2000) {x:Nat×Nat×Nat} (h:x.2.1+x.2.2≤s.length):g89 k s (⟨(mkTok s x).f0,(mkTok s x).f1,(mkTok s x).f2⟩:S33)=some true:=by
 have tl:((s.drop x.2.1).take x.2.2).length=x.2.2:=by rw [List.length_take,List.length_drop]; omega
 unfold g89
 refine iT (dT (show (0:Int)≤(x.2.1:Int) by omega)) ?_
 refine iT (dT (show (x.2.1:Int)≤(s.length:Int) by omega)) ?_
 show some (decide ((((s.drop x.2.1).take x.2.2).length:Int)≤fW .i64 ((s.length:Int) - (x.2.1:Int))))=_
 rw [tl,fw_d (by omega) (by omega),dT (by omega)]
theorem qRh {k:Nat} {s:LN} (hl:s.length≤2000) {x:Nat×Nat×Nat} (h:x.2.1+x.2.2≤s.length):g90 k (⟨(mkTok s x).f0,(mkTok s x).f1,(mkTok s x).f2⟩:S33)=some ((x.2.1+x.2.2:Nat):Int):=by
 unfold g90
 show some (fW .i64 ((mkTok s x).f2+((mkTok s x).f1.length:Int)))=_
 rw [tok_end h,fwI (by omega) (by omega)]
theorem qSh {k:Nat} {s:LN} (hk:s.length+10≤k) (hl:s.length≤2000) {l:List (Nat×Nat×Nat)} (ht:Toks s 0 l) (kk:Int):g72 k s (l.map (mkTok s)) kk=some ((gapI s l kk:Nat):Int):=by
 unfold g72 gapI
 have ll:((l.map (mkTok s)).length:Int)=(l.length:Int):=by simp
 by_cases h:1≤kk∧kk < l.length
 ·rw [if_pos h]
  obtain ⟨n,rfl⟩:∃ n:Nat,kk=(n:Int):=⟨kk.toNat,by omega⟩
  obtain ⟨x,y,r,a,b,g,o⟩:=pair_at (l:=l) (k:=n) (by omega) (by omega)
  have bx:=qC8 ht (Nat.zero_le _) x g
  have bY:=qC8 ht (Nat.zero_le _) y o
  have cl:l.length≤s.length:=qHu s (s.length+1) 0 l ((qF3 s (s.length+1) 0 l (by omega)).2 ht) (Nat.zero_le _)
  have pr:=qIs ht a
  have c:=λ_:Unit=>(show fW .i64 ((n:Int) - 1)=((n - 1:Nat):Int) from by rw [fwI (by omega) (by omega)]; omega)
  refine (jS (v:=false) (λj=>?_)).trans ?_
  ·refine iF (dF (by omega)) ?_
   refine iF (dF (by omega)) ?_
   rw [c ()]
   refine bS (by (try simp (disch:=omega) only [fwI]); exact qC6 a) ?_
   refine bS (by (try simp (disch:=omega) only [fwI]); exact in_at hl bx.2.1) ?_
   refine iF rfl ?_
   refine bS (by (try simp (disch:=omega) only [fwI]); exact qC6 b) ?_
   refine bS (by (try simp (disch:=omega) only [fwI]); exact in_at hl bY.2.1) ?_
   refine iF rfl ?_
   refine bS (by (try simp (disch:=omega) only [fwI]); exact qC6 a) ?_
   refine bS (by (try simp (disch:=omega) only [fwI]); exact qRh hl bx.2.1) ?_
   refine bS (by (try simp (disch:=omega) only [fwI]); exact qC6 b) ?_
   rw [show (mkTok s y).f2=(y.2.1:Int) from rfl,dF (show ¬ (y.2.1:Int) < ((x.2.1+x.2.2:Nat):Int) by omega)]
  ·refine iF rfl ?_
   rw [c ()]
   refine bS (by (try simp (disch:=omega) only [fwI]); exact qC6 a) ?_
   refine bS (by (try simp (disch:=omega) only [fwI]); exact qRh hl bx.2.1) ?_
   refine (ends_l k hl (qC6 b) (by omega) (y.2.1 - (x.2.1+x.2.2)) k (x.2.1+x.2.2) 0 (by omega) (by omega) (by omega)).trans ?_
   rw [Int.toNat_natCast]
   unfold gapN
   rw [a,Nat.zero_add]
 ·rw [if_neg h]
  refine (jS (v:=true) (λj=>?_)).trans rfl
  by_cases a:kk < 1
  ·exact iT (dT a) rfl
  ·refine iF (dF a) ?_
   exact iT (dT (by omega)) rfl
end Go.Proofs.Ythpplbkobokghaa.Am
set_option maxRecDepth 100000
set_option linter.unusedVariables false
namespace Go.Proofs.Ythpplbkobokghaa.Am
noncomputable section
open Go
def Xg16:Fx Bool:=⟨Try.prog,cx,Try.f16,λr => .bool r,0,λ_=>H0,cxTi,cxOrd,λ_=>none,false⟩
def g16c0:LN:=[97,32,43,32,98,32,42,32,99]
def g16c1:List S33:=[(⟨(1:Int),([120]:LN),(0:Int)⟩:S33),(⟨(9:Int),([44]:LN),(1:Int)⟩:S33),(⟨(1:Int),([121]:LN),(4:Int)⟩:S33)]
def g16p2:Pt:=nav [0,0,0] (nav [0,0,0] (nav [0] (bodyAt Try.f16)))
def g16p3:Pt:=nav [0,0,0] g16p2
def g16p4:Pt:=nav [0,0,0] g16p3
def g16p5:Pt:=nav [0,0,0] g16p4
def g16p6:Pt:=nav [0,0,0] g16p5
def g16 (k:Nat)  : Option Bool :=
 (g13 k g16c0).bind λb=>(g14 k g16c0 b.1 (0:Int) (b.1.length:Int) (0:Int)).bind λa=>(g14 k g16c0 b.1 (0:Int) (2:Int) (0:Int)).bind λj=>(g23 k ([120,44,10,10,121]:LN) g16c1 (0:Int) (3:Int)).bind λc=>if (decide (b.2=0)) then (if (decide (a.2.2=0)) then (if (decide (a.2.1=5)) then (if (decide (a.1.f0=14)) then (if (eqL a.1.f1 [43]) then (if (decide ((a.1.f2.n:Int)=2)) then ((nthR d29 7 a.1.f2.n a.1.f2.cells 1).bind λg=>if (eqL g.f1 [42]) then (if (decide (j.2.2=8)) then (if (decide (c.2.2=0)) then (if (decide ((c.1.f2.n:Int)=2)) then ((nthR d29 7 c.1.f2.n c.1.f2.cells 1).bind λh=>some h.f4) else (some false)) else (some false)) else (some false)) else (some false)) else (some false)) else (some false)) else (some false)) else (some false)) else (some false)) else (some false)
theorem qJs (k:Nat)  (r:Bool) (h:g16 k  = some r):PureOk Try.prog 16 [] (.bool r):=by
 refine qA4 Xg16 (λ_=>⟨rfl,rfl⟩) Try.func16 (by decide +kernel) Kr (t:=g16 k ) ?_ h
 unfold g16
 refine qA (eE:=[]) Kr ?_
 refine oH 11 (atN 1 (ctl1 g16p2)) [(14,.str g16c0),(1,.str g16c0),(0,.bool false)] (mkH []) ?_
 refine oA (λ(c:((List S33)×Int)) => .tuple [w34 c.1,.i c.2]) (atN 2 (ctl1 g16p2)) 15 [.str g16c0] (g13_ok k g16c0) λc O=>?_
 refine oR 12 (atN 4 (ctl1 g16p3)) [(22,.i (c.1.length:Int)),(21,w34 c.1),(20,w34 c.1),(19,.str g16c0),(3,.i c.2),(2,w34 c.1),(17,.i c.2),(16,w34 c.1),(13,.tuple [w34 c.1,.i c.2]),(15,.tuple [w34 c.1,.i c.2]),(14,.str g16c0),(1,.str g16c0),(0,.bool false)] ?_
 refine oA (λ(b:(S28×Int×Int)) => .tuple [n29 b.1,.i b.2.1,.i b.2.2]) (atN 5 (ctl1 g16p3)) 23 [.str g16c0,w34 c.1,.i 0,.i (c.1.length:Int),.i 0] (qS7 k g16c0 c.1 (0:Int) (c.1.length:Int) (0:Int)) λb Q=>?_
 let Z:Env:=[(1,.str g16c0),(2,w34 c.1),(3,.i c.2),(4,.ptr 0 7 0),(5,.i b.2.1),(6,.i b.2.2)]
 refine oLH 10 g16p4 Z (mkH [⟨e29 b.1,7,false⟩]) ?_
 refine oR 3 (atN 2 (ctl1 g16p4)) ((29,w34 c.1)::(28,.str g16c0)::Z) ?_
 refine oA (λ(o:(S28×Int×Int)) => .tuple [n29 o.1,.i o.2.1,.i o.2.2]) (atN 3 (ctl1 g16p4)) 30 [.str g16c0,w34 c.1,.i 0,.i 2,.i 0] (qS7 k g16c0 c.1 (0:Int) (2:Int) (0:Int)) λo S=>?_
 let E5:Env:=[(3,.i c.2),(4,.ptr 0 7 0),(5,.i b.2.1),(6,.i b.2.2),(9,.i o.2.2)]
 refine oLH 10 g16p5 E5 (mkH [⟨e29 b.1,7,false⟩,⟨e29 o.1,7,false⟩]) ?_
 refine oH 5 (atN 4 (ctl1 g16p5)) ((38,.slice 2 9 0 3 3)::(37,.agg [.i 1,.str [121],.i 4])::(36,.agg [.i 9,.str [44],.i 1])::(35,.agg [.i 1,.str [120],.i 0])::E5) (mkH [⟨e29 b.1,7,false⟩,⟨e29 o.1,7,false⟩,⟨[.i 1,.str [120],.i 0,.i 9,.str [44],.i 1,.i 1,.str [121],.i 4],0,false⟩]) ?_
 refine oZ 38 2 3 3 [.i 1,.str [120],.i 0,.i 9,.str [44],.i 1,.i 1,.str [121],.i 4] [3,4,5,6,9,35,36,37] [] trivial ?_
 refine oE [(38,w34 g16c1),(3,.i c.2),(4,.ptr 0 7 0),(5,.i b.2.1),(6,.i b.2.2),(9,.i o.2.2),(35,.agg [.i 1,.str [120],.i 0]),(36,.agg [.i 9,.str [44],.i 1]),(37,.agg [.i 1,.str [121],.i 4])] ?_
 refine oHp (mkH [⟨e29 b.1,7,false⟩,⟨e29 o.1,7,false⟩,⟨[],0,false⟩]) ?_
 refine oA (λ(j:(S28×Int×Int)) => .tuple [n29 j.1,.i j.2.1,.i j.2.2]) (atN 5 (ctl1 g16p5)) 39 [.str [120,44,10,10,121],w34 g16c1,.i 0,.i 3] (g23_ok k ([120,44,10,10,121]:LN) g16c1 (0:Int) (3:Int)) λj T=>?_
 let U:Env:=[(3,.i c.2),(4,.ptr 0 7 0),(5,.i b.2.1),(6,.i b.2.2),(9,.i o.2.2),(10,.ptr 3 7 0),(12,.i j.2.2)]
 let K:List Blk:=[⟨e29 b.1,7,false⟩,⟨e29 o.1,7,false⟩,⟨[],0,false⟩,⟨e29 j.1,7,false⟩]
 refine oLH 10 g16p6 U (mkH K) ?_
 refine oR 4 (atN 3 (ctl1 g16p6)) ((45,.bool (decide (c.2=0)))::(44,.bool (decide (c.2=0)))::(43,.i c.2)::U) ?_
 refine oS 45 (λq=>?_) (λq=>?_)
 ·let E8:Env:=((49,.bool (decide (b.2.2=0)))::(48,.bool (decide (b.2.2=0)))::(47,.bool (decide (b.2.2=0)))::(46,.i b.2.2)::(45,.bool true)::(45,.bool (decide (c.2=0)))::(44,.bool (decide (c.2=0)))::(43,.i c.2)::U)
  refine oR 4 (atN 7 (ctl1 g16p6)) E8 ?_
  refine oS 49 (λq=>?_) (λq=>?_)
  ·let E9:Env:=((53,.bool (decide (b.2.1=5)))::(52,.bool (decide (b.2.1=5)))::(51,.bool (decide (b.2.1=5)))::(50,.i b.2.1)::(49,.bool true)::E8)
   refine oR 4 (atN 11 (ctl1 g16p6)) E9 ?_
   refine oS 53 (λq=>?_) (λq=>?_)
   ·let z:Env:=((58,.bool (decide (b.1.f0=14)))::(57,.bool (decide (b.1.f0=14)))::(56,.bool (decide (b.1.f0=14)))::(55,.i b.1.f0)::(54,.ptr 0 7 0)::(53,.bool true)::E9)
    refine oR 5 (atN 16 (ctl1 g16p6)) z ?_
    refine oS 58 (λq=>?_) (λq=>?_)
    ·let D:Env:=((63,.bool (eqL b.1.f1 [43]))::(62,.bool (eqL b.1.f1 [43]))::(61,.bool (eqL b.1.f1 [43]))::(60,.str b.1.f1)::(59,.ptr 0 7 1)::(58,.bool true)::z)
     refine oR 5 (atN 21 (ctl1 g16p6)) D ?_
     refine oS 63 (λq=>?_) (λq=>?_)
     ·let u:Env:=((69,.bool (decide ((b.1.f2.n:Int)=2)))::(68,.bool (decide ((b.1.f2.n:Int)=2)))::(67,.bool (decide ((b.1.f2.n:Int)=2)))::(66,.i (b.1.f2.n:Int))::(65,q29 b.1.f2)::(64,.ptr 0 7 2)::(63,.bool true)::D)
      refine oR 6 (atN 27 (ctl1 g16p6)) u ?_
      refine oS 69 (λq=>?_) (λq=>?_)
      ·refine oR 2 (atN 29 (ctl1 g16p6)) ((71,q29 b.1.f2)::(70,.ptr 0 7 2)::(69,.bool true)::u) ?_
       refine qKi (λ(a:S28)=>(.vptr [.i a.f0,.str a.f1,q29 a.f2,.bool a.f3,.bool a.f4,w9 a.f5,w9 a.f6],(mkH K))) (atN 30 (ctl1 g16p6)) (λa=>((72,.vptr [.i a.f0,.str a.f1,q29 a.f2,.bool a.f3,.bool a.f4,w9 a.f5,w9 a.f6])::(71,q29 b.1.f2)::(70,.ptr 0 7 2)::(69,.bool true)::u)) (λ_ Y=>vidxR (sz:=7) qSl Y Kr) (λ_=>by kernel_rfl) (λa M=>?_)
       let E:Env:=((77,.bool (eqL a.f1 [42]))::(76,.bool (eqL a.f1 [42]))::(75,.bool (eqL a.f1 [42]))::(74,.str a.f1)::(73,.vptr [.str a.f1,q29 a.f2,.bool a.f3,.bool a.f4,w9 a.f5,w9 a.f6])::(72,.vptr [.i a.f0,.str a.f1,q29 a.f2,.bool a.f3,.bool a.f4,w9 a.f5,w9 a.f6])::(71,q29 b.1.f2)::(70,.ptr 0 7 2)::(69,.bool true)::u)
       refine oH 5 (atN 35 (ctl1 g16p6)) E (mkH K) ?_
       refine oS 77 (λq=>?_) (λq=>?_)
       ·let I:Env:=((81,.bool (decide (o.2.2=8)))::(80,.bool (decide (o.2.2=8)))::(79,.bool (decide (o.2.2=8)))::(78,.i o.2.2)::(77,.bool true)::E)
        refine oR 4 (atN 39 (ctl1 g16p6)) I ?_
        refine oS 81 (λq=>?_) (λq=>?_)
        ·let J:Env:=((85,.bool (decide (j.2.2=0)))::(84,.bool (decide (j.2.2=0)))::(83,.bool (decide (j.2.2=0)))::(82,.i j.2.2)::(81,.bool true)::I)
         refine oR 4 (atN 43 (ctl1 g16p6)) J ?_
         refine oS 85 (λq=>?_) (λq=>?_)
         ·let x:Env:=((91,.bool (decide ((j.1.f2.n:Int)=2)))::(90,.bool (decide ((j.1.f2.n:Int)=2)))::(89,.bool (decide ((j.1.f2.n:Int)=2)))::(88,.i (j.1.f2.n:Int))::(87,q29 j.1.f2)::(86,.ptr 3 7 2)::(85,.bool true)::J)
          refine oR 6 (atN 49 (ctl1 g16p6)) x ?_
          refine oS 91 (λq=>?_) (λq=>?_)
          ·refine oR 2 (atN 51 (ctl1 g16p6)) ((93,q29 j.1.f2)::(92,.ptr 3 7 2)::(91,.bool true)::x) ?_
           refine qKi (λ(g:S28)=>(.vptr [.i g.f0,.str g.f1,q29 g.f2,.bool g.f3,.bool g.f4,w9 g.f5,w9 g.f6],(mkH K))) (atN 52 (ctl1 g16p6)) (λg=>((94,.vptr [.i g.f0,.str g.f1,q29 g.f2,.bool g.f3,.bool g.f4,w9 g.f5,w9 g.f6])::(93,q29 j.1.f2)::(92,.ptr 3 7 2)::(91,.bool true)::x)) (λ_ Y=>vidxR (sz:=7) qSl Y Kr) (λ_=>by kernel_rfl) (λg N=>?_)
           exact oQ 6
          ·exact oQ 9
         ·exact oQ 15
        ·exact oQ 19
       ·exact oQ 23
      ·exact oQ 31
     ·exact oQ 37
    ·exact oQ 42
   ·exact oQ 47
  ·exact oQ 51
 ·exact oQ 55
def Xg56:Fx Bool:=⟨Try.prog,cx,Try.f56,λr => .bool r,0,λ_=>H0,cxTi,cxOrd,λ_=>none,false⟩
def g56p2:Pt:=nav [0,0,0,0] (nav [0,0,0,0] (nav [0] (bodyAt Try.f56)))
def g56p4:Pt:=nav [0,0] (nav [0,0,0] g56p2)
def g56p5:Pt:=nav [1,0,0,0,0] g56p4
def qKs (k:Nat)  (a0:LL) (c:LN) (ih:Int→Option Bool):Int→Option Bool :=
 λ(a:Int)=>if (decide (a < (a0.length:Int))) then ((nthL a0 a).bind λb=>if (eqL b c) then (some true) else (ih (fW .i64 (a+1)))) else (some false)
def qG6 (k:Nat)  (a0:LL) (a:LN) (n:Nat):Int→Option Bool:=lp (λ_=>none) (qKs k a0 a) n
theorem g56_l1_s (k:Nat)  (a0:LL) (c:LN) (n:Nat) (a:Int):qG6 k a0 c (n+1) a=(if (decide (a < (a0.length:Int))) then ((nthL a0 a).bind λb=>if (eqL b c) then (some true) else ((qG6 k a0 c n) (fW .i64 (a+1)))) else (some false)):=rfl
theorem qRq (k:Nat)   (a0:LL) (c:LN)  : ∀ (n:Nat) (a:Int),Ok Xg56 g56p2 [(0,w9 a0),(1,.str c),(5,.i a)] (mkH []) (qG6 k a0 c n a):=by
 intro n
 induction n with
 | zero=>intro a; exact ok_none
 | succ n ih =>
  intro a
  show Ok _ _ _ _ (qKs k a0 c (qG6 k a0 c n) a)
  unfold qKs
  refine qAh (p':=nav [0] g56p2) Kr ?_
  let j:Env:=[(9,.bool (decide (a < (a0.length:Int)))),(8,.i (a0.length:Int)),(7,w9 a0),(6,.i a),(0,w9 a0),(1,.str c),(5,.i a)]
  refine oH 8 g56p4 j (mkH []) ?_
  refine oS 9 (λg=>?_) (λg=>?_)
  ·refine oR 8 (atN 2 (ctl1 g56p5)) ((13,.i a)::(12,w9 a0)::(9,.bool true)::j) ?_
   refine oC (λ(b:LN)=>(.vptr [.str b],(mkH []))) (atN 3 (ctl1 g56p5)) 14 (vidxH (sz:=1) qBw Kr) λb h=>?_
   refine oLH 4 (nav [0,0] g56p5) [(0,w9 a0),(1,.str c),(5,.i a),(17,.bool (eqL b c))] (mkH []) ?_
   refine oS 17 (λg=>?_) (λg=>?_)
   ·exact oQ 6
   ·refine oL 7 g56p2 [(0,w9 a0),(1,.str c),(5,.i (fW .i64 (a+1)))] ?_
    exact ih (fW .i64 (a+1))
  ·exact oQ 7
def g56 (k:Nat) (a0:LL) (a:LN):Option Bool :=
 qG6 k a0 a k 0
theorem qNa (k:Nat) (a0:LL) (a:LN) (r:Bool) (h:g56 k a0 a=some r):PureOk Try.prog 56 [w9 a0,.str a] (.bool r):=by
 refine qA4 Xg56 (λ_=>⟨rfl,rfl⟩) Try.func56 (by decide +kernel) Kr (t:=g56 k a0 a) ?_ h
 unfold g56
 refine qA (eE:=[(0,w9 a0),(1,.str a)]) Kr ?_
 refine oLH 11 g56p2 [(0,w9 a0),(1,.str a),(5,.i 0)] (mkH []) ?_
 exact (qRq k a0 a k) 0
def Xg32:Fx Bool:=⟨Try.prog,cx,Try.f32,λr => .bool r,0,λ_=>H0,cxTi,cxOrd,λ_=>none,false⟩
def g32c0:LL:=[([40]:LN),([123]:LN),([91]:LN),([60,60]:LN)]
def g32c1:LN:=[98,101,103,105,110]
def g32c2:LN:=[114,101,99,101,105,118,101]
def g32c3:LL:=[g32c1,([99,97,115,101]:LN),([105,102]:LN),g32c2]
def g32p1:Pt:=nav [0,0,0] (nav [0] (bodyAt Try.f32))
def g32 (k:Nat) (a0:S33):Option Bool :=
 if (decide (a0.f0=9)) then ((g56 k g32c0 a0.f1).bind λb=>if b then (some true) else (if (decide (a0.f0=8)) then ((g56 k g32c3 a0.f1).bind λa=>some a) else (some false))) else (if (decide (a0.f0=8)) then ((g56 k g32c3 a0.f1).bind λa=>some a) else (some false))
theorem g32_ok (k:Nat) (a0:S33) (r:Bool) (h:g32 k a0=some r):PureOk Try.prog 32 [.agg [.i a0.f0,.str a0.f1,.i a0.f2]] (.bool r):=by
 refine qA4 Xg32 (λ_=>⟨rfl,rfl⟩) Try.func32 (by decide +kernel) Kr (t:=g32 k a0) ?_ h
 unfold g32
 refine qA (eE:=[(0,.agg [.i a0.f0,.str a0.f1,.i a0.f2])]) Kr ?_
 let j:Env:=[(6,.bool (decide (a0.f0=9))),(5,.bool (decide (a0.f0=9))),(4,.i a0.f0),(3,.ptr 0 3 0),(2,.bool false),(1,.ptr 0 3 0),(0,n34 a0)]
 refine oH 11 (atN 4 (ctl1 g32p1)) j (mkH [⟨e34 a0,0,false⟩]) ?_
 refine oS 6 (λg=>?_) (λg=>?_)
 ·refine oH 1 (atN 5 (ctl1 g32p1)) ((7,.slice 1 4 0 4 1)::(6,.bool true)::j) (mkH [⟨e34 a0,0,false⟩,⟨[.str [40],.str [123],.str [91],.str [60,60]],0,false⟩]) ?_
  refine oZ 7 1 4 1 [.str [40],.str [123],.str [91],.str [60,60]] [0,1,2,3,4,5,6] [] trivial ?_
  let n:Env:=[(9,.str a0.f1),(8,.ptr 0 3 1),(7,w9 g32c0),(0,n34 a0),(1,.ptr 0 3 0),(2,.bool false),(3,.ptr 0 3 0),(4,.i a0.f0),(5,.bool (decide (a0.f0=9))),(6,.bool true)]
  refine oH 2 (atN 7 (ctl1 g32p1)) n (mkH [⟨e34 a0,0,false⟩,⟨[],0,false⟩]) ?_
  refine oA (λ(a:Bool) => .bool a) (atN 8 (ctl1 g32p1)) 10 [w9 g32c0,.str a0.f1] (qNa k g32c0 a0.f1) λa o=>?_
  refine oR 2 (atN 10 (ctl1 g32p1)) ((12,.bool a)::(11,.bool a)::(10,.bool a)::n) ?_
  refine oS 12 (λg=>?_) (λg=>?_)
  ·exact oQ 13
  ·let q:Env:=((16,.bool (decide (a0.f0=8)))::(15,.bool (decide (a0.f0=8)))::(14,.i a0.f0)::(13,.ptr 0 3 0)::(12,.bool false)::(12,.bool a)::(11,.bool a)::(10,.bool a)::n)
   refine oR 4 (atN 14 (ctl1 g32p1)) q ?_
   refine oS 16 (λg=>?_) (λg=>?_)
   ·refine oH 1 (atN 15 (ctl1 g32p1)) ((17,.slice 2 4 0 4 1)::(16,.bool true)::q) (mkH [⟨e34 a0,0,false⟩,⟨[],0,false⟩,⟨[.str g32c1,.str [99,97,115,101],.str [105,102],.str g32c2],0,false⟩]) ?_
    refine oZ 17 2 4 1 [.str g32c1,.str [99,97,115,101],.str [105,102],.str g32c2] [0,1,2,3,4,5,6,7,8,9,10,11,12,13,14,15,16] [] trivial ?_
    refine oH 2 (atN 17 (ctl1 g32p1)) [(19,.str a0.f1),(18,.ptr 0 3 1),(17,w9 g32c3),(0,n34 a0),(1,.ptr 0 3 0),(2,.bool false),(3,.ptr 0 3 0),(4,.i a0.f0),(5,.bool (decide (a0.f0=9))),(6,.bool true),(7,w9 g32c0),(8,.ptr 0 3 1),(9,.str a0.f1),(10,.bool a),(11,.bool a),(12,.bool false),(13,.ptr 0 3 0),(14,.i a0.f0),(15,.bool (decide (a0.f0=8))),(16,.bool true)] (mkH [⟨e34 a0,0,false⟩,⟨[],0,false⟩,⟨[],0,false⟩]) ?_
    refine oA (λ(b:Bool) => .bool b) (atN 18 (ctl1 g32p1)) 20 [w9 g32c3,.str a0.f1] (qNa k g32c3 a0.f1) λb c=>?_
    exact oQ 5
   ·exact oQ 9
 ·let u:Env:=((16,.bool (decide (a0.f0=8)))::(15,.bool (decide (a0.f0=8)))::(14,.i a0.f0)::(13,.ptr 0 3 0)::(12,.bool false)::(11,.bool false)::(10,.tuple [])::(9,.tuple [])::(8,.tuple [])::(7,.tuple [])::(6,.bool false)::j)
  refine oR 10 (atN 14 (ctl1 g32p1)) u ?_
  refine oS 16 (λg=>?_) (λg=>?_)
  ·refine oH 1 (atN 15 (ctl1 g32p1)) ((17,.slice 1 4 0 4 1)::(16,.bool true)::u) (mkH [⟨e34 a0,0,false⟩,⟨[.str g32c1,.str [99,97,115,101],.str [105,102],.str g32c2],0,false⟩]) ?_
   refine oZ 17 1 4 1 [.str g32c1,.str [99,97,115,101],.str [105,102],.str g32c2] [0,1,2,3,4,5,6,7,8,9,10,11,12,13,14,15,16] [] trivial ?_
   refine oH 2 (atN 17 (ctl1 g32p1)) [(19,.str a0.f1),(18,.ptr 0 3 1),(17,w9 g32c3),(0,n34 a0),(1,.ptr 0 3 0),(2,.bool false),(3,.ptr 0 3 0),(4,.i a0.f0),(5,.bool (decide (a0.f0=9))),(6,.bool false),(7,.tuple []),(8,.tuple []),(9,.tuple []),(10,.tuple []),(11,.bool false),(12,.bool false),(13,.ptr 0 3 0),(14,.i a0.f0),(15,.bool (decide (a0.f0=8))),(16,.bool true)] (mkH [⟨e34 a0,0,false⟩,⟨[],0,false⟩]) ?_
   refine oA (λ(b:Bool) => .bool b) (atN 18 (ctl1 g32p1)) 20 [w9 g32c3,.str a0.f1] (qNa k g32c3 a0.f1) λb c=>?_
   exact oQ 5
  ·exact oQ 9
def Xg33:Fx Bool:=⟨Try.prog,cx,Try.f33,λr => .bool r,0,λ_=>H0,cxTi,cxOrd,λ_=>none,false⟩
def g33c0:LL:=[([41]:LN),([125]:LN),([93]:LN),([62,62]:LN)]
def g33p1:Pt:=nav [0,0,0] (nav [0] (bodyAt Try.f33))
def g33 (k:Nat) (a0:S33):Option Bool :=
 if (decide (a0.f0=9)) then ((g56 k g33c0 a0.f1).bind λa=>if a then (some true) else (if (decide (a0.f0=8)) then (some (eqL a0.f1 [101,110,100])) else (some false))) else (if (decide (a0.f0=8)) then (some (eqL a0.f1 [101,110,100])) else (some false))
theorem g33_ok (k:Nat) (a0:S33) (r:Bool) (h:g33 k a0=some r):PureOk Try.prog 33 [.agg [.i a0.f0,.str a0.f1,.i a0.f2]] (.bool r):=by
 refine qA4 Xg33 (λ_=>⟨rfl,rfl⟩) Try.func33 (by decide +kernel) Kr (t:=g33 k a0) ?_ h
 unfold g33
 refine qA (eE:=[(0,.agg [.i a0.f0,.str a0.f1,.i a0.f2])]) Kr ?_
 let c:Env:=[(6,.bool (decide (a0.f0=9))),(5,.bool (decide (a0.f0=9))),(4,.i a0.f0),(3,.ptr 0 3 0),(2,.bool false),(1,.ptr 0 3 0),(0,n34 a0)]
 refine oH 11 (atN 4 (ctl1 g33p1)) c (mkH [⟨e34 a0,0,false⟩]) ?_
 refine oS 6 (λb=>?_) (λb=>?_)
 ·refine oH 1 (atN 5 (ctl1 g33p1)) ((7,.slice 1 4 0 4 1)::(6,.bool true)::c) (mkH [⟨e34 a0,0,false⟩,⟨[.str [41],.str [125],.str [93],.str [62,62]],0,false⟩]) ?_
  refine oZ 7 1 4 1 [.str [41],.str [125],.str [93],.str [62,62]] [0,1,2,3,4,5,6] [] trivial ?_
  let g:Env:=[(9,.str a0.f1),(8,.ptr 0 3 1),(7,w9 g33c0),(0,n34 a0),(1,.ptr 0 3 0),(2,.bool false),(3,.ptr 0 3 0),(4,.i a0.f0),(5,.bool (decide (a0.f0=9))),(6,.bool true)]
  refine oH 2 (atN 7 (ctl1 g33p1)) g (mkH [⟨e34 a0,0,false⟩,⟨[],0,false⟩]) ?_
  refine oA (λ(a:Bool) => .bool a) (atN 8 (ctl1 g33p1)) 10 [w9 g33c0,.str a0.f1] (qNa k g33c0 a0.f1) λa j=>?_
  refine oR 2 (atN 10 (ctl1 g33p1)) ((12,.bool a)::(11,.bool a)::(10,.bool a)::g) ?_
  refine oS 12 (λb=>?_) (λb=>?_)
  ·exact oQ 12
  ·refine oR 4 (atN 14 (ctl1 g33p1)) ((16,.bool (decide (a0.f0=8)))::(15,.bool (decide (a0.f0=8)))::(14,.i a0.f0)::(13,.ptr 0 3 0)::(12,.bool false)::(12,.bool a)::(11,.bool a)::(10,.bool a)::g) ?_
   refine oS 16 (λb=>?_) (λb=>?_)
   ·exact oQ 8
   ·exact oQ 8
 ·refine oR 10 (atN 14 (ctl1 g33p1)) ((16,.bool (decide (a0.f0=8)))::(15,.bool (decide (a0.f0=8)))::(14,.i a0.f0)::(13,.ptr 0 3 0)::(12,.bool false)::(11,.bool false)::(10,.tuple [])::(9,.tuple [])::(8,.tuple [])::(7,.tuple [])::(6,.bool false)::c) ?_
  refine oS 16 (λb=>?_) (λb=>?_)
  ·exact oQ 8
  ·exact oQ 8
def Xg20:Fx Int:=⟨Try.prog,cx,Try.f20,λr => .i r,0,λ_=>H0,cxTi,cxOrd,λ_=>none,false⟩
def g20p3:Pt:=nav [0,0,0,0] (nav [0,0,0,0] (nav [0,0,0] (nav [0] (bodyAt Try.f20))))
def g20p5:Pt:=nav [0,0] (nav [0,0,0] g20p3)
def g20p6:Pt:=nav [1,0,0,0,0,0,0] g20p5
def g20p8:Pt:=nav [0,0] g20p6
def g20p11:Pt:=nav [2,0] g20p8
def g20p12:Pt:=nav [0,0] (nav [1] g20p8)
def g20p13:Pt:=nav [0,0] g20p11
def qL2 (k:Nat)  (a0:List S33) (ih:Int→Int→Int→Option Int):Int→Int→Int→Option Int :=
 λ(c:Int) (b:Int) (a:Int)=>if (decide (a < (a0.length:Int))) then ((nthL a0 a).bind λu=>(g32 k u).bind λx=>jn (λ(g:Bool×Int×Int×Int)=>jn (λ(I:Int×Int×Int)=>ih I.1 (maxI I.2.1 I.1) (fW .i64 (I.2.2+1))) (λJ=>if g.1 then (J (fW .i64 (g.2.1+1),g.2.2.1,g.2.2.2)) else ((nthL a0 g.2.2.2).bind λz=>(g33 k z).bind λD=>jn (λ(h:Int×Int×Int×Bool)=>if h.2.2.2 then (J (fW .i64 (h.1 - 1),h.2.1,h.2.2.1)) else (J (h.1,h.2.1,h.2.2.1))) (λK=>if D then (K (g.2.1,g.2.2.1,g.2.2.2,decide (0 < g.2.1))) else (K (g.2.1,g.2.2.1,g.2.2.2,false)))))) (λq=>if x then (q (true,c,b,a)) else ((nthL a0 a).bind λE=>if (decide (E.f0=8)) then ((nthL a0 a).bind λj=>if (eqL j.f1 [102,117,110]) then (if (decide (fW .i64 (a+1) < (a0.length:Int))) then ((nthL a0 (fW .i64 (a+1))).bind λn=>if (decide (n.f0=9)) then ((nthL a0 (fW .i64 (a+1))).bind λo=>q (eqL o.f1 [40],c,b,a)) else (q (false,c,b,a))) else (q (false,c,b,a))) else (q (false,c,b,a))) else (q (false,c,b,a))))) else (some b)
def qGa (k:Nat)  (a0:List S33) (n:Nat):Int→Int→Int→Option Int:=lp (λ_ _ _=>none) (qL2 k a0) n
theorem g20_l2_s (k:Nat)  (a0:List S33) (n:Nat) (c:Int) (b:Int) (a:Int):qGa k a0 (n+1) c b a=(if (decide (a < (a0.length:Int))) then ((nthL a0 a).bind λx=>(g32 k x).bind λz=>jn (λ(g:Bool×Int×Int×Int)=>jn (λ(J:Int×Int×Int)=>(qGa k a0 n) J.1 (maxI J.2.1 J.1) (fW .i64 (J.2.2+1))) (λK=>if g.1 then (K (fW .i64 (g.2.1+1),g.2.2.1,g.2.2.2)) else ((nthL a0 g.2.2.2).bind λD=>(g33 k D).bind λE=>jn (λ(h:Int×Int×Int×Bool)=>if h.2.2.2 then (K (fW .i64 (h.1 - 1),h.2.1,h.2.2.1)) else (K (h.1,h.2.1,h.2.2.1))) (λM=>if E then (M (g.2.1,g.2.2.1,g.2.2.2,decide (0 < g.2.1))) else (M (g.2.1,g.2.2.1,g.2.2.2,false)))))) (λu=>if z then (u (true,c,b,a)) else ((nthL a0 a).bind λI=>if (decide (I.f0=8)) then ((nthL a0 a).bind λj=>if (eqL j.f1 [102,117,110]) then (if (decide (fW .i64 (a+1) < (a0.length:Int))) then ((nthL a0 (fW .i64 (a+1))).bind λo=>if (decide (o.f0=9)) then ((nthL a0 (fW .i64 (a+1))).bind λq=>u (eqL q.f1 [40],c,b,a)) else (u (false,c,b,a))) else (u (false,c,b,a))) else (u (false,c,b,a))) else (u (false,c,b,a))))) else (some b)):=rfl
theorem qS6 (k:Nat)   (a0:List S33)  : ∀ (n:Nat) (c:Int) (g:Int) (a:Int),Ok Xg20 g20p3 [(0,w34 a0),(3,.i c),(4,.i g),(5,.i a)] (mkH []) (qGa k a0 n c g a):=by
 intro n
 induction n with
 | zero=>intro c g a; exact ok_none
 | succ n ih =>
  intro c g a
  show Ok _ _ _ _ (qL2 k a0 (qGa k a0 n) c g a)
  unfold qL2
  refine qAh (p':=nav [0] g20p3) Kr ?_
  let E2:Env:=[(9,.bool (decide (a < (a0.length:Int)))),(8,.i (a0.length:Int)),(7,w34 a0),(6,.i a),(0,w34 a0),(3,.i c),(4,.i g),(5,.i a)]
  refine oH 8 g20p5 E2 (mkH []) ?_
  refine oS 9 (λE=>?_) (λE=>?_)
  ·refine oR 10 (atN 2 (ctl1 g20p6)) ((14,.i a)::(13,w34 a0)::(9,.bool true)::E2) ?_
   refine oC (λ(q:S33)=>(.vptr [.i q.f0,.str q.f1,.i q.f2],(mkH []))) (atN 3 (ctl1 g20p6)) 15 (vidxH (sz:=3) qAf Kr) λq a3=>?_
   let E3:Env:=((16,n34 q)::(15,.vptr [.i q.f0,.str q.f1,.i q.f2])::(14,.i a)::(13,w34 a0)::(9,.bool true)::E2)
   refine oH 1 (atN 4 (ctl1 g20p6)) E3 (mkH []) ?_
   refine oA (λ(z:Bool) => .bool z) (atN 5 (ctl1 g20p6)) 17 [n34 q] (g32_ok k q) λz a5=>?_
   refine oR 1 (atN 6 (ctl1 g20p6)) ((18,.bool z)::(17,.bool z)::E3) ?_
   refine oJ g20p8 (λ(u:Bool×Int×Int×Int)=>[(0,w34 a0),(3,.i u.2.1),(4,.i u.2.2.1),(5,.i u.2.2.2),(12,.bool u.1)]) (λ(u:Bool×Int×Int×Int)=>(mkH [])) (λu=>?_) (λj3 J=>?_)
   ·refine oJ g20p12 (λ(K:Int×Int×Int)=>[(0,w34 a0),(3,.i K.1),(4,.i K.2.1),(5,.i K.2.2)]) (λ(K:Int×Int×Int)=>(mkH [])) (λK=>?_) (λj4 M=>?_)
    ·refine oLH 11 g20p3 [(0,w34 a0),(3,.i K.1),(4,.i (maxI K.2.1 K.1)),(5,.i (fW .i64 (K.2.2+1)))] (mkH []) ?_
     exact ih K.1 (maxI K.2.1 K.1) (fW .i64 (K.2.2+1))
    ·refine oS 12 (λE=>?_) (λE=>?_)
     ·refine oLH 6 g20p12 [(0,w34 a0),(3,.i (fW .i64 (u.2.1+1))),(4,.i u.2.2.1),(5,.i u.2.2.2)] (mkH []) ?_
      exact M (fW .i64 (u.2.1+1),u.2.2.1,u.2.2.2)
     ·let E8:Env:=[(63,.i u.2.2.2),(62,w34 a0),(12,.bool false),(0,w34 a0),(3,.i u.2.1),(4,.i u.2.2.1),(5,.i u.2.2.2),(12,.bool u.1)]
      refine oH 5 (atN 2 (ctl1 g20p11)) E8 (mkH []) ?_
      refine oC (λ(j:S33)=>(.vptr [.i j.f0,.str j.f1,.i j.f2],(mkH []))) (atN 3 (ctl1 g20p11)) 64 (vidxH (sz:=3) qAf Kr) λj a7=>?_
      refine oH 1 (atN 4 (ctl1 g20p11)) ((65,n34 j)::(64,.vptr [.i j.f0,.str j.f1,.i j.f2])::E8) (mkH []) ?_
      refine oA (λ(I:Bool) => .bool I) (atN 5 (ctl1 g20p11)) 66 [n34 j] (g33_ok k j) λI a8=>?_
      refine oR 1 (atN 6 (ctl1 g20p11)) ((67,.bool I)::(66,.bool I)::(65,n34 j)::(64,.vptr [.i j.f0,.str j.f1,.i j.f2])::E8) ?_
      refine oJ g20p13 (λ(D:Int×Int×Int×Bool)=>[(0,w34 a0),(3,.i D.1),(4,.i D.2.1),(5,.i D.2.2.1),(61,.bool D.2.2.2)]) (λ(D:Int×Int×Int×Bool)=>(mkH [])) (λD=>?_) (λj5 Q=>?_)
      ·refine oS 61 (λE=>?_) (λE=>?_)
       ·refine oLH 6 g20p12 [(0,w34 a0),(3,.i (fW .i64 (D.1 - 1))),(4,.i D.2.1),(5,.i D.2.2.1)] (mkH []) ?_
        exact M (fW .i64 (D.1 - 1),D.2.1,D.2.2.1)
       ·refine oLH 2 g20p12 [(0,w34 a0),(3,.i D.1),(4,.i D.2.1),(5,.i D.2.2.1)] (mkH []) ?_
        exact M (D.1,D.2.1,D.2.2.1)
      ·refine oS 67 (λE=>?_) (λE=>?_)
       ·refine oLH 5 g20p13 [(0,w34 a0),(3,.i u.2.1),(4,.i u.2.2.1),(5,.i u.2.2.2),(61,.bool (decide (0 < u.2.1)))] (mkH []) ?_
        exact Q (u.2.1,u.2.2.1,u.2.2.2,decide (0 < u.2.1))
       ·refine oLH 5 g20p13 [(0,w34 a0),(3,.i u.2.1),(4,.i u.2.2.1),(5,.i u.2.2.2),(61,.bool false)] (mkH []) ?_
        exact Q (u.2.1,u.2.2.1,u.2.2.2,false)
   ·refine oS 18 (λE=>?_) (λE=>?_)
    ·refine oLH 42 g20p8 [(0,w34 a0),(3,.i c),(4,.i g),(5,.i a),(12,.bool true)] (mkH []) ?_
     exact J (true,c,g,a)
    ·let S:Env:=((20,.i a)::(19,w34 a0)::(18,.bool false)::(18,.bool z)::(17,.bool z)::E3)
     refine oH 2 (atN 8 (ctl1 g20p6)) S (mkH []) ?_
     refine oC (λ(o:S33)=>(.vptr [.i o.f0,.str o.f1,.i o.f2],(mkH []))) (atN 9 (ctl1 g20p6)) 21 (vidxH (sz:=3) qAf Kr) λo a9=>?_
     let N:Env:=((25,.bool (decide (o.f0=8)))::(24,.bool (decide (o.f0=8)))::(23,.i o.f0)::(22,.vptr [.i o.f0,.str o.f1,.i o.f2])::(21,.vptr [.i o.f0,.str o.f1,.i o.f2])::S)
     refine oH 4 (atN 13 (ctl1 g20p6)) N (mkH []) ?_
     refine oS 25 (λE=>?_) (λE=>?_)
     ·refine oR 2 (atN 15 (ctl1 g20p6)) ((27,.i a)::(26,w34 a0)::(25,.bool true)::N) ?_
      refine oC (λ(h:S33)=>(.vptr [.i h.f0,.str h.f1,.i h.f2],(mkH []))) (atN 16 (ctl1 g20p6)) 28 (vidxH (sz:=3) qAf Kr) λh Y=>?_
      let T:Env:=((33,.bool (eqL h.f1 [102,117,110]))::(32,.bool (eqL h.f1 [102,117,110]))::(31,.bool (eqL h.f1 [102,117,110]))::(30,.str h.f1)::(29,.vptr [.str h.f1,.i h.f2])::(28,.vptr [.i h.f0,.str h.f1,.i h.f2])::(27,.i a)::(26,w34 a0)::(25,.bool true)::N)
      refine oH 5 (atN 21 (ctl1 g20p6)) T (mkH []) ?_
      refine oS 33 (λE=>?_) (λE=>?_)
      ·let O:Env:=((40,.bool (decide (fW .i64 (a+1) < (a0.length:Int))))::(39,.bool (decide (fW .i64 (a+1) < (a0.length:Int))))::(38,.bool (decide (fW .i64 (a+1) < (a0.length:Int))))::(37,.i (a0.length:Int))::(36,w34 a0)::(35,.i (fW .i64 (a+1)))::(34,.i a)::(33,.bool true)::T)
       refine oR 7 (atN 28 (ctl1 g20p6)) O ?_
       refine oS 40 (λE=>?_) (λE=>?_)
       ·refine oR 3 (atN 31 (ctl1 g20p6)) ((43,.i (fW .i64 (a+1)))::(42,.i a)::(41,w34 a0)::(40,.bool true)::O) ?_
        refine oC (λ(b:S33)=>(.vptr [.i b.f0,.str b.f1,.i b.f2],(mkH []))) (atN 32 (ctl1 g20p6)) 44 (vidxH (sz:=3) qAf Kr) λb Z=>?_
        let U:Env:=((49,.bool (decide (b.f0=9)))::(48,.bool (decide (b.f0=9)))::(47,.bool (decide (b.f0=9)))::(46,.i b.f0)::(45,.vptr [.i b.f0,.str b.f1,.i b.f2])::(44,.vptr [.i b.f0,.str b.f1,.i b.f2])::(43,.i (fW .i64 (a+1)))::(42,.i a)::(41,w34 a0)::(40,.bool true)::O)
        refine oH 5 (atN 37 (ctl1 g20p6)) U (mkH []) ?_
        refine oS 49 (λE=>?_) (λE=>?_)
        ·refine oR 3 (atN 40 (ctl1 g20p6)) ((52,.i (fW .i64 (a+1)))::(51,.i a)::(50,w34 a0)::(49,.bool true)::U) ?_
         refine oC (λ(x:S33)=>(.vptr [.i x.f0,.str x.f1,.i x.f2],(mkH []))) (atN 41 (ctl1 g20p6)) 53 (vidxH (sz:=3) qAf Kr) λx a1=>?_
         refine oLH 7 g20p8 [(0,w34 a0),(3,.i c),(4,.i g),(5,.i a),(12,.bool (eqL x.f1 [40]))] (mkH []) ?_
         exact J (eqL x.f1 [40],c,g,a)
        ·refine oL 11 g20p8 [(0,w34 a0),(3,.i c),(4,.i g),(5,.i a),(12,.bool false)] ?_
         exact J (false,c,g,a)
       ·refine oL 20 g20p8 [(0,w34 a0),(3,.i c),(4,.i g),(5,.i a),(12,.bool false)] ?_
        exact J (false,c,g,a)
      ·refine oL 27 g20p8 [(0,w34 a0),(3,.i c),(4,.i g),(5,.i a),(12,.bool false)] ?_
       exact J (false,c,g,a)
     ·refine oL 35 g20p8 [(0,w34 a0),(3,.i c),(4,.i g),(5,.i a),(12,.bool false)] ?_
      exact J (false,c,g,a)
  ·exact oQ 8
def g20 (k:Nat) (a0:List S33):Option Int :=
 qGa k a0 k 0 0 0
theorem g20_ok (k:Nat) (a0:List S33) (r:Int) (h:g20 k a0=some r):PureOk Try.prog 20 [w34 a0] (.i r):=by
 refine qA4 Xg20 (λ_=>⟨rfl,rfl⟩) Try.func20 (by decide +kernel) Kr (t:=g20 k a0) ?_ h
 unfold g20
 refine qA (eE:=[(0,w34 a0)]) Kr ?_
 refine oLH 16 g20p3 [(0,w34 a0),(3,.i 0),(4,.i 0),(5,.i 0)] (mkH []) ?_
 exact (qS6 k a0 k) 0 0 0
end
theorem told_k (k:Nat):g16 (k+400)=some true:=by kernel_rfl
theorem qGo {k:Nat} (hk:400≤k):g16 k=some true:=by
 obtain ⟨j,rfl⟩:∃ j,k=j+400:=⟨k - 400,by omega⟩
 exact told_k j
def vwl (s:LN) (l:List (Nat×Nat×Nat)):List Tkn:=l.zipIdx.map λp=>(mkTok s p.1,((gapI s l (p.2:Int):Nat):Int))
theorem qE9 (s:LN) (l:List (Nat×Nat×Nat)):(vwl s l).length=l.length:=by simp [vwl]
theorem qK4 {s:LN} {l:List (Nat×Nat×Nat)} {i:Nat} {t:Tkn} (h:(vwl s l)[i]? = some t):∃ x,l[i]? = some x∧t=(mkTok s x,((gapI s l (i:Int):Nat):Int)):=by
 unfold vwl at h
 rw [List.getElem?_map,List.getElem?_zipIdx] at h
 cases e:l[i]? with
 | none=>rw [e] at h; cases h
 | some x =>
  rw [e] at h
  refine ⟨x,rfl,?_⟩
  simp at h
  exact h.symm
theorem tk_at {s:LN} {l:List (Nat×Nat×Nat)} {i:Nat} {t:Tkn} (h:(vwl s l)[i]? = some t):nthL (l.map (mkTok s)) (i:Int)=some t.1:=by
 obtain ⟨x,e,rfl⟩:=qK4 h
 unfold nthL
 rw [if_pos (by omega),Int.toNat_natCast,List.getElem?_map,e]
 rfl
theorem l_len {s:LN} {l:List (Nat×Nat×Nat)} (ht:Toks s 0 l):l.length≤s.length:=qHu s (s.length+1) 0 l ((qF3 s (s.length+1) 0 l (by omega)).2 ht) (Nat.zero_le _)
theorem qP3 {s:LN} {l:List (Nat×Nat×Nat)} (ht:Toks s 0 l) (hl:s.length≤400) {k:Nat} (hk:1000≤k):Vw k s (l.map (mkTok s)) ((l.map (mkTok s)).length:Int) (vwl s l):=by
 have:=l_len ht
 refine ⟨by rw [qE9,List.length_map],λi t h=>⟨tk_at h,?_⟩,?_,by rw [qE9]; omega,by rw [qE9]; omega⟩
 ·obtain ⟨x,e,rfl⟩:=qK4 h
  exact qSh (by omega) (by omega) ht (i:Int)
 ·rw [qSh (by omega) (by omega) ht]
  have:gapI s l ((l.map (mkTok s)).length:Int)=0:=by
   unfold gapI
   rw [if_neg (by rw [List.length_map]; omega)]
  rw [this]; rfl
theorem vwl_good {s:LN} {l:List (Nat×Nat×Nat)} (ht:Toks s 0 l) (hl:s.length≤400):Gud (vwl s l):=by
 intro t h
 obtain ⟨i,hi,e⟩:=List.getElem_of_mem h
 obtain ⟨x,e1,rfl⟩:=qK4 (by rw [List.getElem?_eq_getElem hi,e])
 have hb:=qC8 ht (Nat.zero_le _) x (List.mem_of_getElem? e1)
 have:((s.drop x.2.1).take x.2.2).length=x.2.2:=by rw [List.length_take,List.length_drop]; omega
 show (s.drop x.2.1).take x.2.2 ≠ []∧((s.drop x.2.1).take x.2.2).length < 1000
 refine ⟨λe=>?_,by omega⟩
 rw [e] at this
 have:=hb.2.2
 simp at *
 omega
theorem expr_uni (G:Lg) {W:List Tkn} (hW:W.length≤400) (g:Gud W) (lv:Int):∃ r,(∀ K,1000≤K→(cpar K 4010).c5 lv W=some r)∧∀ x,r=some x→Uk false G [] W x:=by
 obtain ⟨r,e,h⟩:=(al G (K:=1000) (Nat.le_refl _) 4010).c5 lv W hW g (by omega)
 exact ⟨r,λK hK=>(cpar_m 4010 4010 hK (Nat.le_refl _)).c5 lv W r e,h⟩
theorem qSd {k n:Nat} {s:LN} {L:List S33} {W:List Tkn} {lv:Int} (hv:∀ j,Vw (k+j) s L (L.length:Int) W) (h:(cpar k n).c5 lv W=some none):g14 (k+n) s L 0 (L.length:Int) lv=some (⟨0,[],⟨0,[]⟩,false,false,[],[]⟩,0,8):=by
 obtain ⟨h1,-⟩:=(qA9 hv n).c5 lv W (List.suffix_refl W) _ h
 rw [qPt (hv 0)] at h1
 have h2:i3 (k+n) lv 0 [] ⟨0,[]⟩ false false [] [] s L 0 (L.length:Int)=some none:=by
  unfold i3
  refine (congrArg (λm=>bT m _) h1).trans rfl
 unfold g14
 refine bS (a:=(0,8,[],[],0,[],⟨0,[]⟩,false,false)) ?_ (bS rfl rfl)
 unfold i0
 exact (jS (v:=false) (λj=>iF (by decide) (iF (dF (by omega)) (by rw [dF (by omega)])))).trans (iF rfl (cT_none h2 rfl))
theorem qSy {k : Nat} {L : LL} {s : LN} (hl : L.length < 100) : ∀ n j : Nat, L.length - j < n → j ≤ L.length → ∃ b, qG6 k L s n (j : Int) = some b
 | 0,j,h,hj=>by omega
 | n+1,j,h,hj=>by
  rw [g56_l1_s]
  have:Val (if (decide ((j:Int) < (L.length:Int))) then ((nthL L (j:Int)).bind λx0_2=>if (eqL x0_2 s) then (some true) else ((qG6 k L s n) (fW .i64 ((j:Int)+1)))) else (some false)) λ_=>True:=by
   refine vI (λe=>?_) (λ_=>vS trivial)
   have hj':j < L.length:=by have:=of_decide_eq_true e; omega
   refine vE (nthLi hj') (vI (λ_=>vS trivial) λ_=>?_)
   rw [fw_s (by omega)]
   obtain ⟨b,e⟩:=qSy hl n (j+1) (by omega) (by omega)
   exact ⟨b,e,trivial⟩
  obtain ⟨b,e,-⟩:=this
  exact ⟨b,e⟩
theorem mem_V {k:Nat} {L:LL} (s:LN) (hl:L.length < 50) (hk:60≤k):Val (g56 k L s) λ_=>True:=by
 obtain ⟨b,e⟩:=qSy (k:=k) (s:=s) (by omega:L.length < 100) k 0 (by omega) (by omega)
 exact ⟨b,e,trivial⟩
theorem opens_V {k:Nat} (hk:60≤k) (t:S33):Val (g32 k t) λ_=>True:=by
 unfold g32
 have w:Val ((g56 k g32c3 t.f1).bind λx0_17=>some x0_17) λ_=>True:=vB (mem_V t.f1 (by decide) hk) λb _=>vS trivial
 exact vI (λ_=>vB (mem_V t.f1 (by decide) hk) λb _=>vI (λ_=>vS trivial) λ_=>vI (λ_=>w) λ_=>vS trivial) λ_=>vI (λ_=>w) λ_=>vS trivial
theorem closes_V {k:Nat} (hk:60≤k) (t:S33):Val (g33 k t) λ_=>True:=by
 unfold g33
 exact vI (λ_=>vB (mem_V t.f1 (by decide) hk) λb _=>vI (λ_=>vS trivial) λ_=>vI (λ_=>vS trivial) λ_=>vS trivial) λ_=>vI (λ_=>vS trivial) λ_=>vS trivial
theorem deep_l {k : Nat} (hk : 60 ≤ k) {L : List S33} (hl : L.length < 100000) : ∀ (f i : Nat) (n m : Int), L.length - i < f → i ≤ L.length → Val (qGa k L f n m (i : Int)) λ_ => True
 | 0,i,n,m,h,hi=>by omega
 | f+1,i,n,m,h,hi=>by
  rw [g20_l2_s]
  refine vI (λe=>?_) (λ_=>vS trivial)
  have hi':i < L.length:=by have:=of_decide_eq_true e; omega
  have tl:=nthLi hi'
  refine vE tl (vB (opens_V hk _) λb _=>vJ (J:=λz=>z.2.2.2=(i:Int)) (λz hz=>vJ (J:=λy=>y.2.2=(i:Int)) (λy hy=>?_) λj4 h4=>?_) λj3 h3=>?_)
  ·obtain ⟨y1,y2,y3⟩:=y
   have hy:y3=(i:Int):=hy
   subst hy
   show Val (qGa k L f _ _ (fW .i64 ((i:Int)+1))) _
   rw [fw_s (by omega)]
   exact deep_l hk hl f (i+1) _ _ (by omega) (by omega)
  ·obtain ⟨z1,z2,z3,z4⟩:=z
   have hz:z4=(i:Int):=hz
   subst hz
   refine vI (λ_=>h4 _ rfl) λ_=>vE tl (vB (closes_V hk _) λb _=>vJ (J:=λy=>y.2.2.1=(i:Int)) (λy hy=>vI (λ_=>h4 _ hy) λ_=>h4 _ hy) λj5 h5=>vI (λ_=>h5 _ rfl) λ_=>h5 _ rfl)
  ·refine vI (λ_=>h3 _ rfl) λ_=>vE tl (vI (λ_=>vE tl (vI (λ_=>vI (λe2=>?_) λ_=>h3 _ rfl) λ_=>h3 _ rfl)) λ_=>h3 _ rfl)
   rw [fw_s (by omega)] at e2
   have h1:i+1 < L.length:=by have:=of_decide_eq_true e2; omega
   have t2:=nthLi h1
   rw [fw_s (by omega)]
   exact vE t2 (vI (λ_=>vE t2 (h3 _ rfl)) λ_=>h3 _ rfl)
theorem deep_V {k:Nat} {L:List S33} (hk:1000≤k) (hl:L.length < 900):∃ v,g20 k L=some v:=by
 obtain ⟨v,e,-⟩:=deep_l (k:=k) (by omega) (L:=L) (by omega) k 0 0 0 (by omega) (by omega)
 exact ⟨v,e⟩
end Go.Proofs.Ythpplbkobokghaa.Am
set_option maxRecDepth 100000
set_option linter.unusedVariables false
namespace Go.Proofs.Ythpplbkobokghaa.Am
noncomputable section
open Go
def Xg7:Fx Bool:=⟨Try.prog,cx,Try.f7,λr => .bool r,0,λ_=>H0,cxTi,cxOrd,λ_=>none,false⟩
def g7p2:Pt:=nav [0,0] (nav [0,0,0,0] (nav [0] (bodyAt Try.f7)))
def g7p3:Pt:=nav [1,0] g7p2
def g7p4:Pt:=nav [2,0,0] g7p2
def g7p6:Pt:=nav [0,0,0,0] g7p4
def g7p7:Pt:=nav [0,0] g7p6
def g7p8:Pt:=nav [1,0] g7p7
def g7p9:Pt:=nav [2,0,0] g7p7
def g7p10:Pt:=nav [0,0,0,0] g7p9
def g7p11:Pt:=nav [0,0] g7p10
def g7p12:Pt:=nav [1,0] g7p11
def g7p13:Pt:=nav [2,0,0] g7p11
def g7p15:Pt:=nav [0,0,0,0] (nav [0,0,0,0] g7p13)
def g7p16:Pt:=nav [0,0,0] g7p15
def g7p17:Pt:=nav [0,0] g7p16
def g7p18:Pt:=nav [1,0,0,0,0,0] g7p17
def g7p19:Pt:=nav [2,0,0] g7p17
def g7p20:Pt:=nav [0,0] g7p18
def g7p21:Pt:=nav [0,0,0,0] g7p19
def g7p22:Pt:=nav [1,0] g7p20
def g7p23:Pt:=nav [2,0] g7p20
def g7p24:Pt:=nav [0,0] g7p21
def g7p25:Pt:=nav [0,0] g7p23
def g7p28:Pt:=nav [1] g7p25
def g7p29:Pt:=nav [2,0] g7p25
def g7p30:Pt:=nav [0,0,0,0] (nav [2,0,0,0] g7p24)
def g7p32:Pt:=nav [0,0] (nav [0,0,0] g7p30)
def g7p33:Pt:=nav [1,0,0,0,0] g7p32
def g7p34:Pt:=nav [2,0,0] g7p32
def g7d0:DP:=⟨[],[(0,0,0),(0,0,0),(3,0,0),(7,0,0),(0,0,0),(0,0,0),(48,0,0),(112,0,0),(255,0,0)],9,thrown,[],H0⟩
def qKm (k:Nat)  (o:(S28×Int×Int)) (c:LL) (ih:LL→Int→Option Bool):LL→Int→Option Bool :=
 λ(b:LL) (a:Int)=>if (decide (a < (c.length:Int))) then ((nthL c a).bind λg=>(idxO b a).bind λh=>(getO b h).bind λj=>if (!(eqL g j)) then (some false) else (ih b (fW .i64 (a+1)))) else ((g16 k).bind λn=>some n)
def qG4 (k:Nat)  (a:(S28×Int×Int)) (b:LL) (n:Nat):LL→Int→Option Bool:=lp (λ_ _=>none) (qKm k a b) n
theorem g7_l17_s (k:Nat)  (g:(S28×Int×Int)) (c:LL) (n:Nat) (b:LL) (a:Int):qG4 k g c (n+1) b a=(if (decide (a < (c.length:Int))) then ((nthL c a).bind λh=>(idxO b a).bind λj=>(getO b j).bind λo=>if (!(eqL h o)) then (some false) else ((qG4 k g c n) b (fW .i64 (a+1)))) else ((g16 k).bind λq=>some q)):=rfl
theorem qRi (k:Nat)   (c:(S28×Int×Int)) (g:LL)  : ∀ (n:Nat) (b:LL) (a:Int),Ok Xg7 g7p30 [(8,.own 1 (b).length 1),(10,w9 g),(11,.i a)] (mkH [⟨[.i c.1.f0,.str c.1.f1,q29 c.1.f2,.bool c.1.f3,.bool c.1.f4,w9 c.1.f5,w9 c.1.f6],7,false⟩,⟨(b).flatMap e9,0,false⟩]) (qG4 k c g n b a):=by
 intro n
 induction n with
 | zero=>intro b a; exact ok_none
 | succ n ih =>
  intro b a
  show Ok _ _ _ _ (qKm k c g (qG4 k c g n) b a)
  unfold qKm
  refine qAh (p':=nav [0] g7p30) Kr ?_
  let J:Env:=[(118,.bool (decide (a < (g.length:Int)))),(117,.i (g.length:Int)),(116,w9 g),(115,.i a),(8,.own 1 (b).length 1),(10,w9 g),(11,.i a)]
  let K:Blk:=⟨(b).flatMap e9,0,false⟩
  refine oH 8 g7p32 J (mkH [⟨e29 c.1,7,false⟩,K]) ?_
  refine oS 118 (λN=>?_) (λN=>?_)
  ·refine oR 5 g7p33 ((118,.bool true)::J) ?_
   refine qA8 (λh u=>?_)
   refine qA8 (λo z=>?_)
   refine qA8 (λj D=>?_)
   let E:Env:=[(122,.i a),(121,w9 g),(118,.bool true),(118,.bool (decide (a < (g.length:Int)))),(117,.i (g.length:Int)),(116,w9 g),(115,.i a),(8,.own 1 (b).length 1),(10,w9 g),(11,.i a)]
   let I:Env:=((127,.ptr 1 ((b).length * 1) (o * 1))::(126,.i a)::(125,.own 1 (b).length 1)::(124,.str h)::(123,.vptr [.str h])::E)
   refine oD (H':=(mkH [⟨e29 c.1,7,false⟩,K])) (nav [0] g7p33) ((129,.bool (!(eqL h j)))::(128,.str j)::I) [] g7d0 (oDr 2 2 E (qAb (l':=(opsAt g7p33).toList.drop 3) (eE:=((123,.vptr [.str h])::E)) (hs:=[]) (x:=h) (λ(h:LN)=>(.vptr [.str h],(mkH [⟨e29 c.1,7,false⟩,K]))) (vidxH (sz:=1) qBw Kr) u Kr (oDr 3 6 ((126,.i a)::(125,.own 1 (b).length 1)::(124,.str h)::(123,.vptr [.str h])::E) (qAb (l':=(opsAt g7p33).toList.drop 7) (eE:=I) (hs:=[]) (x:=o) (λ(o:Nat)=>(.ptr 1 ((b).length * 1) (o * 1),(mkH [⟨e29 c.1,7,false⟩,K]))) (oidxH (sz:=1) Kr) z Kr (qAb (l':=(opsAt g7p33).toList.drop 8) (eE:=((128,.str j)::I)) (hs:=[]) (x:=j) (λ(j:LN)=>(.str j,(mkH [⟨e29 c.1,7,false⟩,K]))) (oloadH (v:=v9) (λ_=>rfl) [⟨e29 c.1,7,false⟩,K] 1 _ rfl rfl (by first | exact Nat.le_refl _ | exact Nat.zero_le _) Kr) D Kr (oDr 1 9 ((129,.bool (!(eqL h j)))::(128,.str j)::I) .nil)))))) ?_
   refine oS 129 (λN=>?_) (λN=>?_)
   ·exact oQ 6
   ·refine oL 7 g7p30 [(8,.own 1 (b).length 1),(10,w9 g),(11,.i (fW .i64 (a+1)))] ?_
    exact ih b (fW .i64 (a+1))
  ·refine oR 4 (atN 0 (ctl1 g7p34)) ((118,.bool false)::J) ?_
   refine oA (λ(q:Bool) => .bool q) (atN 1 (ctl1 g7p34)) 130 [] (qJs k ) λq M=>?_
   exact oQ 3
def qKn (k:Nat)  (b:((List S33)×Int)) (j:(S28×Int×Int)) (ih:Int→LL→Option Bool):Int→LL→Option Bool :=
 λ(c:Int) (n:LL)=>jn (λ(a:Bool×Int×LL)=>if a.1 then ((nthL b.1 a.2.1).bind λD=>jn (λ(g:Bool×Int×LL)=>if g.1 then ((g16 k).bind λE=>some E) else ((nthL b.1 g.2.1).bind λI=>jn (λ(h:Bool×Int×LL)=>jn (λ(J:LL×Int)=>ih (fW .i64 (J.2+1)) J.1) (λK=>if h.1 then ((nthL b.1 h.2.1).bind λq=>(appS 16 h.2.2 ([q.f1]:LL)).bind λu=>K (u,h.2.1)) else (K (h.2.2,h.2.1)))) (λM=>if (decide (1≤I.f0)) then ((nthL b.1 g.2.1).bind λN=>M (decide (N.f0≤7),g.2.1,g.2.2)) else (M (false,g.2.1,g.2.2))))) (λx=>if (eqL D.f1 [35]) then (x (true,a.2.1,a.2.2)) else ((nthL b.1 a.2.1).bind λO=>if (eqL O.f1 [102,117,110]) then (x (true,a.2.1,a.2.2)) else ((nthL b.1 a.2.1).bind λz=>x (eqL z.f1 [60,60],a.2.1,a.2.2))))) else ((g21 k j.1).bind λo=>if (!decide ((o.length:Int)=(a.2.2.length:Int))) then (some false) else (qG4 k j o k a.2.2 0))) (λQ=>if (decide (c < j.2.1)) then (Q (decide (c < (b.1.length:Int)),c,n)) else (Q (false,c,n)))
def qEu (k:Nat)  (a:((List S33)×Int)) (b:(S28×Int×Int)) (n:Nat):Int→LL→Option Bool:=lp (λ_ _=>none) (qKn k a b) n
theorem qN5 (k:Nat)  (a:((List S33)×Int)) (g:(S28×Int×Int)) (n:Nat) (c:Int) (h:LL):qEu k a g (n+1) c h=(jn (λ(b:Bool×Int×LL)=>if b.1 then ((nthL a.1 b.2.1).bind λE=>jn (λ(j:Bool×Int×LL)=>if j.1 then ((g16 k).bind λI=>some I) else ((nthL a.1 j.2.1).bind λJ=>jn (λ(o:Bool×Int×LL)=>jn (λ(K:LL×Int)=>(qEu k a g n) (fW .i64 (K.2+1)) K.1) (λM=>if o.1 then ((nthL a.1 o.2.1).bind λu=>(appS 16 o.2.2 ([u.f1]:LL)).bind λx=>M (x,o.2.1)) else (M (o.2.2,o.2.1)))) (λN=>if (decide (1≤J.f0)) then ((nthL a.1 j.2.1).bind λO=>N (decide (O.f0≤7),j.2.1,j.2.2)) else (N (false,j.2.1,j.2.2))))) (λz=>if (eqL E.f1 [35]) then (z (true,b.2.1,b.2.2)) else ((nthL a.1 b.2.1).bind λQ=>if (eqL Q.f1 [102,117,110]) then (z (true,b.2.1,b.2.2)) else ((nthL a.1 b.2.1).bind λD=>z (eqL D.f1 [60,60],b.2.1,b.2.2))))) else ((g21 k g.1).bind λq=>if (!decide ((q.length:Int)=(b.2.2.length:Int))) then (some false) else (qG4 k g q k b.2.2 0))) (λS=>if (decide (c < g.2.1)) then (S (decide (c < (a.1.length:Int)),c,h)) else (S (false,c,h)))):=rfl
theorem qRj (k:Nat)   (b:((List S33)×Int)) (a:(S28×Int×Int))  : ∀ (n:Nat) (g:Int) (h:LL),Ok Xg7 g7p15 [(3,w34 b.1),(5,.ptr 0 7 0),(6,.i a.2.1),(8,.own 1 (h).length 1),(9,.i g)] (mkH [⟨[.i a.1.f0,.str a.1.f1,q29 a.1.f2,.bool a.1.f3,.bool a.1.f4,w9 a.1.f5,w9 a.1.f6],7,false⟩,⟨(h).flatMap e9,0,false⟩]) (qEu k b a n g h):=by
 intro n
 induction n with
 | zero=>intro g h; exact ok_none
 | succ n ih =>
  intro g h
  show Ok _ _ _ _ (qKn k b a (qEu k b a n) g h)
  unfold qKn
  refine qAh (p':=nav [0] g7p15) Kr ?_
  let Q1:Blk:=⟨(h).flatMap e9,0,false⟩
  refine oH 7 (atN 4 (ctl1 g7p16)) [(53,.bool (decide (g < a.2.1))),(52,.bool (decide (g < a.2.1))),(51,.i a.2.1),(50,.i g),(3,w34 b.1),(5,.ptr 0 7 0),(6,.i a.2.1),(8,.own 1 (h).length 1),(9,.i g)] (mkH [⟨e29 a.1,7,false⟩,Q1]) ?_
  refine oJ g7p17 (λ(c:Bool×Int×LL)=>[(3,w34 b.1),(5,.ptr 0 7 0),(6,.i a.2.1),(8,.own 1 (c.2.2).length 1),(9,.i c.2.1),(58,.bool c.1)]) (λ(c:Bool×Int×LL)=>(mkH [⟨e29 a.1,7,false⟩,⟨(c.2.2).flatMap e9,0,false⟩])) (λc=>?_) (λb8 Q=>?_)
  ·refine oS 58 (λM=>?_) (λM=>?_)
   ·let a0:Env:=[(63,.i c.2.1),(62,w34 b.1),(58,.bool true),(3,w34 b.1),(5,.ptr 0 7 0),(6,.i a.2.1),(8,.own 1 (c.2.2).length 1),(9,.i c.2.1),(58,.bool c.1)]
    let O:Blk:=⟨(c.2.2).flatMap e9,0,false⟩
    refine oH 9 (atN 2 (ctl1 g7p18)) a0 (mkH [⟨e29 a.1,7,false⟩,O]) ?_
    refine oC (λ(z:S33)=>(.vptr [.i z.f0,.str z.f1,.i z.f2],(mkH [⟨e29 a.1,7,false⟩,O]))) (atN 3 (ctl1 g7p18)) 64 (vidxH (sz:=3) qAf Kr) λz b1=>?_
    let Y:Env:=((68,.bool (eqL z.f1 [35]))::(67,.bool (eqL z.f1 [35]))::(66,.str z.f1)::(65,.vptr [.str z.f1,.i z.f2])::(64,.vptr [.i z.f0,.str z.f1,.i z.f2])::a0)
    refine oH 4 (atN 7 (ctl1 g7p18)) Y (mkH [⟨e29 a.1,7,false⟩,O]) ?_
    refine oJ g7p20 (λ(o:Bool×Int×LL)=>[(3,w34 b.1),(5,.ptr 0 7 0),(6,.i a.2.1),(8,.own 1 (o.2.2).length 1),(9,.i o.2.1),(61,.bool o.1)]) (λ(o:Bool×Int×LL)=>(mkH [⟨e29 a.1,7,false⟩,⟨(o.2.2).flatMap e9,0,false⟩])) (λo=>?_) (λb9 N=>?_)
    ·refine oS 61 (λM=>?_) (λM=>?_)
     ·refine oH 3 (atN 0 (ctl1 g7p22)) [(61,.bool true),(3,w34 b.1),(5,.ptr 0 7 0),(6,.i a.2.1),(8,.own 1 (o.2.2).length 1),(9,.i o.2.1),(61,.bool o.1)] (mkH [⟨e29 a.1,7,false⟩,⟨(o.2.2).flatMap e9,0,false⟩]) ?_
      refine oA (λ(S:Bool) => .bool S) (atN 1 (ctl1 g7p22)) 84 [] (qJs k ) λS b2=>?_
      exact oQ 3
     ·let a1:Env:=[(87,.i o.2.1),(86,w34 b.1),(61,.bool false),(3,w34 b.1),(5,.ptr 0 7 0),(6,.i a.2.1),(8,.own 1 (o.2.2).length 1),(9,.i o.2.1),(61,.bool o.1)]
      let Z:Blk:=⟨(o.2.2).flatMap e9,0,false⟩
      refine oH 5 (atN 2 (ctl1 g7p23)) a1 (mkH [⟨e29 a.1,7,false⟩,Z]) ?_
      refine oC (λ(q:S33)=>(.vptr [.i q.f0,.str q.f1,.i q.f2],(mkH [⟨e29 a.1,7,false⟩,Z]))) (atN 3 (ctl1 g7p23)) 88 (vidxH (sz:=3) qAf Kr) λq b3=>?_
      let a2:Env:=((92,.bool (decide (1≤q.f0)))::(91,.bool (decide (1≤q.f0)))::(90,.i q.f0)::(89,.vptr [.i q.f0,.str q.f1,.i q.f2])::(88,.vptr [.i q.f0,.str q.f1,.i q.f2])::a1)
      refine oH 4 (atN 7 (ctl1 g7p23)) a2 (mkH [⟨e29 a.1,7,false⟩,Z]) ?_
      refine oJ g7p25 (λ(u:Bool×Int×LL)=>[(3,w34 b.1),(5,.ptr 0 7 0),(6,.i a.2.1),(8,.own 1 (u.2.2).length 1),(9,.i u.2.1),(85,.bool u.1)]) (λ(u:Bool×Int×LL)=>(mkH [⟨e29 a.1,7,false⟩,⟨(u.2.2).flatMap e9,0,false⟩])) (λu=>?_) (λc0 T=>?_)
      ·refine oJ g7p29 (λ(J:LL×Int)=>[(3,w34 b.1),(5,.ptr 0 7 0),(6,.i a.2.1),(8,.own 1 (J.1).length 1),(9,.i J.2)]) (λ(J:LL×Int)=>(mkH [⟨e29 a.1,7,false⟩,⟨(J.1).flatMap e9,0,false⟩])) (λJ=>?_) (λc1 U=>?_)
       ·refine oLH 5 g7p15 [(3,w34 b.1),(5,.ptr 0 7 0),(6,.i a.2.1),(8,.own 1 (J.1).length 1),(9,.i (fW .i64 (J.2+1)))] (mkH [⟨e29 a.1,7,false⟩,⟨(J.1).flatMap e9,0,false⟩]) ?_
        exact ih (fW .i64 (J.2+1)) J.1
       ·refine oS 85 (λM=>?_) (λM=>?_)
        ·let a3:Env:=[(102,.i u.2.1),(101,w34 b.1),(100,.own 1 (u.2.2).length 1),(85,.bool true),(3,w34 b.1),(5,.ptr 0 7 0),(6,.i a.2.1),(8,.own 1 (u.2.2).length 1),(9,.i u.2.1),(85,.bool u.1)]
         let Q4:Blk:=⟨(u.2.2).flatMap e9,0,false⟩
         refine oH 5 (atN 3 (ctl1 g7p28)) a3 (mkH [⟨e29 a.1,7,false⟩,Q4]) ?_
         refine oC (λ(j:S33)=>(.vptr [.i j.f0,.str j.f1,.i j.f2],(mkH [⟨e29 a.1,7,false⟩,Q4]))) (atN 4 (ctl1 g7p28)) 103 (vidxH (sz:=3) qAf Kr) λj a7=>?_
         let Q5:Blk:=⟨[.str j.f1],0,false⟩
         refine oH 3 (atN 7 (ctl1 g7p28)) ((106,.slice 2 1 0 1 1)::(105,.str j.f1)::(104,.vptr [.str j.f1,.i j.f2])::(103,.vptr [.i j.f0,.str j.f1,.i j.f2])::a3) (mkH [⟨e29 a.1,7,false⟩,Q4,Q5]) ?_
         refine oC (λ(E:LL)=>(.own 1 (E).length 1,(mkH [⟨e29 a.1,7,false⟩,⟨(E).flatMap e9,0,false⟩,Q5]))) (atN 8 (ctl1 g7p28)) 107 (appH (sz:=1) qBw rfl qNl [⟨e29 a.1,7,false⟩,Q4,Q5] 1 16 u.2.2 ([j.f1]:LL) rfl rfl Kr) λE a8=>?_
         let Q6:Blk:=⟨(E).flatMap e9,0,false⟩
         refine oLH 2 g7p29 [(3,w34 b.1),(5,.ptr 0 7 0),(6,.i a.2.1),(8,.own 1 (E).length 1),(9,.i u.2.1)] (mkH [⟨e29 a.1,7,false⟩,Q6,Q5]) ?_
         refine qAg [⟨e29 a.1,7,false⟩,Q6] [Q5] Kr rfl Kr ⟨Kr,⟨(qA3 _ (u9 _)),trivial⟩⟩ ?_
         exact U (E,u.2.1)
        ·refine oLH 2 g7p29 [(3,w34 b.1),(5,.ptr 0 7 0),(6,.i a.2.1),(8,.own 1 (u.2.2).length 1),(9,.i u.2.1)] (mkH [⟨e29 a.1,7,false⟩,⟨(u.2.2).flatMap e9,0,false⟩]) ?_
         exact U (u.2.2,u.2.1)
      ·refine oS 92 (λM=>?_) (λM=>?_)
       ·refine oH 2 (atN 9 (ctl1 g7p23)) ((94,.i o.2.1)::(93,w34 b.1)::(92,.bool true)::a2) (mkH [⟨e29 a.1,7,false⟩,Z]) ?_
        refine oC (λ(K:S33)=>(.vptr [.i K.f0,.str K.f1,.i K.f2],(mkH [⟨e29 a.1,7,false⟩,Z]))) (atN 10 (ctl1 g7p23)) 95 (vidxH (sz:=3) qAf Kr) λK b4=>?_
        refine oLH 6 g7p25 [(3,w34 b.1),(5,.ptr 0 7 0),(6,.i a.2.1),(8,.own 1 (o.2.2).length 1),(9,.i o.2.1),(85,.bool (decide (K.f0≤7)))] (mkH [⟨e29 a.1,7,false⟩,Z]) ?_
        exact T (decide (K.f0≤7),o.2.1,o.2.2)
       ·refine oLH 9 g7p25 [(3,w34 b.1),(5,.ptr 0 7 0),(6,.i a.2.1),(8,.own 1 (o.2.2).length 1),(9,.i o.2.1),(85,.bool false)] (mkH [⟨e29 a.1,7,false⟩,Z]) ?_
        exact T (false,o.2.1,o.2.2)
    ·refine oS 68 (λM=>?_) (λM=>?_)
     ·refine oLH 17 g7p20 [(3,w34 b.1),(5,.ptr 0 7 0),(6,.i a.2.1),(8,.own 1 (c.2.2).length 1),(9,.i c.2.1),(61,.bool true)] (mkH [⟨e29 a.1,7,false⟩,O]) ?_
      exact N (true,c.2.1,c.2.2)
     ·refine oH 2 (atN 9 (ctl1 g7p18)) ((70,.i c.2.1)::(69,w34 b.1)::(68,.bool false)::Y) (mkH [⟨e29 a.1,7,false⟩,O]) ?_
      refine oC (λ(x:S33)=>(.vptr [.i x.f0,.str x.f1,.i x.f2],(mkH [⟨e29 a.1,7,false⟩,O]))) (atN 10 (ctl1 g7p18)) 71 (vidxH (sz:=3) qAf Kr) λx b5=>?_
      let a5:Env:=((76,.bool (eqL x.f1 [102,117,110]))::(75,.bool (eqL x.f1 [102,117,110]))::(74,.bool (eqL x.f1 [102,117,110]))::(73,.str x.f1)::(72,.vptr [.str x.f1,.i x.f2])::(71,.vptr [.i x.f0,.str x.f1,.i x.f2])::(70,.i c.2.1)::(69,w34 b.1)::(68,.bool false)::Y)
      refine oH 5 (atN 15 (ctl1 g7p18)) a5 (mkH [⟨e29 a.1,7,false⟩,O]) ?_
      refine oS 76 (λM=>?_) (λM=>?_)
      ·refine oL 9 g7p20 [(3,w34 b.1),(5,.ptr 0 7 0),(6,.i a.2.1),(8,.own 1 (c.2.2).length 1),(9,.i c.2.1),(61,.bool true)] ?_
       exact N (true,c.2.1,c.2.2)
      ·refine oR 2 (atN 17 (ctl1 g7p18)) ((78,.i c.2.1)::(77,w34 b.1)::(76,.bool false)::a5) ?_
       refine oC (λ(I:S33)=>(.vptr [.i I.f0,.str I.f1,.i I.f2],(mkH [⟨e29 a.1,7,false⟩,O]))) (atN 18 (ctl1 g7p18)) 79 (vidxH (sz:=3) qAf Kr) λI a9=>?_
       refine oLH 6 g7p20 [(3,w34 b.1),(5,.ptr 0 7 0),(6,.i a.2.1),(8,.own 1 (c.2.2).length 1),(9,.i c.2.1),(61,.bool (eqL I.f1 [60,60]))] (mkH [⟨e29 a.1,7,false⟩,O]) ?_
       exact N (eqL I.f1 [60,60],c.2.1,c.2.2)
   ·refine oH 5 (atN 1 (ctl1 g7p19)) [(108,n29 a.1),(58,.bool false),(3,w34 b.1),(5,.ptr 0 7 0),(6,.i a.2.1),(8,.own 1 (c.2.2).length 1),(9,.i c.2.1),(58,.bool c.1)] (mkH [⟨e29 a.1,7,false⟩,⟨(c.2.2).flatMap e9,0,false⟩]) ?_
    refine oA (λ(D:LL)=>w9 D) (atN 2 (ctl1 g7p19)) 109 [n29 a.1] (g21_ok k a.1) λD b6=>?_
    refine oL 4 g7p21 [(8,.own 1 (c.2.2).length 1),(10,w9 D)] ?_
    refine oR 7 g7p24 ((114,.bool (!decide ((D.length:Int)=(c.2.2.length:Int))))::(113,.i (c.2.2.length:Int))::(112,.own 1 (c.2.2).length 1)::(111,.i (D.length:Int))::(110,w9 D)::[(8,.own 1 (c.2.2).length 1),(10,w9 D)]) ?_
    refine oS 114 (λM=>?_) (λM=>?_)
    ·exact oQ 6
    ·refine oL 9 g7p30 [(8,.own 1 (c.2.2).length 1),(10,w9 D),(11,.i 0)] ?_
     exact (qRi k a D k) c.2.2 0
  ·refine oS 53 (λM=>?_) (λM=>?_)
   ·refine oLH 6 g7p17 [(3,w34 b.1),(5,.ptr 0 7 0),(6,.i a.2.1),(8,.own 1 (h).length 1),(9,.i g),(58,.bool (decide (g < (b.1.length:Int))))] (mkH [⟨e29 a.1,7,false⟩,Q1]) ?_
    exact Q (decide (g < (b.1.length:Int)),g,h)
   ·refine oLH 6 g7p17 [(3,w34 b.1),(5,.ptr 0 7 0),(6,.i a.2.1),(8,.own 1 (h).length 1),(9,.i g),(58,.bool false)] (mkH [⟨e29 a.1,7,false⟩,Q1]) ?_
    exact Q (false,g,h)
def g7 (k:Nat) (a0:LN):Option Bool :=
 if (decide (400 < (a0.length:Int))) then ((g16 k).bind λc=>some c) else ((g13 k a0).bind λa=>jn (λ(o:Bool)=>if o then ((g16 k).bind λg=>some g) else ((g14 k a0 a.1 (0:Int) (a.1.length:Int) (0:Int)).bind λb=>if (!decide (b.2.2=0)) then ((g16 k).bind λh=>if h then (if (decide (b.2.1=0)) then (some (decide (b.1.f0=0))) else (some false)) else (some false)) else (qEu k a b k 0 ([]:LL)))) (λj=>if (!decide (a.2=0)) then (j true) else ((g20 k a.1).bind λn=>j (decide (100 < n)))))
theorem g7_ok (k:Nat) (a0:LN) (r:Bool) (h:g7 k a0=some r):PureOk Try.prog 7 [.str a0] (.bool r):=by
 refine qA4 Xg7 (λ_=>⟨rfl,rfl⟩) Try.func7 (by decide +kernel) Kr (t:=g7 k a0) ?_ h
 unfold g7
 refine qA (eE:=[(0,.str a0)]) Kr ?_
 let z:Env:=[(14,.bool (decide (400 < (a0.length:Int)))),(13,.i (a0.length:Int)),(12,.str a0),(2,.bool false),(0,.str a0)]
 refine oH 11 g7p2 z (mkH []) ?_
 refine oS 14 (λj=>?_) (λj=>?_)
 ·refine oR 3 (atN 0 (ctl1 g7p3)) ((14,.bool true)::z) ?_
  refine oA (λ(o:Bool) => .bool o) (atN 1 (ctl1 g7p3)) 15 [] (qJs k ) λo D=>?_
  exact oQ 3
 ·refine oR 5 (atN 1 (ctl1 g7p4)) ((17,.str a0)::(14,.bool false)::z) ?_
  refine oA (λ(a:((List S33)×Int)) => .tuple [w34 a.1,.i a.2]) (atN 2 (ctl1 g7p4)) 18 [.str a0] (g13_ok k a0) λa E=>?_
  let I:Env:=[(0,.str a0),(3,w34 a.1),(4,.i a.2)]
  refine oL 8 g7p6 I ?_
  refine oR 4 (atN 3 (ctl1 g7p6)) ((23,.bool (!decide (a.2=0)))::(22,.bool (!decide (a.2=0)))::(21,.i a.2)::I) ?_
  refine oJ g7p7 (λ(n:Bool)=>[(0,.str a0),(3,w34 a.1),(27,.bool n)]) (λ(n:Bool)=>(mkH [])) (λn=>?_) (λQ q=>?_)
  ·refine oS 27 (λj=>?_) (λj=>?_)
   ·refine oH 3 (atN 0 (ctl1 g7p8)) [(27,.bool true),(0,.str a0),(3,w34 a.1),(27,.bool n)] (mkH []) ?_
    refine oA (λ(u:Bool) => .bool u) (atN 1 (ctl1 g7p8)) 28 [] (qJs k ) λu J=>?_
    exact oQ 3
   ·refine oH 8 (atN 4 (ctl1 g7p9)) [(33,.i (a.1.length:Int)),(32,w34 a.1),(31,w34 a.1),(30,.str a0),(27,.bool false),(0,.str a0),(3,w34 a.1),(27,.bool n)] (mkH []) ?_
    refine oA (λ(b:(S28×Int×Int)) => .tuple [n29 b.1,.i b.2.1,.i b.2.2]) (atN 5 (ctl1 g7p9)) 34 [.str a0,w34 a.1,.i 0,.i (a.1.length:Int),.i 0] (qS7 k a0 a.1 (0:Int) (a.1.length:Int) (0:Int)) λb K=>?_
    let x:Env:=[(3,w34 a.1),(5,.ptr 0 7 0),(6,.i b.2.1),(7,.i b.2.2)]
    refine oLH 11 g7p10 x (mkH [⟨e29 b.1,7,false⟩]) ?_
    refine oR 4 g7p11 ((39,.bool (!decide (b.2.2=0)))::(38,.i b.2.2)::x) ?_
    refine oS 39 (λj=>?_) (λj=>?_)
    ·refine oR 3 (atN 0 (ctl1 g7p12)) ((39,.bool true)::(39,.bool (!decide (b.2.2=0)))::(38,.i b.2.2)::x) ?_
     refine oA (λ(c:Bool) => .bool c) (atN 1 (ctl1 g7p12)) 40 [] (qJs k ) λc M=>?_
     let O:Env:=((41,.bool c)::(40,.bool c)::(39,.bool true)::(39,.bool (!decide (b.2.2=0)))::(38,.i b.2.2)::x)
     refine oR 1 (atN 2 (ctl1 g7p12)) O ?_
     refine oS 41 (λj=>?_) (λj=>?_)
     ·refine oR 4 (atN 6 (ctl1 g7p12)) ((45,.bool (decide (b.2.1=0)))::(44,.bool (decide (b.2.1=0)))::(43,.bool (decide (b.2.1=0)))::(42,.i b.2.1)::(41,.bool true)::O) ?_
      refine oS 45 (λj=>?_) (λj=>?_)
      ·exact oQ 7
      ·exact oQ 7
     ·exact oQ 11
    ·refine oR 5 (atN 1 (ctl1 g7p13)) ((8,.nils)::(39,.bool false)::(39,.bool (!decide (b.2.2=0)))::(38,.i b.2.2)::x) ?_
     refine qEt [⟨e29 b.1,7,false⟩] 8 1 rfl Kr ?_
     refine oLH 8 g7p15 [(3,w34 a.1),(5,.ptr 0 7 0),(6,.i b.2.1),(8,.own 1 (([]:LL)).length 1),(9,.i 0)] (mkH [⟨e29 b.1,7,false⟩,⟨(([]:LL)).flatMap e9,0,false⟩]) ?_
     exact (qRj k a b k) 0 ([]:LL)
  ·refine oS 23 (λj=>?_) (λj=>?_)
   ·refine oLH 5 g7p7 [(0,.str a0),(3,w34 a.1),(27,.bool true)] (mkH []) ?_
    exact q true
   ·refine oH 1 (atN 4 (ctl1 g7p6)) ((24,w34 a.1)::(23,.bool false)::(23,.bool (!decide (a.2=0)))::(22,.bool (!decide (a.2=0)))::(21,.i a.2)::I) (mkH []) ?_
    refine oA (λ(g:Int) => .i g) (atN 5 (ctl1 g7p6)) 25 [w34 a.1] (g20_ok k a.1) λg N=>?_
    refine oL 3 g7p7 [(0,.str a0),(3,w34 a.1),(27,.bool (decide (100 < g)))] ?_
    exact q (decide (100 < g))
end
theorem qJ9 {k : Nat} {x4 : S28 × Int × Int} {want : LL} (hk : 400 ≤ k) (hw : want.length < 100000) : ∀ n j : Nat, want.length - j < n → j ≤ want.length → Val (qG4 k x4 want n want (j : Int)) λb => b = true
 | 0,j,h,hj=>by omega
 | n+1,j,h,hj=>by
  rw [g7_l17_s]
  refine vI (λe=>?_) (λ_=>vE (qGo hk) (vS rfl))
  have hj':j < want.length:=by have:=of_decide_eq_true e; omega
  have i1:idxO want (j:Int)=some j:=by unfold idxO; rw [if_pos (by omega),Int.toNat_natCast]
  have i2:getO want j=some want[j]:=List.getElem?_eq_getElem hj'
  refine vE (nthLi hj') (vE i1 (vE i2 (vI (λe2=>?_) λ_=>?_)))
  ·rw [(qCf _ _).2 rfl] at e2; cases e2
  ·rw [fw_s (by omega)]
   exact qJ9 hk hw n (j+1) (by omega) (by omega)
theorem qEj (s:List Tkn):(litsOf s).length≤s.length:=by
 unfold litsOf
 rw [List.length_map]
 exact List.length_filter_le _ _
theorem seg_at {α:Type} {W seg W' done rest:List α} {t:α} (hW:W=seg++W') (hs:seg=done++t::rest):W[done.length]? = some t:=by
 subst hs; subst hW
 simp
theorem qM4 {k : Nat} {s : LN} {l : List (Nat × Nat × Nat)} {seg W' : List Tkn} {nd : S28} {e0 f0 : Int} (hk : 400 ≤ k) (hW : vwl s l = seg ++ W') (hl : seg.length < 1000) (hk2 : seg.length < k) (hg : plain seg → g21 k nd = some (litsOf seg)) :
 ∀ (rest done:List Tkn) (n:Nat),seg=done++rest→rest.length < n→plain done→Val (qEu k (l.map (mkTok s),e0) (nd,(seg.length:Int),f0) n (done.length:Int) (litsOf done)) λb=>b=true
 | rest,done,0,hs,hn,hp=>by omega
 | [],done,n+1,hs,hn,hp=>by
  rw [List.append_nil] at hs
  subst hs
  rw [qN5]
  refine vJ (J:=λz=>z=(false,(seg.length:Int),litsOf seg)) (λz hz=>?_) (λj hj=>vI (λe=>absurd (of_decide_eq_true e) (by show ¬ (seg.length:Int) < (seg.length:Int); omega)) λ_=>hj _ rfl)
  subst hz
  refine vI (λe=>by cases e) λ_=>vE (hg hp) (vI (λe=>by simp at e) λ_=>?_)
  have:=qEj seg
  exact qJ9 hk (by omega) k 0 (by omega) (by omega)
 | t::rest,done,n+1,hs,hn,hp=>by
  have hat:=seg_at hW hs
  have tl:=tk_at hat
  have hd:done.length < seg.length:=by rw [hs]; simp
  have hlen:done.length < l.length:=by have:=(List.getElem?_eq_some_iff.1 hat).1; rw [qE9] at this; exact this
  have hld:=qEj done
  rw [qN5]
  refine vJ (J:=λz=>z=(true,(done.length:Int),litsOf done)) (λz hz=>?_) (λj hj=>vI (λe=>hj _ ?_) λe=>absurd (of_decide_eq_false e) (by show ¬ ¬ (done.length:Int) < (seg.length:Int); omega))
  ·subst hz
   refine vI (λ_=>vE tl (vJ (J:=λz=>z.2=((done.length:Int),litsOf done)∧(z.1=false→¬ (t.1.f1=[35]∨t.1.f1=[102,117,110]∨t.1.f1=[60,60]))) (λz hz=>?_) (λj hj=>?_))) λe=>by cases e
   ·obtain ⟨c,i,acc⟩:=z
    obtain ⟨hz,hz2⟩:=hz
    cases hz
    refine vI (λ_=>vE (qGo hk) (vS rfl)) (λec=>?_)
    have ht:=hz2 ec
    refine vE tl (vJ (J:=λz=>z=(isLit t,(done.length:Int),litsOf done)) (λz hz=>?_) (λj hj=>?_))
    ·subst hz
     refine vJ (J:=λz=>z=(litsOf (done++[t]),(done.length:Int))) (λz hz=>?_) (λj hj=>vI (λe=>?_) (λe=>?_))
     ·subst hz
      show Val (qEu k (l.map (mkTok s),e0) (nd,(seg.length:Int),f0) n (fW .i64 ((done.length:Int)+1)) (litsOf (done++[t]))) _
      rw [fw_s (by omega),show done.length+1=(done++[t]).length by simp]
      refine qM4 hk hW hl hk2 hg rest (done++[t]) n (by rw [hs]; simp) (by simp at hn; omega) ?_
      intro x hx
      rcases List.mem_append.1 hx with hx | hx
      ·exact hp x hx
      ·rw [List.mem_singleton.1 hx]; exact ht
     ·have e:isLit t=true:=e
      refine vE tl (vE (app16 (by simp; omega)) (hj _ ?_))
      rw [qEk]
      simp [litsOf,e]
     ·have e:isLit t=false:=e
      refine hj _ ?_
      rw [qEk]
      simp [litsOf,e]
    ·refine vI (λe=>vE tl (hj _ ?_)) (λe=>hj _ ?_)
     ·have:isLit t=decide (t.1.f0≤7):=by unfold isLit; rw [e,Bool.true_and]
      rw [this]
     ·have:isLit t=false:=by unfold isLit; rw [e,Bool.false_and]
      rw [this]
   ·refine vI (λe=>hj _ ⟨rfl,λe=>(by cases e)⟩) (λe=>vE tl (vI (λe=>hj _ ⟨rfl,λe=>(by cases e)⟩) (λe2=>vE tl (hj _ ⟨rfl,λe3=>?_⟩))))
    have ne:∀ {a b:LN},eqL a b=false→¬ a=b:=λh e=>by rw [(qCf _ _).2 e] at h; cases h
    rintro (h | h | h)
    ·exact ne e h
    ·exact ne e2 h
    ·exact ne e3 h
  ·have:decide ((done.length:Int) < ((l.map (mkTok s)).length:Int))=true:=dT (by rw [List.length_map]; omega)
   rw [this]
theorem qGj (s:LN) (hb:∀ b ∈ s,b < 256) (hs:s.length≤140737488351232):∃ k,g7 k s=some true:=by
 suffices h:∃ k,Val (g7 k s) λb=>b=true by
  obtain ⟨k,b,e,hb⟩:=h
  exact ⟨k,by rw [e,hb]⟩
 by_cases h4:400 < s.length
 ·refine ⟨400,?_⟩
  unfold g7
  exact vI (λ_=>vE (qGo (Nat.le_refl _)) (vS rfl)) λe=>absurd (of_decide_eq_false e) (by omega)
 ·have scan:∀ k,1000≤k→g13 k s=some (scanN s):=λk hk=>rscan_at (by omega) hb (by unfold Sz; omega)
  by_cases h0:(scanN s).2=0
  ·obtain ⟨l,ht,es,-,-⟩:=scan_ok h0
   have hl:=l_len ht
   have hlw:(vwl s l).length≤400:=by rw [qE9]; omega
   obtain ⟨r,hr,hU⟩:=expr_uni LgL hlw (vwl_good ht (by omega)) 0
   have common : ∀ (K : Nat), 1000 ≤ K → ∀ {R : S28 × Int × Int}, g14 (K + 4010) s (l.map (mkTok s)) 0 ((l.map (mkTok s)).length : Int) 0 = some R →
    Val (if (!decide (R.2.2=0)) then ((g16 (K+4010)).bind λx5_0=>if x5_0 then (if (decide (R.2.1=0)) then (some (decide (R.1.f0=0))) else (some false)) else (some false)) else (qEu (K+4010) (l.map (mkTok s),0) R (K+4010) 0 ([]:LL))) (λb=>b=true)→Val (g7 (K+4010) s) λb=>b=true:=by
    intro K hK R h14 h
    unfold g7
    refine vI (λe=>absurd (of_decide_eq_true e) (by omega)) λ_=>vE (scan _ (by omega)) ?_
    rw [es]
    refine vJ (J:=λ_=>True) (λz _=>vI (λ_=>vE (qGo (by omega)) (vS rfl)) λ_=>vE h14 h) (λj hj=>vI (λe=>hj _ trivial) λ_=>?_)
    obtain ⟨v,e⟩:=deep_V (k:=K+4010) (L:=l.map (mkTok s)) (by omega) (by rw [List.length_map]; omega)
    exact vE e (hj _ trivial)
   cases r with
   | none =>
    refine ⟨1000+4010,common 1000 (Nat.le_refl _) (qSd (λj=>qP3 ht (by omega) (by omega)) (hr 1000 (Nat.le_refl _))) ?_⟩
    exact vI (λ_=>vE (qGo (by omega)) ⟨true,rfl,rfl⟩) λe=>by cases e
   | some x =>
    obtain ⟨nd,W'⟩:=x
    obtain ⟨-,hb',l',hn,seg,hW,hrel⟩:=hU _ rfl
    have hsl:seg.length≤400:=by have:=congrArg List.length hW; simp at this; omega
    have hw':(l.map (mkTok s)).length=seg.length+W'.length:=by have:=congrArg List.length hW; rw [qE9,List.length_append] at this; rw [List.length_map]; exact this
    obtain ⟨k0,hk0⟩:∃ k0,plain seg→∀ k,k0≤k→g21 k nd=some (litsOf seg):=by
     by_cases hp:plain seg
     ·have e1:litsOf seg=l':=hrel hp
      have hn2:evL nd l':=hn.2
      obtain ⟨k0,h⟩:=hn2 (by have:=qEj seg; rw [← e1]; omega)
      exact ⟨k0,λ_ k hk=>by rw [e1]; exact h k hk⟩
     ·exact ⟨0,λh=>absurd h hp⟩
    refine ⟨(1000+k0)+4010,common (1000+k0) (by omega) (expr_top (λj=>qP3 ht (by omega) (by omega)) (hr (1000+k0) (by omega))) ?_⟩
    refine vI (λe=>by cases e) λ_=>?_
    have ep:pos ((l.map (mkTok s)).length:Int) W'=(seg.length:Int):=by unfold pos; omega
    rw [ep]
    exact qM4 (done:=[]) (by omega) hW (by omega) (by omega) (λhp=>hk0 hp _ (by omega)) seg _ rfl (by omega) (λt ht=>by cases ht)
  ·refine ⟨1000,?_⟩
   unfold g7
   refine vI (λe=>absurd (of_decide_eq_true e) (by omega)) λ_=>vE (scan _ (Nat.le_refl _)) ?_
   refine vJ (J:=λz=>z=true) (λz hz=>?_) (λj hj=>vI (λe=>hj _ rfl) λe=>?_)
   ·subst hz
    exact vI (λ_=>vE (qGo (by omega)) (vS rfl)) λe=>by cases e
   ·rw [dF h0] at e; cases e
theorem parseLits_walk (a0:ByteArray) (W:World) (a:a0.size≤140737488351232):Calls Try.prog 7 #[.string a0] W λe W'=>e = .returned (.bool true)∧RowKit.Below W.heap.size W W':=by
 obtain ⟨k,h⟩:=qGj (a0.data.toList.map (·.toNat)) (bytes_lt a0) (by simpa using a)
 exact law_walk (g7_ok k _ true h) (by simp only [VRs,VR,AV.i,AV.y]; exact ⟨_,_,rfl,⟨a0,rfl,rfl⟩,rfl⟩) W
end Go.Proofs.Ythpplbkobokghaa.Am
namespace Go.Proofs.Ythpplbkobokghaa.parseLits
open Go.ChangeShapes Go.WideShapes Go.ChangeAt Go.RowKit
open Go.ChangeMaps (open_string shut_string)
set_option linter.unusedVariables false
theorem own:ownKnob Try.prog.godebug=none:=by kernel_rfl
set_option maxRecDepth 100000 in
theorem lifted (os : Os) (started : os.Started) (H : Type) (enc : TypeId × Value → H) :
 ReturnsInHanded {} Try.checked os 7 .any (Rows.parseLitsSpec.pre6 enc Try.prog Try.f7 Rows.parseLitsRow.domain false) (Rows.parseLitsSpec.post enc Try.prog Try.f7 false true false false):=by
 refine returnsInHanded_of_change_sized (C := Try.checked) own started (by kernel_rfl) Try.func7
  (ChangeSpec.witness6 (enc:=enc) (C:=Try.checked) false ⟨#[],#[.string ByteArray.empty],[]⟩ 8 (by kernel_rfl) (by kernel_rfl) (by kernel_rfl) (by kernel_rfl)) ?_
 intro W base args ds gs before hval0 hW hcnd hsz0 _
 have hsz:(DataW.weightsEach Try.prog (Try.f7.params.toList++Rows.parseLitsSpec.plain.varTypes Try.prog) (ds++gs)).all (· ≤ reachBytes)=true:=hsz0
 have hval:∀ (j:Nat) t v,Try.f7.params[j]? = some t→args[j]? = some v→Value.okWide Try.prog W .any base t v:=hval0
 have hW':=hW
 obtain ⟨p,q,hA0,hV,rfl,hfz,hnd⟩:=hW
 have hA:DataW.TrodAll enc Try.prog W 0 (fun _=>true) true Try.f7.params.toList args.toList ds p:=hA0
 rw [Try.params7] at hA hval hsz
 obtain ⟨v0,vs0,d0,ds0,p0,q0,hargs,rfl,rfl,h0,r0⟩:=trodAll_cons hA
 obtain ⟨rfl,rfl,rfl⟩:=trodAll_nil r0
 obtain rfl:args = #[v0]:=by cases args; simp_all
 obtain ⟨rfl,rfl⟩:=trodVars_none hV
 obtain ⟨a0,rfl,rfl,rfl,y0⟩:=open_string Try.underlying9 (hval 0 9 v0 rfl rfl) h0
 have w0:a0.size≤140737488351232:=by
  have z:=sized_string hsz (j:=0) (t:=9) rfl rfl
  rw [Array.length_toList] at z
  exact z
 clear hA0 hval0 hsz0 hsz
 refine (Am.parseLits_walk a0 W w0).mono fun e W' ⟨he,bel⟩=>?_
 subst he
 exact ⟨_,rfl,_,_,_,[],_,[],hW',trodAll_mk1 (shut_bool Try.underlying4 _),(trodAll_cons_mk (shut_string Try.underlying9 y0) trodAll_mk0),rfl,bel.frame _,fun h=>by cases h⟩
theorem over:Rows.parseLitsRow.holds Try.pinned (OpenSpec.ofChange Rows.parseLitsSpec) :=
 OpenClaim.holds_of_wide 7 Try.f7 rfl rfl rfl rfl rfl rfl rfl ⟨rfl, rfl, rfl, rfl, rfl⟩ rfl rfl rfl rfl rfl (by kernel_rfl) Try.func7 (by kernel_rfl)
  (of_decide_eq_true (by kernel_rfl)) (by unfold Func.isWrapper; first | (rw [if_pos (by decide +kernel)]; kernel_rfl) | (rw [if_neg (by decide +kernel)]; exact ⟨rfl,rfl⟩))
  (fun os started H enc _=>lifted os started H enc)
theorem proved:Rows.ParseLitsSaid:=over
#print axioms proved
end Go.Proofs.Ythpplbkobokghaa.parseLits
namespace Go.Proofs.Ythpplbkobokghaa
theorem parseLits_holds:Rows.ParseLitsSaid:=parseLits.proved
end Go.Proofs.Ythpplbkobokghaa
